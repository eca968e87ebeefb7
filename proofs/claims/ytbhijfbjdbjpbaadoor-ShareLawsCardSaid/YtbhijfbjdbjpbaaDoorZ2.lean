/- The texts of this claim, put together by program, what it does not name left out: part 2. Conditions: each theorem's own. -/
import Derived.Test.YtbhijfbjdbjpbaaDoorZ1
namespace Go.Proofs.YtbhijfbjdbjpbaaDoor.GSH
open Go.RowKit Go.Proofs.YtbhijfbjdbjpbaaDoorW.PrintWords Go.Proofs.YtbhijfbjdbjpbaaDoorW.PrintLast Go.Proofs.YtbhijfbjdbjpbaaDoorW.PrintMore
attribute [local go_sem] max2_int min2_int max_two min_two max_three min_three max_four min_four   -- for this text's walks alone
set_option linter.unusedVariables false
set_option linter.unusedSimpArgs false
def wide_Shl.f (a0_0 : Int) (a0_1 : Int) (a1 : Int) : Option (Int × Int):=if a1 ≤ 0 then (some (a0_0,a0_1)) else (if a1 < 64 then (if 0 ≤ a1 then (if 0 ≤ (wrap64 (64 - a1)) then (some (Go.bits .or .u64 (shl .u64 a0_0 a1) (shr .u64 a0_1 (wrap64 (64 - a1))),shl .u64 a0_1 a1)) else (none)) else (none)) else (if a1 < 128 then (if 0 ≤ (wrap64 (a1 - 64)) then (some (shl .u64 a0_1 (wrap64 (a1 - 64)),0)) else (none)) else (some (0,0))))
def wide_Shl.T4 : Bool × List (List Nat × List Nat):=(true,[([],[]),([0],[0]),([],[]),([1,2],[1,2]),([],[]),([4],[4]),([],[]),([6],[6]),([5,7],[5,7]),([3,8],[3,8]),([],[]),([10],[10]),([],[]),([11,12],[11,12]),([9,13],[9,13]),([14,0,1,2,3,4,5,6,7,8,9,10,11,12,13,14],[14])])
def wide_Shl.B4 : List Nat:=[0,1,0,7,0,16,0,64,240,511,0,1024,0,7168,16383,32767]
theorem wide_Shl.tab4 : rtab .any (opsOf Tryd.f79 4) = wide_Shl.T4:=by kernel_rfl
theorem wide_Shl.bits4 : waitsOk wide_Shl.T4.2 wide_Shl.B4 = true:=by kernel_rfl
set_option maxHeartbeats 8000000 in
set_option maxRecDepth 100000 in
theorem wide_Shl.calls (a0_0 : Int) (a0_1 : Int) (a1 : Int) (r1 : Int) (r2 : Int) (w : World) (h : wide_Shl.f a0_0 a0_1 a1 = some (r1,r2)) :
  Calls Tryd.prog 79 #[.agg #[.int .u64 a0_0,.int .u64 a0_1],.int .i64 a1] w fun e w' => e = .returned (.agg #[.int .u64 r1,.int .u64 r2]) ∧ Below w.heap.size w w':=by
 have hu76:=Tryd.underlying76
 have HB:=Am (Below.refl w.heap.size w)
 have H : (if a1 ≤ 0 then (some (a0_0,a0_1)) else (if a1 < 64 then (if 0 ≤ a1 then (if 0 ≤ (wrap64 (64 - a1)) then (some (Go.bits .or .u64 (shl .u64 a0_0 a1) (shr .u64 a0_1 (wrap64 (64 - a1))),shl .u64 a0_1 a1)) else (none)) else (none)) else (if a1 < 128 then (if 0 ≤ (wrap64 (a1 - 64)) then (some (shl .u64 a0_1 (wrap64 (a1 - 64)),0)) else (none)) else (some (0,0))))) = some (r1,r2):=h
 clear h
 by_cases c3 : a1 ≤ 0
 ·rw [if_pos c3] at H
  have c3b0 : decide (a1 ≤ 0) = true:=decide_eq_true c3
  clear c3
  simp only [Option.some.injEq,Prod.mk.injEq] at H
  obtain ⟨rfl,rfl⟩:=H
  go_enter Tryd.func79,Tryd.ntmps79
  go_wp2_with (first | ((with_reducible refine gate_dst (N:=2) rfl ?_);refine bxA 2 #[.int .u64 a0_0,.int .u64 a0_1] 76 ?_;intro gb155 hg w4 hbox hb;have n0_:=Am (below_step bA hb);have n1_:=Am (hbox);have n2_:=Am (gwA hg bA);have n3_:=Am (gwA hg bA);clear HB;have HB:=n0_;have BK155:=n1_;have GW155:=n2_;have GE155:=n3_;clear n0_ n1_ n2_ n3_ hb hbox hg) | ((with_reducible refine gate_dst (N:=4) rfl ?_);refine bxA 4 #[.int .u64 0,.int .u64 0] 76 ?_;intro gb156 hg w5 hbox hb;have n0_:=Am (blk_below (g:=gb155) kA hb);have n1_:=Am (below_step bA hb);have n2_:=Am (hbox);have n3_:=Am (gwA hg bA);have n4_:=Am (gwA hg bA);have n5_:=Am (neA (g:=gb155) hg kA);have n6_:=Am (neB (g:=gb155) hg kA);clear BK155 HB;have BK155:=n0_;have HB:=n1_;have BK156:=n2_;have GW156:=n3_;have GE156:=n4_;have NB155_156:=n5_;have NB156_155:=n6_;clear n0_ n1_ n2_ n3_ n4_ n5_ n6_ hb hbox hg;have hnb6:=NB155_156.out;have hnc6:=NB156_155.out;have hcz7_0 : w5.cell? ⟨gb155,0,none⟩ = some (.int .u64 a0_0):=(blk_cell BK155.out 0).trans rfl;have hcz7_1 : w5.cell? ⟨gb155,1,none⟩ = some (.int .u64 a0_1):=(blk_cell BK155.out 1).trans rfl;have hfz7_0:=blk_frozen BK155.out 0;have hfz7_1:=blk_frozen BK155.out 1;have hcz8_0 : w5.cell? ⟨gb156,0,none⟩ = some (.int .u64 0):=(blk_cell BK156.out 0).trans rfl;have hcz8_1 : w5.cell? ⟨gb156,1,none⟩ = some (.int .u64 0):=(blk_cell BK156.out 1).trans rfl;have hfz8_0:=blk_frozen BK156.out 0;have hfz8_1:=blk_frozen BK156.out 1))
  refine bodyPost_ret (results_cell_row rfl _ _ gb156 76 #[.int .u64 a0_0,.int .u64 a0_1] (0,0) _ rfl (by (with_reducible repeat (first | refine b1 ?_ _ | refine b2 ?_ | refine b3 ?_ _));refine blk_put (cs:=#[.int .u64 a0_0,.int .u64 0]) ?_ 1 _ rfl;(with_reducible repeat (first | refine b1 ?_ _ | refine b2 ?_ | refine b3 ?_ _));refine blk_put (cs:=#[.int .u64 0,.int .u64 0]) ?_ 0 _ rfl;exact kA) Tryd.underlying76 rfl (by kernel_rfl)) rfl ?_
  exact ⟨by first | rfl | (simp [errW_none,errW_some] <;> rfl) | (simp [*,errW_none,errW_some] <;> rfl),bA⟩
 ·rw [if_neg c3] at H
  have c3b0 : decide (a1 ≤ 0) = false:=decide_eq_false c3
  clear c3
  by_cases c9 : a1 < 64
  ·rw [if_pos c9] at H
   have c9b0 : decide (a1 < 64) = true:=decide_eq_true c9
   clear c9
   by_cases c10 : 0 ≤ a1
   ·rw [if_pos c10] at H
    have c10b0:=eq_true c10
    have c10b1 : decide (0 ≤ a1) = true:=decide_eq_true c10
    clear c10
    obtain ⟨ji11,hji11⟩ : ∃ j_ : Int,(shl .u64 a0_0 a1) = j_:=⟨_,rfl⟩
    replace H : (if 0 ≤ (wrap64 (64 - a1)) then (some (Go.bits .or .u64 (ji11) (shr .u64 a0_1 (wrap64 (64 - a1))),shl .u64 a0_1 a1)) else (none)) = some (r1,r2):=by first | (rw [hji11] at H;exact H) | (simp only [hji11] at H ⊢;exact H)
    have hji11_ : (IntKind.u64.wrap (a0_0 * 2 ^ min a1.toNat 64)) = ji11:=hji11
    have hji11z : a1 ≤ 64 → (IntKind.u64.wrap (a0_0 * 2 ^ a1.toNat)) = ji11:=shl_small hji11
    obtain ⟨ji12,hji12⟩ : ∃ j_ : Int,(wrap64 (64 - a1)) = j_:=⟨_,rfl⟩
    replace H : (if 0 ≤ (ji12) then (some (Go.bits .or .u64 (ji11) (shr .u64 a0_1 (ji12)),shl .u64 a0_1 a1)) else (none)) = some (r1,r2):=by first | (rw [hji12] at H;exact H) | (simp only [hji12] at H ⊢;exact H)
    have hji12w : (IntKind.i64.wrap (64 - a1)) = ji12:=(i64_w _).trans hji12
    by_cases c13 : 0 ≤ (ji12)
    ·rw [if_pos c13] at H
     have c13b0:=eq_true c13
     have c13b1 : decide (0 ≤ (ji12)) = true:=decide_eq_true c13
     clear c13
     obtain ⟨ji14,hji14⟩ : ∃ j_ : Int,(shr .u64 a0_1 (ji12)) = j_:=⟨_,rfl⟩
     replace H : (some (Go.bits .or .u64 (ji11) (ji14),shl .u64 a0_1 a1)) = some (r1,r2):=by first | (rw [hji14] at H;exact H) | (simp only [hji14] at H ⊢;exact H)
     have hji14_ : (a0_1 / 2 ^ min (ji12).toNat 64) = ji14:=hji14
     have hji14z : (ji12) ≤ 64 → (a0_1 / 2 ^ (ji12).toNat) = ji14:=shr_small hji14
     have c15b0:=eq_true (of_decide_eq_true (by first | (with_reducible assumption) | assumption) : 0 ≤ a1)
     obtain ⟨ji16,hji16⟩ : ∃ j_ : Int,(shl .u64 a0_1 a1) = j_:=⟨_,rfl⟩
     replace H : (some (Go.bits .or .u64 (ji11) (ji14),ji16)) = some (r1,r2):=by first | (rw [hji16] at H;exact H) | (simp only [hji16] at H ⊢;exact H)
     have hji16_ : (IntKind.u64.wrap (a0_1 * 2 ^ min a1.toNat 64)) = ji16:=hji16
     have hji16z : a1 ≤ 64 → (IntKind.u64.wrap (a0_1 * 2 ^ a1.toNat)) = ji16:=shl_small hji16
     simp only [Option.some.injEq,Prod.mk.injEq] at H
     obtain ⟨rfl,rfl⟩:=H
     go_enter Tryd.func79,Tryd.ntmps79
     try go_wp2_with (first | ((with_reducible refine gate_dst (N:=2) rfl ?_);refine bxA 2 #[.int .u64 a0_0,.int .u64 a0_1] 76 ?_;intro gb155 hg w17 hbox hb;have n0_:=Am (below_step bA hb);have n1_:=Am (hbox);have n2_:=Am (gwA hg bA);have n3_:=Am (gwA hg bA);clear HB;have HB:=n0_;have BK155:=n1_;have GW155:=n2_;have GE155:=n3_;clear n0_ n1_ n2_ n3_ hb hbox hg) | ((with_reducible refine gate_dst (N:=4) rfl ?_);refine bxA 4 #[.int .u64 0,.int .u64 0] 76 ?_;intro gb156 hg w18 hbox hb;have n0_:=Am (blk_below (g:=gb155) kA hb);have n1_:=Am (below_step bA hb);have n2_:=Am (hbox);have n3_:=Am (gwA hg bA);have n4_:=Am (gwA hg bA);have n5_:=Am (neA (g:=gb155) hg kA);have n6_:=Am (neB (g:=gb155) hg kA);clear BK155 HB;have BK155:=n0_;have HB:=n1_;have BK156:=n2_;have GW156:=n3_;have GE156:=n4_;have NB155_156:=n5_;have NB156_155:=n6_;clear n0_ n1_ n2_ n3_ n4_ n5_ n6_ hb hbox hg))
     have n0_:=Am (blk_drew BK155.out);have n1_:=Am (blk_drew BK156.out);have n2_:=Am (below_drew1 HB.out);clear BK155 BK156 HB;have BK155:=n0_;have BK156:=n1_;have HB:=n2_;clear n0_ n1_ n2_
     refine start_ (n:=16) (S:=fun w' => w'.cell? ⟨gb155,0,none⟩ = some (.int .u64 a0_0) ∧ w'.cell? ⟨gb155,1,none⟩ = some (.int .u64 a0_1)) (ds:=[]) #[nn,nn,nn,nn,nn,nn,nn,nn,nn,nn,nn,nn,nn,nn,nn,nn] (by kernel_rfl) rfl rfl ⟨(blk_cell BK155.out 0).trans rfl,(blk_cell BK155.out 1).trans rfl⟩ (fun hHeld => ?_);refine with_tabW wide_Shl.tab4 wide_Shl.bits4 (fun HT_ HW_ => ?_)
     generalize w18.drew = w19 at BK155 BK156 HB hHeld ⊢
     refine pure_ (i:=0) (N:=some 12) (v:=?_) (a':=?_) #[yy,nn,nn,nn,nn,nn,nn,nn,nn,nn,nn,nn,nn,nn,nn,nn] rfl rfl (any_of HT_.out (by kernel_rfl)) (fun _ _ _ h => h) (Or.inl ⟨by rfl,?_⟩) ?_ ?_
     rotate_left
     ·intro w'
      go_simp;with_reducible rfl
     rotate_left
     ·simp only [NR]
      rfl
     refine pure_ (i:=2) (N:=some 14) (v:=?_) (a':=?_) #[yy,nn,yy,nn,nn,nn,nn,nn,nn,nn,nn,nn,nn,nn,nn,nn] rfl rfl (any_of HT_.out (by kernel_rfl)) (fun _ _ _ h => h) (Or.inl ⟨by rfl,?_⟩) ?_ ?_
     rotate_left
     ·intro w'
      go_simp;with_reducible rfl
     rotate_left
     ·simp only [NR]
      rfl
     refine pure_ (i:=4) (N:=some 16) (v:=?_) (a':=?_) #[yy,nn,yy,nn,yy,nn,nn,nn,nn,nn,nn,nn,nn,nn,nn,nn] rfl rfl (any_of HT_.out (by kernel_rfl)) (fun _ _ _ h => h) (Or.inl ⟨by rfl,?_⟩) ?_ ?_
     rotate_left
     ·intro w'
      go_simp;with_reducible rfl
     rotate_left
     ·simp only [NR]
      rfl
     refine pure_ (i:=6) (N:=some 18) (v:=?_) (a':=?_) #[yy,nn,yy,nn,yy,nn,yy,nn,nn,nn,nn,nn,nn,nn,nn,nn] rfl rfl (any_of HT_.out (by kernel_rfl)) (fun _ _ _ h => h) (Or.inl ⟨by rfl,?_⟩) ?_ ?_
     rotate_left
     ·intro w'
      go_simp;with_reducible rfl
     rotate_left
     ·simp only [NR]
      rfl
     refine pure_ (i:=7) (N:=some 19) (v:=?_) (a':=?_) #[yy,nn,yy,nn,yy,nn,yy,yy,nn,nn,nn,nn,nn,nn,nn,nn] rfl rfl (any_of HT_.out (by kernel_rfl)) (fun _ _ _ h => h) (Or.inl ⟨by rfl,?_⟩) ?_ ?_
     rotate_left
     ·intro w'
      go_simp;with_reducible rfl
     rotate_left
     ·simp only [NR]
      rfl
     refine pure_ (i:=10) (N:=some 22) (v:=?_) (a':=?_) #[yy,nn,yy,nn,yy,nn,yy,yy,nn,nn,yy,nn,nn,nn,nn,nn] rfl rfl (any_of HT_.out (by kernel_rfl)) (fun _ _ _ h => h) (Or.inl ⟨by rfl,?_⟩) ?_ ?_
     rotate_left
     ·intro w'
      go_simp;with_reducible rfl
     rotate_left
     ·simp only [NR]
      rfl
     refine pure_ (i:=12) (N:=some 24) (v:=?_) (a':=?_) #[yy,nn,yy,nn,yy,nn,yy,yy,nn,nn,yy,nn,yy,nn,nn,nn] rfl rfl (any_of HT_.out (by kernel_rfl)) (fun _ _ _ h => h) (Or.inl ⟨by rfl,?_⟩) ?_ ?_
     rotate_left
     ·intro w'
      go_simp;with_reducible rfl
     rotate_left
     ·simp only [NR]
      rfl
     refine take_ (i:=1) (N:=some 13) (v:=?_) (a':=?_) #[yy,yy,yy,nn,yy,nn,yy,yy,nn,nn,yy,nn,yy,nn,nn,nn] rfl rfl (take_ofW HT_.out HW_.out (by kernel_rfl)) (fun _ _ _ h => h) (Or.inl ⟨by rfl,?_⟩) hHeld ?_ ?_
     rotate_left
     ·rintro w' ⟨s0,s1⟩
      go_simp;with_reducible rfl
     rotate_left
     ·simp only [NR]
      rfl
     refine pure_ (i:=3) (N:=some 15) (v:=?_) (a':=?_) #[yy,yy,yy,yy,yy,nn,yy,yy,nn,nn,yy,nn,yy,nn,nn,nn] rfl rfl (any_of HT_.out (by kernel_rfl)) (fun _ _ _ h => h) (Or.inl ⟨by rfl,?_⟩) ?_ ?_
     rotate_left
     ·intro w'
      go_simp;with_reducible rfl
     rotate_left
     ·simp only [NR]
      rfl
     refine take_ (i:=5) (N:=some 17) (v:=?_) (a':=?_) #[yy,yy,yy,yy,yy,yy,yy,yy,nn,nn,yy,nn,yy,nn,nn,nn] rfl rfl (take_ofW HT_.out HW_.out (by kernel_rfl)) (fun _ _ _ h => h) (Or.inl ⟨by rfl,?_⟩) hHeld ?_ ?_
     rotate_left
     ·rintro w' ⟨s0,s1⟩
      go_simp;with_reducible rfl
     rotate_left
     ·simp only [NR]
      rfl
     refine pure_ (i:=8) (N:=some 20) (v:=?_) (a':=?_) #[yy,yy,yy,yy,yy,yy,yy,yy,yy,nn,yy,nn,yy,nn,nn,nn] rfl rfl (any_of HT_.out (by kernel_rfl)) (fun _ _ _ h => h) (Or.inl ⟨by rfl,?_⟩) ?_ ?_
     rotate_left
     ·intro w'
      go_simp;with_reducible rfl
     rotate_left
     ·simp only [NR]
      rfl
     refine pure_ (i:=9) (N:=some 21) (v:=?_) (a':=?_) #[yy,yy,yy,yy,yy,yy,yy,yy,yy,yy,yy,nn,yy,nn,nn,nn] rfl rfl (any_of HT_.out (by kernel_rfl)) (fun _ _ _ h => h) (Or.inl ⟨by rfl,?_⟩) ?_ ?_
     rotate_left
     ·intro w'
      go_simp;with_reducible rfl
     rotate_left
     ·simp only [NR]
      rfl
     refine take_ (i:=11) (N:=some 23) (v:=?_) (a':=?_) #[yy,yy,yy,yy,yy,yy,yy,yy,yy,yy,yy,yy,yy,nn,nn,nn] rfl rfl (take_ofW HT_.out HW_.out (by kernel_rfl)) (fun _ _ _ h => h) (Or.inl ⟨by rfl,?_⟩) hHeld ?_ ?_
     rotate_left
     ·rintro w' ⟨s0,s1⟩
      go_simp;with_reducible rfl
     rotate_left
     ·simp only [NR]
      rfl
     refine pure_ (i:=13) (N:=some 25) (v:=?_) (a':=?_) #[yy,yy,yy,yy,yy,yy,yy,yy,yy,yy,yy,yy,yy,yy,nn,nn] rfl rfl (any_of HT_.out (by kernel_rfl)) (fun _ _ _ h => h) (Or.inl ⟨by rfl,?_⟩) ?_ ?_
     rotate_left
     ·intro w'
      go_simp;with_reducible rfl
     rotate_left
     ·simp only [NR]
      rfl
     refine pure_ (i:=14) (N:=some 26) (v:=?_) (a':=?_) #[yy,yy,yy,yy,yy,yy,yy,yy,yy,yy,yy,yy,yy,yy,yy,nn] rfl rfl (any_of HT_.out (by kernel_rfl)) (fun _ _ _ h => h) (Or.inl ⟨by rfl,?_⟩) ?_ ?_
     rotate_left
     ·intro w'
      go_simp;with_reducible rfl
     rotate_left
     ·simp only [NR]
      rfl
     refine one_ (i:=15) (N:=none) #[yy,yy,yy,yy,yy,yy,yy,yy,yy,yy,yy,yy,yy,yy,yy,yy] rfl rfl (one_of HT_.out (by kernel_rfl)) (by decide) (fun K hK => ?_)
     have hs20 : w19.cell? ⟨gb156,0,none⟩ = some (.int .u64 0):=(blk_cell BK156.out 0).trans rfl
     have hfs20:=blk_frozen BK156.out 0
     have hns20_0:=NB155_156.out
     have hms20_0:=NB156_155.out
     have hs21 : w19.cell? ⟨gb156,1,none⟩ = some (.int .u64 0):=(blk_cell BK156.out 1).trans rfl
     have hfs21:=blk_frozen BK156.out 1
     have hns21_0:=NB155_156.out
     have hms21_0:=NB156_155.out
     refine skip_ (w1:=?_) (by rfl) rfl ?_ ?_
     rotate_left
     ·go_simp
      rfl
     refine hK.out _ _ ⟨((cell_far (p:=⟨gb156,_,none⟩) NB155_156.out _).trans (((cell_far (p:=⟨gb156,_,none⟩) NB155_156.out _).trans (hHeld.1)))),((cell_far (p:=⟨gb156,_,none⟩) NB155_156.out _).trans (((cell_far (p:=⟨gb156,_,none⟩) NB155_156.out _).trans (hHeld.2))))⟩ (fun hHeld => ?_)
     clear hK K
     refine done_ (done_of HT_.out (by kernel_rfl)) ?_
     try go_wp2
     refine bodyPost_ret (results_cell_row rfl _ _ gb156 76 #[.int .u64 (Go.bits .or .u64 (ji11) (ji14)),.int .u64 ji16] (0,0) _ rfl (by (with_reducible repeat (first | refine b1 ?_ _ | refine b2 ?_ | refine b3 ?_ _));refine blk_put (cs:=#[.int .u64 (Go.bits .or .u64 (ji11) (ji14)),.int .u64 0]) ?_ 1 _ rfl;(with_reducible repeat (first | refine b1 ?_ _ | refine b2 ?_ | refine b3 ?_ _));refine blk_put (cs:=#[.int .u64 0,.int .u64 0]) ?_ 0 _ rfl;exact kA) Tryd.underlying76 rfl (by kernel_rfl)) rfl ?_
     exact ⟨by first | rfl | (simp [errW_none,errW_some] <;> rfl) | (simp only [← hji11,← hji12,← hji14,← hji16];first | rfl | (simp [errW_none,errW_some] <;> rfl)) | (simp [*,errW_none,errW_some] <;> rfl),bA⟩
    ·rw [if_neg c13] at H
     exact absurd H (by simp)
   ·rw [if_neg c10] at H
    exact absurd H (by simp)
  ·rw [if_neg c9] at H
   have c9b0 : decide (a1 < 64) = false:=decide_eq_false c9
   clear c9
   by_cases c22 : a1 < 128
   ·rw [if_pos c22] at H
    have c22b0 : decide (a1 < 128) = true:=decide_eq_true c22
    clear c22
    obtain ⟨ji23,hji23⟩ : ∃ j_ : Int,(wrap64 (a1 - 64)) = j_:=⟨_,rfl⟩
    replace H : (if 0 ≤ (ji23) then (some (shl .u64 a0_1 (ji23),0)) else (none)) = some (r1,r2):=by first | (rw [hji23] at H;exact H) | (simp only [hji23] at H ⊢;exact H)
    have hji23w : (IntKind.i64.wrap (a1 - 64)) = ji23:=(i64_w _).trans hji23
    by_cases c24 : 0 ≤ (ji23)
    ·rw [if_pos c24] at H
     have c24b0:=eq_true c24
     have c24b1 : decide (0 ≤ (ji23)) = true:=decide_eq_true c24
     clear c24
     obtain ⟨ji25,hji25⟩ : ∃ j_ : Int,(shl .u64 a0_1 (ji23)) = j_:=⟨_,rfl⟩
     replace H : (some (ji25,0)) = some (r1,r2):=by first | (rw [hji25] at H;exact H) | (simp only [hji25] at H ⊢;exact H)
     have hji25_ : (IntKind.u64.wrap (a0_1 * 2 ^ min (ji23).toNat 64)) = ji25:=hji25
     have hji25z : (ji23) ≤ 64 → (IntKind.u64.wrap (a0_1 * 2 ^ (ji23).toNat)) = ji25:=shl_small hji25
     simp only [Option.some.injEq,Prod.mk.injEq] at H
     obtain ⟨rfl,rfl⟩:=H
     go_enter Tryd.func79,Tryd.ntmps79
     go_wp2_with (first | ((with_reducible refine gate_dst (N:=2) rfl ?_);refine bxA 2 #[.int .u64 a0_0,.int .u64 a0_1] 76 ?_;intro gb155 hg w26 hbox hb;have n0_:=Am (below_step bA hb);have n1_:=Am (hbox);have n2_:=Am (gwA hg bA);have n3_:=Am (gwA hg bA);clear HB;have HB:=n0_;have BK155:=n1_;have GW155:=n2_;have GE155:=n3_;clear n0_ n1_ n2_ n3_ hb hbox hg) | ((with_reducible refine gate_dst (N:=4) rfl ?_);refine bxA 4 #[.int .u64 0,.int .u64 0] 76 ?_;intro gb156 hg w27 hbox hb;have n0_:=Am (blk_below (g:=gb155) kA hb);have n1_:=Am (below_step bA hb);have n2_:=Am (hbox);have n3_:=Am (gwA hg bA);have n4_:=Am (gwA hg bA);have n5_:=Am (neA (g:=gb155) hg kA);have n6_:=Am (neB (g:=gb155) hg kA);clear BK155 HB;have BK155:=n0_;have HB:=n1_;have BK156:=n2_;have GW156:=n3_;have GE156:=n4_;have NB155_156:=n5_;have NB156_155:=n6_;clear n0_ n1_ n2_ n3_ n4_ n5_ n6_ hb hbox hg;have hnb28:=NB155_156.out;have hnc28:=NB156_155.out;have hcz29_0 : w27.cell? ⟨gb155,0,none⟩ = some (.int .u64 a0_0):=(blk_cell BK155.out 0).trans rfl;have hcz29_1 : w27.cell? ⟨gb155,1,none⟩ = some (.int .u64 a0_1):=(blk_cell BK155.out 1).trans rfl;have hfz29_0:=blk_frozen BK155.out 0;have hfz29_1:=blk_frozen BK155.out 1;have hcz30_0 : w27.cell? ⟨gb156,0,none⟩ = some (.int .u64 0):=(blk_cell BK156.out 0).trans rfl;have hcz30_1 : w27.cell? ⟨gb156,1,none⟩ = some (.int .u64 0):=(blk_cell BK156.out 1).trans rfl;have hfz30_0:=blk_frozen BK156.out 0;have hfz30_1:=blk_frozen BK156.out 1))
     refine bodyPost_ret (results_cell_row rfl _ _ gb156 76 #[.int .u64 ji25,.int .u64 0] (0,0) _ rfl (by (with_reducible repeat (first | refine b1 ?_ _ | refine b2 ?_ | refine b3 ?_ _));refine blk_put (cs:=#[.int .u64 ji25,.int .u64 0]) ?_ 1 _ rfl;(with_reducible repeat (first | refine b1 ?_ _ | refine b2 ?_ | refine b3 ?_ _));refine blk_put (cs:=#[.int .u64 0,.int .u64 0]) ?_ 0 _ rfl;exact kA) Tryd.underlying76 rfl (by kernel_rfl)) rfl ?_
     exact ⟨by first | rfl | (simp [errW_none,errW_some] <;> rfl) | (simp only [← hji23,← hji25];first | rfl | (simp [errW_none,errW_some] <;> rfl)) | (simp [*,errW_none,errW_some] <;> rfl),bA⟩
    ·rw [if_neg c24] at H
     exact absurd H (by simp)
   ·rw [if_neg c22] at H
    have c22b0 : decide (a1 < 128) = false:=decide_eq_false c22
    clear c22
    simp only [Option.some.injEq,Prod.mk.injEq] at H
    obtain ⟨rfl,rfl⟩:=H
    go_enter Tryd.func79,Tryd.ntmps79
    go_wp2_with (first | ((with_reducible refine gate_dst (N:=2) rfl ?_);refine bxA 2 #[.int .u64 a0_0,.int .u64 a0_1] 76 ?_;intro gb155 hg w31 hbox hb;have n0_:=Am (below_step bA hb);have n1_:=Am (hbox);have n2_:=Am (gwA hg bA);have n3_:=Am (gwA hg bA);clear HB;have HB:=n0_;have BK155:=n1_;have GW155:=n2_;have GE155:=n3_;clear n0_ n1_ n2_ n3_ hb hbox hg) | ((with_reducible refine gate_dst (N:=4) rfl ?_);refine bxA 4 #[.int .u64 0,.int .u64 0] 76 ?_;intro gb156 hg w32 hbox hb;have n0_:=Am (blk_below (g:=gb155) kA hb);have n1_:=Am (below_step bA hb);have n2_:=Am (hbox);have n3_:=Am (gwA hg bA);have n4_:=Am (gwA hg bA);have n5_:=Am (neA (g:=gb155) hg kA);have n6_:=Am (neB (g:=gb155) hg kA);clear BK155 HB;have BK155:=n0_;have HB:=n1_;have BK156:=n2_;have GW156:=n3_;have GE156:=n4_;have NB155_156:=n5_;have NB156_155:=n6_;clear n0_ n1_ n2_ n3_ n4_ n5_ n6_ hb hbox hg;have hnb33:=NB156_155.out;have hnc33:=NB155_156.out;have hcz34_0 : w32.cell? ⟨gb156,0,none⟩ = some (.int .u64 0):=(blk_cell BK156.out 0).trans rfl;have hcz34_1 : w32.cell? ⟨gb156,1,none⟩ = some (.int .u64 0):=(blk_cell BK156.out 1).trans rfl;have hfz34_0:=blk_frozen BK156.out 0;have hfz34_1:=blk_frozen BK156.out 1))
    refine bodyPost_ret (results_cell_row rfl _ _ gb156 76 #[.int .u64 0,.int .u64 0] (0,0) _ rfl (by (with_reducible repeat (first | refine b1 ?_ _ | refine b2 ?_ | refine b3 ?_ _));refine blk_put (cs:=#[.int .u64 0,.int .u64 0]) ?_ 1 _ rfl;(with_reducible repeat (first | refine b1 ?_ _ | refine b2 ?_ | refine b3 ?_ _));refine blk_put (cs:=#[.int .u64 0,.int .u64 0]) ?_ 0 _ rfl;exact kA) Tryd.underlying76 rfl (by kernel_rfl)) rfl ?_
    exact ⟨by first | rfl | (simp [errW_none,errW_some] <;> rfl) | (simp [*,errW_none,errW_some] <;> rfl),bA⟩

def config_asked_bounds.f (a0_0 : Int) (a0_1 : Int) (a0_2 : Int) (a0_3 : Int) (a0_4 : Int) (a0_5 : Int) (a0_6 : Int) (a0_7 : Int) : Option (Int × Int × Int × Int):=if a0_4 = 0 then ((wide_Of.f 0).bind fun bt160 => ((wide_Of.f 1).bind fun bt162 => (some (bt160.1,bt160.2,bt162.1,bt162.2)))) else ((config_asked_keeps.f a0_0 a0_1 a0_2 a0_3 a0_4 a0_5 a0_6 a0_7).bind fun t164 => ((config_asked_most.f a0_0 a0_1 a0_2 a0_3 a0_4 a0_5 a0_6 a0_7).bind fun t165 => ((config_up.f (wrap64 (t165 * 81)) 2147483648).bind fun t166 => ((config_asked_area.f a0_0 a0_1 a0_2 a0_3 a0_4 a0_5 a0_6 a0_7).bind fun t167 => ((wide_Of.f (IntKind.u64.wrap (t167))).bind fun bt168 => ((wide_Shl.f bt168.1 bt168.2 32).bind fun bt170 => ((wide_Of.f (IntKind.u64.wrap (a0_4))).bind fun bt172 => ((config_asked_area.f a0_0 a0_1 a0_2 a0_3 a0_4 a0_5 a0_6 a0_7).bind fun t174 => ((wide_Times.f bt172.1 bt172.2 (IntKind.u64.wrap (wrap64 ((wrap64 (258048 * (wrap64 (t164 * (wrap64 (1 + t166)))))) + (wrap64 (2 * t174)))))).bind fun bt175 => ((wide_Add.f bt175.1 bt175.2.1 bt170.1 bt170.2).bind fun bt178 => (some (bt178.1,bt178.2.1,bt170.1,bt170.2))))))))))))
def config_asked_bounds.T3 : Bool × List (List Nat × List Nat):=(true,[([],[]),([0],[0]),([],[]),([2,1],[2]),([3],[3]),([4,3],[4]),([5],[5]),([1,6],[1,6]),([7,5,0,1,2,3,4,5,6,7],[7])])
def config_asked_bounds.B3 : List Nat:=[0,1,0,7,15,31,63,127,255]
theorem config_asked_bounds.tab3 : rtab .any (opsOf Tryd.f65 3) = config_asked_bounds.T3:=by kernel_rfl
theorem config_asked_bounds.bits3 : waitsOk config_asked_bounds.T3.2 config_asked_bounds.B3 = true:=by kernel_rfl
def config_asked_bounds.T5 : Bool × List (List Nat × List Nat):=(true,[([],[]),([0],[0]),([1],[1]),([2],[2]),([3],[3]),([],[]),([5],[5]),([],[]),([7,4],[7]),([8],[8]),([6,9],[6,9]),([10],[10]),([4,11,8],[4,11]),([12],[12]),([13],[13]),([13],[13]),([14,12,0,1,2,3,4,5,6,7,8,9,10,11,12,13,14],[14])])
def config_asked_bounds.B5 : List Nat:=[0,1,3,7,15,0,32,0,159,415,1023,2047,4095,8191,16383,16383,32767]
theorem config_asked_bounds.tab5 : rtab .any (opsOf Tryd.f65 5) = config_asked_bounds.T5:=by kernel_rfl
theorem config_asked_bounds.bits5 : waitsOk config_asked_bounds.T5.2 config_asked_bounds.B5 = true:=by kernel_rfl
set_option maxHeartbeats 8000000 in
set_option maxRecDepth 100000 in
theorem config_asked_bounds.calls (a0_0 : Int) (a0_1 : Int) (a0_2 : Int) (a0_3 : Int) (a0_4 : Int) (a0_5 : Int) (a0_6 : Int) (a0_7 : Int) (r1 : Int) (r2 : Int) (r3 : Int) (r4 : Int) (w : World) (h : config_asked_bounds.f a0_0 a0_1 a0_2 a0_3 a0_4 a0_5 a0_6 a0_7 = some (r1,r2,r3,r4)) :
  Calls Tryd.prog 65 #[.agg #[.int .i64 a0_0,.int .i64 a0_1,.int .i64 a0_2,.int .i64 a0_3,.int .i64 a0_4,.int .i64 a0_5,.int .i64 a0_6,.int .i64 a0_7]] w fun e w' => e = .returned (.tuple #[.agg #[.int .u64 r1,.int .u64 r2],.agg #[.int .u64 r3,.int .u64 r4]]) ∧ Below w.heap.size w w':=by
 have hu69:=Tryd.underlying69
 have hu76:=Tryd.underlying76
 have HB:=Am (Below.refl w.heap.size w)
 have H : (if a0_4 = 0 then ((wide_Of.f 0).bind fun bt160 => ((wide_Of.f 1).bind fun bt162 => (some (bt160.1,bt160.2,bt162.1,bt162.2)))) else ((config_asked_keeps.f a0_0 a0_1 a0_2 a0_3 a0_4 a0_5 a0_6 a0_7).bind fun t164 => ((config_asked_most.f a0_0 a0_1 a0_2 a0_3 a0_4 a0_5 a0_6 a0_7).bind fun t165 => ((config_up.f (wrap64 (t165 * 81)) 2147483648).bind fun t166 => ((config_asked_area.f a0_0 a0_1 a0_2 a0_3 a0_4 a0_5 a0_6 a0_7).bind fun t167 => ((wide_Of.f (IntKind.u64.wrap (t167))).bind fun bt168 => ((wide_Shl.f bt168.1 bt168.2 32).bind fun bt170 => ((wide_Of.f (IntKind.u64.wrap (a0_4))).bind fun bt172 => ((config_asked_area.f a0_0 a0_1 a0_2 a0_3 a0_4 a0_5 a0_6 a0_7).bind fun t174 => ((wide_Times.f bt172.1 bt172.2 (IntKind.u64.wrap (wrap64 ((wrap64 (258048 * (wrap64 (t164 * (wrap64 (1 + t166)))))) + (wrap64 (2 * t174)))))).bind fun bt175 => ((wide_Add.f bt175.1 bt175.2.1 bt170.1 bt170.2).bind fun bt178 => (some (bt178.1,bt178.2.1,bt170.1,bt170.2))))))))))))) = some (r1,r2,r3,r4):=h
 clear h
 by_cases c2 : a0_4 = 0
 ·rw [if_pos c2] at H
  have c2b0 : (a0_4 == 0) = true:=beq_iff_eq.mpr c2
  have c2b1 : (a0_4 != 0) = false:=bne_eq_false_iff_eq.mpr c2
  clear c2;replace H:=Option.bind_eq_some_iff.mp H;obtain ⟨⟨t160,t161⟩,A30,H⟩:=H;replace H : ((wide_Of.f 1).bind fun bt162 => (some (t160,t161,bt162.1,bt162.2))) = some (r1,r2,r3,r4):=H;have A3:=Aside0.mk A30;clear A30;replace H:=Option.bind_eq_some_iff.mp H;obtain ⟨⟨t162,t163⟩,A40,H⟩:=H;replace H : (some (t160,t161,t162,t163)) = some (r1,r2,r3,r4):=H;have A4:=Aside0.mk A40;clear A40
  simp only [Option.some.injEq,Prod.mk.injEq] at H
  obtain ⟨rfl,rfl,rfl,rfl⟩:=H
  go_enter Tryd.func65,Tryd.ntmps65
  go_wp2_with (first | ((with_reducible refine gate_dst (N:=1) rfl ?_);refine bxA 1 #[.int .i64 a0_0,.int .i64 a0_1,.int .i64 a0_2,.int .i64 a0_3,.int .i64 a0_4,.int .i64 a0_5,.int .i64 a0_6,.int .i64 a0_7] 69 ?_;intro gb157 hg w5 hbox hb;have n0_:=Am (below_step bA hb);have n1_:=Am (hbox);have n2_:=Am (gwA hg bA);have n3_:=Am (gwA hg bA);clear HB;have HB:=n0_;have BK157:=n1_;have GW157:=n2_;have GE157:=n3_;clear n0_ n1_ n2_ n3_ hb hbox hg) | ((with_reducible refine gate_dst (N:=2) rfl ?_);refine bxA 2 #[.int .u64 0,.int .u64 0] 76 ?_;intro gb158 hg w6 hbox hb;have n0_:=Am (blk_below (g:=gb157) kA hb);have n1_:=Am (below_step bA hb);have n2_:=Am (hbox);have n3_:=Am (gwA hg bA);have n4_:=Am (gwA hg bA);have n5_:=Am (neA (g:=gb157) hg kA);have n6_:=Am (neB (g:=gb157) hg kA);clear BK157 HB;have BK157:=n0_;have HB:=n1_;have BK158:=n2_;have GW158:=n3_;have GE158:=n4_;have NB157_158:=n5_;have NB158_157:=n6_;clear n0_ n1_ n2_ n3_ n4_ n5_ n6_ hb hbox hg) | ((with_reducible refine gate_dst (N:=3) rfl ?_);refine bxA 3 #[.int .u64 0,.int .u64 0] 76 ?_;intro gb159 hg w7 hbox hb;have n0_:=Am (blk_below (g:=gb157) kA hb);have n1_:=Am (blk_below (g:=gb158) kA hb);have n2_:=Am (below_step bA hb);have n3_:=Am (hbox);have n4_:=Am (gwA hg bA);have n5_:=Am (gwA hg bA);have n6_:=Am (neA (g:=gb157) hg kA);have n7_:=Am (neB (g:=gb157) hg kA);have n8_:=Am (neA (g:=gb158) hg kA);have n9_:=Am (neB (g:=gb158) hg kA);clear BK157 BK158 HB;have BK157:=n0_;have BK158:=n1_;have HB:=n2_;have BK159:=n3_;have GW159:=n4_;have GE159:=n5_;have NB157_159:=n6_;have NB159_157:=n7_;have NB158_159:=n8_;have NB159_158:=n9_;clear n0_ n1_ n2_ n3_ n4_ n5_ n6_ n7_ n8_ n9_ hb hbox hg;have hnb8:=NB157_158.out;have hnc8:=NB158_157.out;have hnb9:=NB157_159.out;have hnc9:=NB159_157.out;have hcz10_0 : w7.cell? ⟨gb157,0,none⟩ = some (.int .i64 a0_0):=(blk_cell BK157.out 0).trans rfl;have hcz10_1 : w7.cell? ⟨gb157,1,none⟩ = some (.int .i64 a0_1):=(blk_cell BK157.out 1).trans rfl;have hcz10_2 : w7.cell? ⟨gb157,2,none⟩ = some (.int .i64 a0_2):=(blk_cell BK157.out 2).trans rfl;have hcz10_3 : w7.cell? ⟨gb157,3,none⟩ = some (.int .i64 a0_3):=(blk_cell BK157.out 3).trans rfl;have hcz10_4 : w7.cell? ⟨gb157,4,none⟩ = some (.int .i64 a0_4):=(blk_cell BK157.out 4).trans rfl;have hcz10_5 : w7.cell? ⟨gb157,5,none⟩ = some (.int .i64 a0_5):=(blk_cell BK157.out 5).trans rfl;have hcz10_6 : w7.cell? ⟨gb157,6,none⟩ = some (.int .i64 a0_6):=(blk_cell BK157.out 6).trans rfl;have hcz10_7 : w7.cell? ⟨gb157,7,none⟩ = some (.int .i64 a0_7):=(blk_cell BK157.out 7).trans rfl;have hfz10_0:=blk_frozen BK157.out 0;have hfz10_1:=blk_frozen BK157.out 1;have hfz10_2:=blk_frozen BK157.out 2;have hfz10_3:=blk_frozen BK157.out 3;have hfz10_4:=blk_frozen BK157.out 4;have hfz10_5:=blk_frozen BK157.out 5;have hfz10_6:=blk_frozen BK157.out 6;have hfz10_7:=blk_frozen BK157.out 7) | ((with_reducible refine gate_callee (f:=44) rfl ?_);refine goesL_ (some 9) rfl rfl Tryd.func44 (by kernel_rfl) rfl #[.int .u64 0] rfl aA ?_;(with_reducible refine (wide_Of.calls 0 t160 t161 _ A3.out).mono ?_);rintro e w11 ⟨rfl,hb⟩;refine ⟨_,rfl,?_⟩;have n0_:=Am (blk_below (g:=gb157) kA hb);have n1_:=Am (blk_below (g:=gb158) kA hb);have n2_:=Am (blk_below (g:=gb159) kA hb);have n3_:=Am (below_step bA hb);clear BK157 BK158 BK159 HB;have BK157:=n0_;have BK158:=n1_;have BK159:=n2_;have HB:=n3_;clear n0_ n1_ n2_ n3_;(try clear hb)) | ((with_reducible refine gate_callee (f:=44) rfl ?_);refine goesL_ (some 10) rfl rfl Tryd.func44 (by kernel_rfl) rfl #[.int .u64 1] rfl aA ?_;(with_reducible refine (wide_Of.calls 1 t162 t163 _ A4.out).mono ?_);rintro e w12 ⟨rfl,hb⟩;refine ⟨_,rfl,?_⟩;have n0_:=Am (blk_below (g:=gb157) kA hb);have n1_:=Am (blk_below (g:=gb158) kA hb);have n2_:=Am (blk_below (g:=gb159) kA hb);have n3_:=Am (below_step bA hb);clear BK157 BK158 BK159 HB;have BK157:=n0_;have BK158:=n1_;have BK159:=n2_;have HB:=n3_;clear n0_ n1_ n2_ n3_;(try clear hb);have hnb13:=NB158_159.out;have hnc13:=NB159_158.out;have hcz14_0 : w12.cell? ⟨gb158,0,none⟩ = some (.int .u64 0):=(blk_cell BK158.out 0).trans rfl;have hcz14_1 : w12.cell? ⟨gb158,1,none⟩ = some (.int .u64 0):=(blk_cell BK158.out 1).trans rfl;have hfz14_0:=blk_frozen BK158.out 0;have hfz14_1:=blk_frozen BK158.out 1;have hcz15_0 : w12.cell? ⟨gb159,0,none⟩ = some (.int .u64 0):=(blk_cell BK159.out 0).trans rfl;have hcz15_1 : w12.cell? ⟨gb159,1,none⟩ = some (.int .u64 0):=(blk_cell BK159.out 1).trans rfl;have hfz15_0:=blk_frozen BK159.out 0;have hfz15_1:=blk_frozen BK159.out 1))
  refine bodyPost_ret (results_cc rfl _ _ gb158 gb159 76 76 #[.int .u64 t160,.int .u64 t161] #[.int .u64 t162,.int .u64 t163] (0,0) (0,0) _ _ rfl (by (with_reducible repeat (first | refine b1 ?_ _ | refine b2 ?_ | refine b3 ?_ _));refine blk_far ?_ NB158_159.out _;(with_reducible repeat (first | refine b1 ?_ _ | refine b2 ?_ | refine b3 ?_ _));refine blk_far ?_ NB158_159.out _;(with_reducible repeat (first | refine b1 ?_ _ | refine b2 ?_ | refine b3 ?_ _));refine blk_put (cs:=#[.int .u64 t160,.int .u64 0]) ?_ 1 _ rfl;(with_reducible repeat (first | refine b1 ?_ _ | refine b2 ?_ | refine b3 ?_ _));refine blk_put (cs:=#[.int .u64 0,.int .u64 0]) ?_ 0 _ rfl;exact kA) Tryd.underlying76 rfl (by kernel_rfl) rfl (by (with_reducible repeat (first | refine b1 ?_ _ | refine b2 ?_ | refine b3 ?_ _));refine blk_put (cs:=#[.int .u64 t162,.int .u64 0]) ?_ 1 _ rfl;(with_reducible repeat (first | refine b1 ?_ _ | refine b2 ?_ | refine b3 ?_ _));refine blk_put (cs:=#[.int .u64 0,.int .u64 0]) ?_ 0 _ rfl;(with_reducible repeat (first | refine b1 ?_ _ | refine b2 ?_ | refine b3 ?_ _));refine blk_far ?_ NB159_158.out _;(with_reducible repeat (first | refine b1 ?_ _ | refine b2 ?_ | refine b3 ?_ _));refine blk_far ?_ NB159_158.out _;exact kA) Tryd.underlying76 rfl (by kernel_rfl)) rfl ?_
  exact ⟨by first | rfl | (simp [errW_none,errW_some] <;> rfl) | (simp [*,errW_none,errW_some] <;> rfl),bA⟩
 ·rw [if_neg c2] at H
  have c2b0 : (a0_4 == 0) = false:=beq_eq_false_iff_ne.mpr c2
  have c2b1 : (a0_4 != 0) = true:=bne_iff_ne.mpr c2
  replace H:=Option.bind_eq_some_iff.mp H;obtain ⟨t164,A160,H⟩:=H;replace H : ((config_asked_most.f a0_0 a0_1 a0_2 a0_3 a0_4 a0_5 a0_6 a0_7).bind fun t165 => ((config_up.f (wrap64 (t165 * 81)) 2147483648).bind fun t166 => ((config_asked_area.f a0_0 a0_1 a0_2 a0_3 a0_4 a0_5 a0_6 a0_7).bind fun t167 => ((wide_Of.f (IntKind.u64.wrap (t167))).bind fun bt168 => ((wide_Shl.f bt168.1 bt168.2 32).bind fun bt170 => ((wide_Of.f (IntKind.u64.wrap (a0_4))).bind fun bt172 => ((config_asked_area.f a0_0 a0_1 a0_2 a0_3 a0_4 a0_5 a0_6 a0_7).bind fun t174 => ((wide_Times.f bt172.1 bt172.2 (IntKind.u64.wrap (wrap64 ((wrap64 (258048 * (wrap64 (t164 * (wrap64 (1 + t166)))))) + (wrap64 (2 * t174)))))).bind fun bt175 => ((wide_Add.f bt175.1 bt175.2.1 bt170.1 bt170.2).bind fun bt178 => (some (bt178.1,bt178.2.1,bt170.1,bt170.2))))))))))) = some (r1,r2,r3,r4):=H;have A16:=Aside0.mk A160;clear A160;replace H:=Option.bind_eq_some_iff.mp H;obtain ⟨t165,A170,H⟩:=H;replace H : ((config_up.f (wrap64 (t165 * 81)) 2147483648).bind fun t166 => ((config_asked_area.f a0_0 a0_1 a0_2 a0_3 a0_4 a0_5 a0_6 a0_7).bind fun t167 => ((wide_Of.f (IntKind.u64.wrap (t167))).bind fun bt168 => ((wide_Shl.f bt168.1 bt168.2 32).bind fun bt170 => ((wide_Of.f (IntKind.u64.wrap (a0_4))).bind fun bt172 => ((config_asked_area.f a0_0 a0_1 a0_2 a0_3 a0_4 a0_5 a0_6 a0_7).bind fun t174 => ((wide_Times.f bt172.1 bt172.2 (IntKind.u64.wrap (wrap64 ((wrap64 (258048 * (wrap64 (t164 * (wrap64 (1 + t166)))))) + (wrap64 (2 * t174)))))).bind fun bt175 => ((wide_Add.f bt175.1 bt175.2.1 bt170.1 bt170.2).bind fun bt178 => (some (bt178.1,bt178.2.1,bt170.1,bt170.2)))))))))) = some (r1,r2,r3,r4):=H;have A17:=Aside0.mk A170;clear A170;replace H:=Option.bind_eq_some_iff.mp H;obtain ⟨t166,A180,H⟩:=H;replace H : ((config_asked_area.f a0_0 a0_1 a0_2 a0_3 a0_4 a0_5 a0_6 a0_7).bind fun t167 => ((wide_Of.f (IntKind.u64.wrap (t167))).bind fun bt168 => ((wide_Shl.f bt168.1 bt168.2 32).bind fun bt170 => ((wide_Of.f (IntKind.u64.wrap (a0_4))).bind fun bt172 => ((config_asked_area.f a0_0 a0_1 a0_2 a0_3 a0_4 a0_5 a0_6 a0_7).bind fun t174 => ((wide_Times.f bt172.1 bt172.2 (IntKind.u64.wrap (wrap64 ((wrap64 (258048 * (wrap64 (t164 * (wrap64 (1 + t166)))))) + (wrap64 (2 * t174)))))).bind fun bt175 => ((wide_Add.f bt175.1 bt175.2.1 bt170.1 bt170.2).bind fun bt178 => (some (bt178.1,bt178.2.1,bt170.1,bt170.2))))))))) = some (r1,r2,r3,r4):=H;have A18:=Aside0.mk A180;clear A180;replace H:=Option.bind_eq_some_iff.mp H;obtain ⟨t167,A190,H⟩:=H;replace H : ((wide_Of.f (IntKind.u64.wrap (t167))).bind fun bt168 => ((wide_Shl.f bt168.1 bt168.2 32).bind fun bt170 => ((wide_Of.f (IntKind.u64.wrap (a0_4))).bind fun bt172 => ((config_asked_area.f a0_0 a0_1 a0_2 a0_3 a0_4 a0_5 a0_6 a0_7).bind fun t174 => ((wide_Times.f bt172.1 bt172.2 (IntKind.u64.wrap (wrap64 ((wrap64 (258048 * (wrap64 (t164 * (wrap64 (1 + t166)))))) + (wrap64 (2 * t174)))))).bind fun bt175 => ((wide_Add.f bt175.1 bt175.2.1 bt170.1 bt170.2).bind fun bt178 => (some (bt178.1,bt178.2.1,bt170.1,bt170.2)))))))) = some (r1,r2,r3,r4):=H;have A19:=Aside0.mk A190;clear A190;replace H:=Option.bind_eq_some_iff.mp H;obtain ⟨⟨t168,t169⟩,A200,H⟩:=H;replace H : ((wide_Shl.f t168 t169 32).bind fun bt170 => ((wide_Of.f (IntKind.u64.wrap (a0_4))).bind fun bt172 => ((config_asked_area.f a0_0 a0_1 a0_2 a0_3 a0_4 a0_5 a0_6 a0_7).bind fun t174 => ((wide_Times.f bt172.1 bt172.2 (IntKind.u64.wrap (wrap64 ((wrap64 (258048 * (wrap64 (t164 * (wrap64 (1 + t166)))))) + (wrap64 (2 * t174)))))).bind fun bt175 => ((wide_Add.f bt175.1 bt175.2.1 bt170.1 bt170.2).bind fun bt178 => (some (bt178.1,bt178.2.1,bt170.1,bt170.2))))))) = some (r1,r2,r3,r4):=H;have A20:=Aside0.mk A200;clear A200;replace H:=Option.bind_eq_some_iff.mp H;obtain ⟨⟨t170,t171⟩,A210,H⟩:=H;replace H : ((wide_Of.f (IntKind.u64.wrap (a0_4))).bind fun bt172 => ((config_asked_area.f a0_0 a0_1 a0_2 a0_3 a0_4 a0_5 a0_6 a0_7).bind fun t174 => ((wide_Times.f bt172.1 bt172.2 (IntKind.u64.wrap (wrap64 ((wrap64 (258048 * (wrap64 (t164 * (wrap64 (1 + t166)))))) + (wrap64 (2 * t174)))))).bind fun bt175 => ((wide_Add.f bt175.1 bt175.2.1 t170 t171).bind fun bt178 => (some (bt178.1,bt178.2.1,t170,t171)))))) = some (r1,r2,r3,r4):=H
  have A21:=Aside0.mk A210;clear A210;replace H:=Option.bind_eq_some_iff.mp H;obtain ⟨⟨t172,t173⟩,A220,H⟩:=H;replace H : ((config_asked_area.f a0_0 a0_1 a0_2 a0_3 a0_4 a0_5 a0_6 a0_7).bind fun t174 => ((wide_Times.f t172 t173 (IntKind.u64.wrap (wrap64 ((wrap64 (258048 * (wrap64 (t164 * (wrap64 (1 + t166)))))) + (wrap64 (2 * t174)))))).bind fun bt175 => ((wide_Add.f bt175.1 bt175.2.1 t170 t171).bind fun bt178 => (some (bt178.1,bt178.2.1,t170,t171))))) = some (r1,r2,r3,r4):=H;have A22:=Aside0.mk A220;clear A220;replace H:=Option.bind_eq_some_iff.mp H;obtain ⟨t174,A230,H⟩:=H;replace H : ((wide_Times.f t172 t173 (IntKind.u64.wrap (wrap64 ((wrap64 (258048 * (wrap64 (t164 * (wrap64 (1 + t166)))))) + (wrap64 (2 * t174)))))).bind fun bt175 => ((wide_Add.f bt175.1 bt175.2.1 t170 t171).bind fun bt178 => (some (bt178.1,bt178.2.1,t170,t171)))) = some (r1,r2,r3,r4):=H;have A23:=Aside0.mk A230;clear A230;replace H:=Option.bind_eq_some_iff.mp H;obtain ⟨⟨t175,t176,t177⟩,A240,H⟩:=H;replace H : ((wide_Add.f t175 t176 t170 t171).bind fun bt178 => (some (bt178.1,bt178.2.1,t170,t171))) = some (r1,r2,r3,r4):=H;have A24:=Aside0.mk A240;clear A240;replace H:=Option.bind_eq_some_iff.mp H;obtain ⟨⟨t178,t179,t180⟩,A250,H⟩:=H;replace H : (some (t178,t179,t170,t171)) = some (r1,r2,r3,r4):=H;have A25:=Aside0.mk A250;clear A250
  simp only [Option.some.injEq,Prod.mk.injEq] at H
  obtain ⟨rfl,rfl,rfl,rfl⟩:=H
  go_enter Tryd.func65,Tryd.ntmps65
  try go_wp2_with (first | ((with_reducible refine gate_dst (N:=1) rfl ?_);refine bxA 1 #[.int .i64 a0_0,.int .i64 a0_1,.int .i64 a0_2,.int .i64 a0_3,.int .i64 a0_4,.int .i64 a0_5,.int .i64 a0_6,.int .i64 a0_7] 69 ?_;intro gb157 hg w26 hbox hb;have n0_:=Am (below_step bA hb);have n1_:=Am (hbox);have n2_:=Am (gwA hg bA);have n3_:=Am (gwA hg bA);clear HB;have HB:=n0_;have BK157:=n1_;have GW157:=n2_;have GE157:=n3_;clear n0_ n1_ n2_ n3_ hb hbox hg) | ((with_reducible refine gate_dst (N:=2) rfl ?_);refine bxA 2 #[.int .u64 0,.int .u64 0] 76 ?_;intro gb158 hg w27 hbox hb;have n0_:=Am (blk_below (g:=gb157) kA hb);have n1_:=Am (below_step bA hb);have n2_:=Am (hbox);have n3_:=Am (gwA hg bA);have n4_:=Am (gwA hg bA);have n5_:=Am (neA (g:=gb157) hg kA);have n6_:=Am (neB (g:=gb157) hg kA);clear BK157 HB;have BK157:=n0_;have HB:=n1_;have BK158:=n2_;have GW158:=n3_;have GE158:=n4_;have NB157_158:=n5_;have NB158_157:=n6_;clear n0_ n1_ n2_ n3_ n4_ n5_ n6_ hb hbox hg) | ((with_reducible refine gate_dst (N:=3) rfl ?_);refine bxA 3 #[.int .u64 0,.int .u64 0] 76 ?_;intro gb159 hg w28 hbox hb;have n0_:=Am (blk_below (g:=gb157) kA hb);have n1_:=Am (blk_below (g:=gb158) kA hb);have n2_:=Am (below_step bA hb);have n3_:=Am (hbox);have n4_:=Am (gwA hg bA);have n5_:=Am (gwA hg bA);have n6_:=Am (neA (g:=gb157) hg kA);have n7_:=Am (neB (g:=gb157) hg kA);have n8_:=Am (neA (g:=gb158) hg kA);have n9_:=Am (neB (g:=gb158) hg kA);clear BK157 BK158 HB;have BK157:=n0_;have BK158:=n1_;have HB:=n2_;have BK159:=n3_;have GW159:=n4_;have GE159:=n5_;have NB157_159:=n6_;have NB159_157:=n7_;have NB158_159:=n8_;have NB159_158:=n9_;clear n0_ n1_ n2_ n3_ n4_ n5_ n6_ n7_ n8_ n9_ hb hbox hg;have hnb29:=NB157_158.out;have hnc29:=NB158_157.out;have hnb30:=NB157_159.out;have hnc30:=NB159_157.out;have hcz31_0 : w28.cell? ⟨gb157,0,none⟩ = some (.int .i64 a0_0):=(blk_cell BK157.out 0).trans rfl;have hcz31_1 : w28.cell? ⟨gb157,1,none⟩ = some (.int .i64 a0_1):=(blk_cell BK157.out 1).trans rfl;have hcz31_2 : w28.cell? ⟨gb157,2,none⟩ = some (.int .i64 a0_2):=(blk_cell BK157.out 2).trans rfl;have hcz31_3 : w28.cell? ⟨gb157,3,none⟩ = some (.int .i64 a0_3):=(blk_cell BK157.out 3).trans rfl;have hcz31_4 : w28.cell? ⟨gb157,4,none⟩ = some (.int .i64 a0_4):=(blk_cell BK157.out 4).trans rfl;have hcz31_5 : w28.cell? ⟨gb157,5,none⟩ = some (.int .i64 a0_5):=(blk_cell BK157.out 5).trans rfl;have hcz31_6 : w28.cell? ⟨gb157,6,none⟩ = some (.int .i64 a0_6):=(blk_cell BK157.out 6).trans rfl;have hcz31_7 : w28.cell? ⟨gb157,7,none⟩ = some (.int .i64 a0_7):=(blk_cell BK157.out 7).trans rfl;have hfz31_0:=blk_frozen BK157.out 0;have hfz31_1:=blk_frozen BK157.out 1;have hfz31_2:=blk_frozen BK157.out 2;have hfz31_3:=blk_frozen BK157.out 3;have hfz31_4:=blk_frozen BK157.out 4;have hfz31_5:=blk_frozen BK157.out 5;have hfz31_6:=blk_frozen BK157.out 6;have hfz31_7:=blk_frozen BK157.out 7))
  have n0_:=Am (blk_drew BK157.out);have n1_:=Am (blk_drew BK158.out);have n2_:=Am (blk_drew BK159.out);have n3_:=Am (below_drew1 HB.out);clear BK157 BK158 BK159 HB;have BK157:=n0_;have BK158:=n1_;have BK159:=n2_;have HB:=n3_;clear n0_ n1_ n2_ n3_
  refine start_ (n:=9) (S:=fun w' => w'.cell? ⟨gb157,0,none⟩ = some (.int .i64 a0_0) ∧ w'.cell? ⟨gb157,1,none⟩ = some (.int .i64 a0_1) ∧ w'.cell? ⟨gb157,2,none⟩ = some (.int .i64 a0_2) ∧ w'.cell? ⟨gb157,3,none⟩ = some (.int .i64 a0_3) ∧ w'.cell? ⟨gb157,4,none⟩ = some (.int .i64 a0_4) ∧ w'.cell? ⟨gb157,5,none⟩ = some (.int .i64 a0_5) ∧ w'.cell? ⟨gb157,6,none⟩ = some (.int .i64 a0_6) ∧ w'.cell? ⟨gb157,7,none⟩ = some (.int .i64 a0_7)) (ds:=[]) #[nn,nn,nn,nn,nn,nn,nn,nn,nn] (by kernel_rfl) rfl rfl ⟨(blk_cell BK157.out 0).trans rfl,(blk_cell BK157.out 1).trans rfl,(blk_cell BK157.out 2).trans rfl,(blk_cell BK157.out 3).trans rfl,(blk_cell BK157.out 4).trans rfl,(blk_cell BK157.out 5).trans rfl,(blk_cell BK157.out 6).trans rfl,(blk_cell BK157.out 7).trans rfl⟩ (fun hHeld => ?_);refine with_tabW config_asked_bounds.tab3 config_asked_bounds.bits3 (fun HT_ HW_ => ?_)
  generalize w28.drew = w32 at BK157 BK158 BK159 HB hHeld ⊢
  refine take_ (i:=0) (N:=some 11) (v:=?_) (a':=?_) #[yy,nn,nn,nn,nn,nn,nn,nn,nn] rfl rfl (take_ofW HT_.out HW_.out (by kernel_rfl)) (fun _ _ _ h => h) (Or.inl ⟨by rfl,?_⟩) hHeld ?_ ?_
  rotate_left
  ·rintro w' ⟨s0,s1,s2,s3,s4,s5,s6,s7⟩
   go_simp;with_reducible rfl
  rotate_left
  ·simp only [NR]
   rfl
  refine take_ (i:=2) (N:=some 13) (v:=?_) (a':=?_) #[yy,nn,yy,nn,nn,nn,nn,nn,nn] rfl rfl (take_ofW HT_.out HW_.out (by kernel_rfl)) (fun _ _ _ h => h) (Or.inl ⟨by rfl,?_⟩) hHeld ?_ ?_
  rotate_left
  ·rintro w' ⟨s0,s1,s2,s3,s4,s5,s6,s7⟩
   go_simp;with_reducible rfl
  rotate_left
  ·simp only [NR]
   rfl
  refine one_ (i:=1) (N:=some 12) #[yy,yy,yy,nn,nn,nn,nn,nn,nn] rfl rfl (one_of HT_.out (by kernel_rfl)) (by decide) (fun K hK => ?_)
  refine goes_ Tryd.func77 (by kernel_rfl) rfl #[.agg #[.int .i64 a0_0,.int .i64 a0_1,.int .i64 a0_2,.int .i64 a0_3,.int .i64 a0_4,.int .i64 a0_5,.int .i64 a0_6,.int .i64 a0_7]] (by rfl) rfl rfl aA ?_
  with_reducible refine (config_asked_keeps.calls a0_0 a0_1 a0_2 a0_3 a0_4 a0_5 a0_6 a0_7 t164 _ A16.out).mono ?_
  rintro e w33 ⟨rfl,hb⟩
  refine ⟨_,rfl,?_⟩;have n0_:=Am (blk_below (g:=gb157) kA hb);have n1_:=Am (blk_below (g:=gb158) kA hb);have n2_:=Am (blk_below (g:=gb159) kA hb);have n3_:=Am (below_step bA hb);clear BK157 BK158 BK159 HB;have BK157:=n0_;have BK158:=n1_;have BK159:=n2_;have HB:=n3_;clear n0_ n1_ n2_ n3_;(try clear hb)
  refine hK.out _ _ ⟨(blk_cell BK157.out 0).trans rfl,(blk_cell BK157.out 1).trans rfl,(blk_cell BK157.out 2).trans rfl,(blk_cell BK157.out 3).trans rfl,(blk_cell BK157.out 4).trans rfl,(blk_cell BK157.out 5).trans rfl,(blk_cell BK157.out 6).trans rfl,(blk_cell BK157.out 7).trans rfl⟩ (fun hHeld => ?_)
  clear hK K
  refine norm_ (a':=?_) ?_ ?_
  rotate_left
  ·show Act.put _ (some 12) _ = _
   simp only [NR]
   rfl
  refine one_ (i:=3) (N:=some 14) #[yy,yy,yy,yy,nn,nn,nn,nn,nn] rfl rfl (one_of HT_.out (by kernel_rfl)) (by decide) (fun K hK => ?_)
  refine goes_ Tryd.func63 (by kernel_rfl) rfl #[.agg #[.int .i64 a0_0,.int .i64 a0_1,.int .i64 a0_2,.int .i64 a0_3,.int .i64 a0_4,.int .i64 a0_5,.int .i64 a0_6,.int .i64 a0_7]] (by rfl) rfl rfl aA ?_
  with_reducible refine (config_asked_most.calls a0_0 a0_1 a0_2 a0_3 a0_4 a0_5 a0_6 a0_7 t165 _ A17.out).mono ?_
  rintro e w34 ⟨rfl,hb⟩
  refine ⟨_,rfl,?_⟩;have n0_:=Am (blk_below (g:=gb157) kA hb);have n1_:=Am (blk_below (g:=gb158) kA hb);have n2_:=Am (blk_below (g:=gb159) kA hb);have n3_:=Am (below_step bA hb);clear BK157 BK158 BK159 HB;have BK157:=n0_;have BK158:=n1_;have BK159:=n2_;have HB:=n3_;clear n0_ n1_ n2_ n3_;(try clear hb)
  refine hK.out _ _ ⟨(blk_cell BK157.out 0).trans rfl,(blk_cell BK157.out 1).trans rfl,(blk_cell BK157.out 2).trans rfl,(blk_cell BK157.out 3).trans rfl,(blk_cell BK157.out 4).trans rfl,(blk_cell BK157.out 5).trans rfl,(blk_cell BK157.out 6).trans rfl,(blk_cell BK157.out 7).trans rfl⟩ (fun hHeld => ?_)
  clear hK K
  refine norm_ (a':=?_) ?_ ?_
  rotate_left
  ·show Act.put _ (some 14) _ = _
   simp only [NR]
   rfl
  refine pure_ (i:=4) (N:=some 15) (v:=?_) (a':=?_) #[yy,yy,yy,yy,yy,nn,nn,nn,nn] rfl rfl (any_of HT_.out (by kernel_rfl)) (fun _ _ _ h => h) (Or.inl ⟨by rfl,?_⟩) ?_ ?_
  rotate_left
  ·intro w'
   go_simp;with_reducible rfl
  rotate_left
  ·simp only [NR]
   rfl
  refine one_ (i:=5) (N:=some 16) #[yy,yy,yy,yy,yy,yy,nn,nn,nn] rfl rfl (one_of HT_.out (by kernel_rfl)) (by decide) (fun K hK => ?_)
  refine goes_ Tryd.func78 (by kernel_rfl) rfl #[.int .i64 (wrap64 (t165 * 81)),.int .i64 2147483648] (by rfl) rfl rfl aA ?_
  with_reducible refine (config_up.calls (wrap64 (t165 * 81)) 2147483648 t166 _ A18.out).mono ?_
  rintro e w' ⟨rfl,⟨nd,rfl⟩⟩
  refine ⟨_,rfl,?_⟩
  refine hK.out _ _ ⟨(blk_cell BK157.out 0).trans rfl,(blk_cell BK157.out 1).trans rfl,(blk_cell BK157.out 2).trans rfl,(blk_cell BK157.out 3).trans rfl,(blk_cell BK157.out 4).trans rfl,(blk_cell BK157.out 5).trans rfl,(blk_cell BK157.out 6).trans rfl,(blk_cell BK157.out 7).trans rfl⟩ (fun hHeld => ?_)
  clear hK K
  refine norm_ (a':=?_) ?_ ?_
  rotate_left
  ·show Act.put _ (some 16) _ = _
   simp only [NR]
   rfl
  refine pure_ (i:=6) (N:=some 17) (v:=?_) (a':=?_) #[yy,yy,yy,yy,yy,yy,yy,nn,nn] rfl rfl (any_of HT_.out (by kernel_rfl)) (fun _ _ _ h => h) (Or.inl ⟨by rfl,?_⟩) ?_ ?_
  rotate_left
  ·intro w'
   go_simp;with_reducible rfl
  rotate_left
  ·simp only [NR]
   rfl
  refine pure_ (i:=7) (N:=some 18) (v:=?_) (a':=?_) #[yy,yy,yy,yy,yy,yy,yy,yy,nn] rfl rfl (any_of HT_.out (by kernel_rfl)) (fun _ _ _ h => h) (Or.inl ⟨by rfl,?_⟩) ?_ ?_
  rotate_left
  ·intro w'
   go_simp;with_reducible rfl
  rotate_left
  ·simp only [NR]
   rfl
  refine pure_ (i:=8) (N:=some 4) (v:=?_) (a':=?_) #[yy,yy,yy,yy,yy,yy,yy,yy,yy] rfl rfl (any_of HT_.out (by kernel_rfl)) (fun _ _ _ h => h) (Or.inl ⟨by rfl,?_⟩) ?_ ?_
  rotate_left
  ·intro w'
   go_simp;with_reducible rfl
  rotate_left
  ·simp only [NR]
   rfl
  refine done_ (done_of HT_.out (by kernel_rfl)) ?_
  have hcz35_0 : w34.cell? ⟨gb157,0,none⟩ = some (.int .i64 a0_0):=(blk_cell BK157.out 0).trans rfl
  have hcz35_1 : w34.cell? ⟨gb157,1,none⟩ = some (.int .i64 a0_1):=(blk_cell BK157.out 1).trans rfl
  have hcz35_2 : w34.cell? ⟨gb157,2,none⟩ = some (.int .i64 a0_2):=(blk_cell BK157.out 2).trans rfl
  have hcz35_3 : w34.cell? ⟨gb157,3,none⟩ = some (.int .i64 a0_3):=(blk_cell BK157.out 3).trans rfl
  have hcz35_4 : w34.cell? ⟨gb157,4,none⟩ = some (.int .i64 a0_4):=(blk_cell BK157.out 4).trans rfl
  have hcz35_5 : w34.cell? ⟨gb157,5,none⟩ = some (.int .i64 a0_5):=(blk_cell BK157.out 5).trans rfl
  have hcz35_6 : w34.cell? ⟨gb157,6,none⟩ = some (.int .i64 a0_6):=(blk_cell BK157.out 6).trans rfl
  have hcz35_7 : w34.cell? ⟨gb157,7,none⟩ = some (.int .i64 a0_7):=(blk_cell BK157.out 7).trans rfl
  have hfz35_0:=blk_frozen BK157.out 0
  have hfz35_1:=blk_frozen BK157.out 1
  have hfz35_2:=blk_frozen BK157.out 2
  have hfz35_3:=blk_frozen BK157.out 3
  have hfz35_4:=blk_frozen BK157.out 4
  have hfz35_5:=blk_frozen BK157.out 5
  have hfz35_6:=blk_frozen BK157.out 6
  have hfz35_7:=blk_frozen BK157.out 7
  try go_wp2_with (first | ((with_reducible refine gate_callee (f:=40) rfl ?_);refine goesL_ (some 20) rfl rfl Tryd.func40 (by kernel_rfl) rfl #[.agg #[.int .i64 a0_0,.int .i64 a0_1,.int .i64 a0_2,.int .i64 a0_3,.int .i64 a0_4,.int .i64 a0_5,.int .i64 a0_6,.int .i64 a0_7]] rfl aA ?_;(with_reducible refine (config_asked_area.calls a0_0 a0_1 a0_2 a0_3 a0_4 a0_5 a0_6 a0_7 t167 _ A19.out).mono ?_);rintro e w36 ⟨rfl,hb⟩;refine ⟨_,rfl,?_⟩;have n0_:=Am (blk_below (g:=gb157) kA hb);have n1_:=Am (blk_below (g:=gb158) kA hb);have n2_:=Am (blk_below (g:=gb159) kA hb);have n3_:=Am (below_step bA hb);clear BK157 BK158 BK159 HB;have BK157:=n0_;have BK158:=n1_;have BK159:=n2_;have HB:=n3_;clear n0_ n1_ n2_ n3_;(try clear hb)) | ((with_reducible refine gate_callee (f:=44) rfl ?_);refine goesL_ (some 22) rfl rfl Tryd.func44 (by kernel_rfl) rfl #[.int .u64 (IntKind.u64.wrap (t167))] rfl aA ?_;(with_reducible refine (wide_Of.calls (IntKind.u64.wrap (t167)) t168 t169 _ A20.out).mono ?_);rintro e w37 ⟨rfl,hb⟩;refine ⟨_,rfl,?_⟩;have n0_:=Am (blk_below (g:=gb157) kA hb);have n1_:=Am (blk_below (g:=gb158) kA hb);have n2_:=Am (blk_below (g:=gb159) kA hb);have n3_:=Am (below_step bA hb);clear BK157 BK158 BK159 HB;have BK157:=n0_;have BK158:=n1_;have BK159:=n2_;have HB:=n3_;clear n0_ n1_ n2_ n3_;(try clear hb)) | ((with_reducible refine gate_callee (f:=79) rfl ?_);refine goesL_ (some 23) rfl rfl Tryd.func79 (by kernel_rfl) rfl #[.agg #[.int .u64 t168,.int .u64 t169],.int .i64 32] rfl aA ?_;(with_reducible refine (wide_Shl.calls t168 t169 32 t170 t171 _ A21.out).mono ?_);rintro e w38 ⟨rfl,hb⟩;refine ⟨_,rfl,?_⟩;have n0_:=Am (blk_below (g:=gb157) kA hb);have n1_:=Am (blk_below (g:=gb158) kA hb);have n2_:=Am (blk_below (g:=gb159) kA hb);have n3_:=Am (below_step bA hb);clear BK157 BK158 BK159 HB;have BK157:=n0_;have BK158:=n1_;have BK159:=n2_;have HB:=n3_;clear n0_ n1_ n2_ n3_;(try clear hb);have hnb39:=NB159_158.out;have hnc39:=NB158_159.out;have hcz40_0 : w38.cell? ⟨gb159,0,none⟩ = some (.int .u64 0):=(blk_cell BK159.out 0).trans rfl;have hcz40_1 : w38.cell? ⟨gb159,1,none⟩ = some (.int .u64 0):=(blk_cell BK159.out 1).trans rfl;have hfz40_0:=blk_frozen BK159.out 0;have hfz40_1:=blk_frozen BK159.out 1))
  have n0_ : Aside0 (((w38.setCell ⟨gb159,0,none⟩ (.int .u64 t170)).setCell ⟨gb159,1,none⟩ (.int .u64 t171)).heap[gb157]? = some (.cells #[.int .i64 a0_0,.int .i64 a0_1,.int .i64 a0_2,.int .i64 a0_3,.int .i64 a0_4,.int .i64 a0_5,.int .i64 a0_6,.int .i64 a0_7] 69 (0,0))):=⟨by (with_reducible repeat (first | refine b1 ?_ _ | refine b2 ?_ | refine b3 ?_ _));refine blk_far ?_ NB157_159.out _;(with_reducible repeat (first | refine b1 ?_ _ | refine b2 ?_ | refine b3 ?_ _));refine blk_far ?_ NB157_159.out _;exact kA⟩
  have n1_ : Aside0 (((w38.setCell ⟨gb159,0,none⟩ (.int .u64 t170)).setCell ⟨gb159,1,none⟩ (.int .u64 t171)).heap[gb158]? = some (.cells #[.int .u64 0,.int .u64 0] 76 (0,0))):=⟨by (with_reducible repeat (first | refine b1 ?_ _ | refine b2 ?_ | refine b3 ?_ _));refine blk_far ?_ NB158_159.out _;(with_reducible repeat (first | refine b1 ?_ _ | refine b2 ?_ | refine b3 ?_ _));refine blk_far ?_ NB158_159.out _;exact kA⟩
  have n2_ : Aside0 (((w38.setCell ⟨gb159,0,none⟩ (.int .u64 t170)).setCell ⟨gb159,1,none⟩ (.int .u64 t171)).heap[gb159]? = some (.cells #[.int .u64 t170,.int .u64 t171] 76 (0,0))):=⟨by (with_reducible repeat (first | refine b1 ?_ _ | refine b2 ?_ | refine b3 ?_ _));refine blk_put (cs:=#[.int .u64 t170,.int .u64 0]) ?_ 1 _ rfl;(with_reducible repeat (first | refine b1 ?_ _ | refine b2 ?_ | refine b3 ?_ _));refine blk_put (cs:=#[.int .u64 0,.int .u64 0]) ?_ 0 _ rfl;exact kA⟩
  have n3_ : Aside0 (Below w.heap.size w ((w38.setCell ⟨gb159,0,none⟩ (.int .u64 t170)).setCell ⟨gb159,1,none⟩ (.int .u64 t171))):=⟨bA⟩
  (try clear BK157);(try clear BK158);(try clear BK159);(try clear HB)
  generalize ((w38.setCell ⟨gb159,0,none⟩ (.int .u64 t170)).setCell ⟨gb159,1,none⟩ (.int .u64 t171)) = w41 at n0_ n1_ n2_ n3_ ⊢
  have BK157:=n0_;have BK158:=n1_;have BK159:=n2_;have HB:=n3_;clear n0_ n1_ n2_ n3_;have n0_:=Am (blk_drew BK157.out);have n1_:=Am (blk_drew BK158.out);have n2_:=Am (blk_drew BK159.out);have n3_:=Am (below_drew1 HB.out);clear BK157 BK158 BK159 HB;have BK157:=n0_;have BK158:=n1_;have BK159:=n2_;have HB:=n3_;clear n0_ n1_ n2_ n3_
  refine start_ (n:=17) (S:=fun w' => w'.cell? ⟨gb157,0,none⟩ = some (.int .i64 a0_0) ∧ w'.cell? ⟨gb157,1,none⟩ = some (.int .i64 a0_1) ∧ w'.cell? ⟨gb157,2,none⟩ = some (.int .i64 a0_2) ∧ w'.cell? ⟨gb157,3,none⟩ = some (.int .i64 a0_3) ∧ w'.cell? ⟨gb157,4,none⟩ = some (.int .i64 a0_4) ∧ w'.cell? ⟨gb157,5,none⟩ = some (.int .i64 a0_5) ∧ w'.cell? ⟨gb157,6,none⟩ = some (.int .i64 a0_6) ∧ w'.cell? ⟨gb157,7,none⟩ = some (.int .i64 a0_7)) (ds:=[]) #[nn,nn,nn,nn,nn,nn,nn,nn,nn,nn,nn,nn,nn,nn,nn,nn,nn] (by kernel_rfl) rfl rfl ⟨(blk_cell BK157.out 0).trans rfl,(blk_cell BK157.out 1).trans rfl,(blk_cell BK157.out 2).trans rfl,(blk_cell BK157.out 3).trans rfl,(blk_cell BK157.out 4).trans rfl,(blk_cell BK157.out 5).trans rfl,(blk_cell BK157.out 6).trans rfl,(blk_cell BK157.out 7).trans rfl⟩ (fun hHeld => ?_);refine with_tabW config_asked_bounds.tab5 config_asked_bounds.bits5 (fun HT_ HW_ => ?_)
  generalize w41.drew = w42 at BK157 BK158 BK159 HB hHeld ⊢
  refine pure_ (i:=0) (N:=some 25) (v:=?_) (a':=?_) #[yy,nn,nn,nn,nn,nn,nn,nn,nn,nn,nn,nn,nn,nn,nn,nn,nn] rfl rfl (any_of HT_.out (by kernel_rfl)) (fun _ _ _ h => h) (Or.inl ⟨by rfl,?_⟩) ?_ ?_
  rotate_left
  ·intro w'
   go_simp;with_reducible rfl
  rotate_left
  ·simp only [NR]
   rfl
  refine pure_ (i:=1) (N:=some 26) (v:=?_) (a':=?_) #[yy,yy,nn,nn,nn,nn,nn,nn,nn,nn,nn,nn,nn,nn,nn,nn,nn] rfl rfl (any_of HT_.out (by kernel_rfl)) (fun _ _ _ h => h) (Or.inl ⟨by rfl,?_⟩) ?_ ?_
  rotate_left
  ·intro w'
   go_simp;with_reducible rfl
  rotate_left
  ·simp only [NR]
   rfl
  refine pure_ (i:=5) (N:=some 30) (v:=?_) (a':=?_) #[yy,yy,nn,nn,nn,yy,nn,nn,nn,nn,nn,nn,nn,nn,nn,nn,nn] rfl rfl (any_of HT_.out (by kernel_rfl)) (fun _ _ _ h => h) (Or.inl ⟨by rfl,?_⟩) ?_ ?_
  rotate_left
  ·intro w'
   go_simp;with_reducible rfl
  rotate_left
  ·simp only [NR]
   rfl
  refine pure_ (i:=6) (N:=some 31) (v:=?_) (a':=?_) #[yy,yy,nn,nn,nn,yy,yy,nn,nn,nn,nn,nn,nn,nn,nn,nn,nn] rfl rfl (any_of HT_.out (by kernel_rfl)) (fun _ _ _ h => h) (Or.inl ⟨by rfl,?_⟩) ?_ ?_
  rotate_left
  ·intro w'
   go_simp;with_reducible rfl
  rotate_left
  ·simp only [NR]
   rfl
  refine take_ (i:=2) (N:=some 27) (v:=?_) (a':=?_) #[yy,yy,yy,nn,nn,yy,yy,nn,nn,nn,nn,nn,nn,nn,nn,nn,nn] rfl rfl (take_ofW HT_.out HW_.out (by kernel_rfl)) (fun _ _ _ h => h) (Or.inl ⟨by rfl,?_⟩) hHeld ?_ ?_
  rotate_left
  ·rintro w' ⟨s0,s1,s2,s3,s4,s5,s6,s7⟩
   go_simp;with_reducible rfl
  rotate_left
  ·simp only [NR]
   rfl
  refine pure_ (i:=3) (N:=some 28) (v:=?_) (a':=?_) #[yy,yy,yy,yy,nn,yy,yy,nn,nn,nn,nn,nn,nn,nn,nn,nn,nn] rfl rfl (any_of HT_.out (by kernel_rfl)) (fun _ _ _ h => h) (Or.inl ⟨by rfl,?_⟩) ?_ ?_
  rotate_left
  ·intro w'
   go_simp;with_reducible rfl
  rotate_left
  ·simp only [NR]
   rfl
  refine take_ (i:=7) (N:=some 32) (v:=?_) (a':=?_) #[yy,yy,yy,yy,nn,yy,yy,yy,nn,nn,nn,nn,nn,nn,nn,nn,nn] rfl rfl (take_ofW HT_.out HW_.out (by kernel_rfl)) (fun _ _ _ h => h) (Or.inl ⟨by rfl,?_⟩) hHeld ?_ ?_
  rotate_left
  ·rintro w' ⟨s0,s1,s2,s3,s4,s5,s6,s7⟩
   go_simp;with_reducible rfl
  rotate_left
  ·simp only [NR]
   rfl
  refine one_ (i:=4) (N:=some 29) #[yy,yy,yy,yy,yy,yy,yy,yy,nn,nn,nn,nn,nn,nn,nn,nn,nn] rfl rfl (one_of HT_.out (by kernel_rfl)) (by decide) (fun K hK => ?_)
  refine goes_ Tryd.func44 (by kernel_rfl) rfl #[.int .u64 (IntKind.u64.wrap (a0_4))] (by rfl) rfl rfl aA ?_
  with_reducible refine (wide_Of.calls (IntKind.u64.wrap (a0_4)) t172 t173 _ A22.out).mono ?_
  rintro e w43 ⟨rfl,hb⟩
  refine ⟨_,rfl,?_⟩;have n0_:=Am (blk_below (g:=gb157) kA hb);have n1_:=Am (blk_below (g:=gb158) kA hb);have n2_:=Am (blk_below (g:=gb159) kA hb);have n3_:=Am (below_step bA hb);clear BK157 BK158 BK159 HB;have BK157:=n0_;have BK158:=n1_;have BK159:=n2_;have HB:=n3_;clear n0_ n1_ n2_ n3_;(try clear hb)
  refine hK.out _ _ ⟨(blk_cell BK157.out 0).trans rfl,(blk_cell BK157.out 1).trans rfl,(blk_cell BK157.out 2).trans rfl,(blk_cell BK157.out 3).trans rfl,(blk_cell BK157.out 4).trans rfl,(blk_cell BK157.out 5).trans rfl,(blk_cell BK157.out 6).trans rfl,(blk_cell BK157.out 7).trans rfl⟩ (fun hHeld => ?_)
  clear hK K
  refine norm_ (a':=?_) ?_ ?_
  rotate_left
  ·show Act.put _ (some 29) _ = _
   simp only [NR]
   rfl
  refine one_ (i:=8) (N:=some 33) #[yy,yy,yy,yy,yy,yy,yy,yy,yy,nn,nn,nn,nn,nn,nn,nn,nn] rfl rfl (one_of HT_.out (by kernel_rfl)) (by decide) (fun K hK => ?_)
  refine goes_ Tryd.func40 (by kernel_rfl) rfl #[.agg #[.int .i64 a0_0,.int .i64 a0_1,.int .i64 a0_2,.int .i64 a0_3,.int .i64 a0_4,.int .i64 a0_5,.int .i64 a0_6,.int .i64 a0_7]] (by rfl) rfl rfl aA ?_
  with_reducible refine (config_asked_area.calls a0_0 a0_1 a0_2 a0_3 a0_4 a0_5 a0_6 a0_7 t174 _ A23.out).mono ?_
  rintro e w44 ⟨rfl,hb⟩
  refine ⟨_,rfl,?_⟩;have n0_:=Am (blk_below (g:=gb157) kA hb);have n1_:=Am (blk_below (g:=gb158) kA hb);have n2_:=Am (blk_below (g:=gb159) kA hb);have n3_:=Am (below_step bA hb);clear BK157 BK158 BK159 HB;have BK157:=n0_;have BK158:=n1_;have BK159:=n2_;have HB:=n3_;clear n0_ n1_ n2_ n3_;(try clear hb)
  refine hK.out _ _ ⟨(blk_cell BK157.out 0).trans rfl,(blk_cell BK157.out 1).trans rfl,(blk_cell BK157.out 2).trans rfl,(blk_cell BK157.out 3).trans rfl,(blk_cell BK157.out 4).trans rfl,(blk_cell BK157.out 5).trans rfl,(blk_cell BK157.out 6).trans rfl,(blk_cell BK157.out 7).trans rfl⟩ (fun hHeld => ?_)
  clear hK K
  refine norm_ (a':=?_) ?_ ?_
  rotate_left
  ·show Act.put _ (some 33) _ = _
   simp only [NR]
   rfl
  refine pure_ (i:=9) (N:=some 34) (v:=?_) (a':=?_) #[yy,yy,yy,yy,yy,yy,yy,yy,yy,yy,nn,nn,nn,nn,nn,nn,nn] rfl rfl (any_of HT_.out (by kernel_rfl)) (fun _ _ _ h => h) (Or.inl ⟨by rfl,?_⟩) ?_ ?_
  rotate_left
  ·intro w'
   go_simp;with_reducible rfl
  rotate_left
  ·simp only [NR]
   rfl
  refine pure_ (i:=10) (N:=some 35) (v:=?_) (a':=?_) #[yy,yy,yy,yy,yy,yy,yy,yy,yy,yy,yy,nn,nn,nn,nn,nn,nn] rfl rfl (any_of HT_.out (by kernel_rfl)) (fun _ _ _ h => h) (Or.inl ⟨by rfl,?_⟩) ?_ ?_
  rotate_left
  ·intro w'
   go_simp;with_reducible rfl
  rotate_left
  ·simp only [NR]
   rfl
  refine pure_ (i:=11) (N:=some 36) (v:=?_) (a':=?_) #[yy,yy,yy,yy,yy,yy,yy,yy,yy,yy,yy,yy,nn,nn,nn,nn,nn] rfl rfl (any_of HT_.out (by kernel_rfl)) (fun _ _ _ h => h) (Or.inl ⟨by rfl,?_⟩) ?_ ?_
  rotate_left
  ·intro w'
   go_simp;with_reducible rfl
  rotate_left
  ·simp only [NR]
   rfl
  refine one_ (i:=12) (N:=some 37) #[yy,yy,yy,yy,yy,yy,yy,yy,yy,yy,yy,yy,yy,nn,nn,nn,nn] rfl rfl (one_of HT_.out (by kernel_rfl)) (by decide) (fun K hK => ?_)
  refine goes_ Tryd.func66 (by kernel_rfl) rfl #[.agg #[.int .u64 t172,.int .u64 t173],.int .u64 (IntKind.u64.wrap (wrap64 ((wrap64 (258048 * (wrap64 (t164 * (wrap64 (1 + t166)))))) + (wrap64 (2 * t174)))))] (by rfl) rfl rfl aA ?_
  with_reducible refine (wide_Times.calls t172 t173 (IntKind.u64.wrap (wrap64 ((wrap64 (258048 * (wrap64 (t164 * (wrap64 (1 + t166)))))) + (wrap64 (2 * t174))))) t175 t176 t177 _ A24.out).mono ?_
  rintro e w45 ⟨rfl,hb⟩
  refine ⟨_,rfl,?_⟩;have n0_:=Am (blk_below (g:=gb157) kA hb);have n1_:=Am (blk_below (g:=gb158) kA hb);have n2_:=Am (blk_below (g:=gb159) kA hb);have n3_:=Am (below_step bA hb);clear BK157 BK158 BK159 HB;have BK157:=n0_;have BK158:=n1_;have BK159:=n2_;have HB:=n3_;clear n0_ n1_ n2_ n3_;(try clear hb)
  refine hK.out _ _ ⟨(blk_cell BK157.out 0).trans rfl,(blk_cell BK157.out 1).trans rfl,(blk_cell BK157.out 2).trans rfl,(blk_cell BK157.out 3).trans rfl,(blk_cell BK157.out 4).trans rfl,(blk_cell BK157.out 5).trans rfl,(blk_cell BK157.out 6).trans rfl,(blk_cell BK157.out 7).trans rfl⟩ (fun hHeld => ?_)
  clear hK K
  refine norm_ (a':=?_) ?_ ?_
  rotate_left
  ·show Act.put _ (some 37) _ = _
   simp only [NR]
   rfl
  refine pure_ (i:=13) (N:=some 24) (v:=?_) (a':=?_) #[yy,yy,yy,yy,yy,yy,yy,yy,yy,yy,yy,yy,yy,yy,nn,nn,nn] rfl rfl (any_of HT_.out (by kernel_rfl)) (fun _ _ _ h => h) (Or.inl ⟨by rfl,?_⟩) ?_ ?_
  rotate_left
  ·intro w'
   go_simp;with_reducible rfl
  rotate_left
  ·simp only [NR]
   rfl
  refine pure_ (i:=14) (N:=some 38) (v:=?_) (a':=?_) #[yy,yy,yy,yy,yy,yy,yy,yy,yy,yy,yy,yy,yy,yy,yy,nn,nn] rfl rfl (any_of HT_.out (by kernel_rfl)) (fun _ _ _ h => h) (Or.inl ⟨by rfl,?_⟩) ?_ ?_
  rotate_left
  ·intro w'
   go_simp;with_reducible rfl
  rotate_left
  ·simp only [NR]
   rfl
  refine pure_ (i:=15) (N:=some 39) (v:=?_) (a':=?_) #[yy,yy,yy,yy,yy,yy,yy,yy,yy,yy,yy,yy,yy,yy,yy,yy,nn] rfl rfl (any_of HT_.out (by kernel_rfl)) (fun _ _ _ h => h) (Or.inl ⟨by rfl,?_⟩) ?_ ?_
  rotate_left
  ·intro w'
   go_simp;with_reducible rfl
  rotate_left
  ·simp only [NR]
   rfl
  refine one_ (i:=16) (N:=none) #[yy,yy,yy,yy,yy,yy,yy,yy,yy,yy,yy,yy,yy,yy,yy,yy,yy] rfl rfl (one_of HT_.out (by kernel_rfl)) (by decide) (fun K hK => ?_)
  have hs46 : w45.cell? ⟨gb158,0,none⟩ = some (.int .u64 0):=(blk_cell BK158.out 0).trans rfl
  have hfs46:=blk_frozen BK158.out 0
  have hns46_0:=NB157_158.out
  have hns46_2:=NB159_158.out
  have hms46_0:=NB158_157.out
  have hms46_2:=NB158_159.out
  have hs47 : w45.cell? ⟨gb158,1,none⟩ = some (.int .u64 0):=(blk_cell BK158.out 1).trans rfl
  have hfs47:=blk_frozen BK158.out 1
  have hns47_0:=NB157_158.out
  have hns47_2:=NB159_158.out
  have hms47_0:=NB158_157.out
  have hms47_2:=NB158_159.out
  refine skip_ (w1:=?_) (by rfl) rfl ?_ ?_
  rotate_left
  ·go_simp
   rfl
  refine hK.out _ _ ⟨((cell_far (p:=⟨gb158,_,none⟩) NB157_158.out _).trans (((cell_far (p:=⟨gb158,_,none⟩) NB157_158.out _).trans (hHeld.1)))),((cell_far (p:=⟨gb158,_,none⟩) NB157_158.out _).trans (((cell_far (p:=⟨gb158,_,none⟩) NB157_158.out _).trans (hHeld.2.1)))),((cell_far (p:=⟨gb158,_,none⟩) NB157_158.out _).trans (((cell_far (p:=⟨gb158,_,none⟩) NB157_158.out _).trans (hHeld.2.2.1)))),((cell_far (p:=⟨gb158,_,none⟩) NB157_158.out _).trans (((cell_far (p:=⟨gb158,_,none⟩) NB157_158.out _).trans (hHeld.2.2.2.1)))),((cell_far (p:=⟨gb158,_,none⟩) NB157_158.out _).trans (((cell_far (p:=⟨gb158,_,none⟩) NB157_158.out _).trans (hHeld.2.2.2.2.1)))),((cell_far (p:=⟨gb158,_,none⟩) NB157_158.out _).trans (((cell_far (p:=⟨gb158,_,none⟩) NB157_158.out _).trans (hHeld.2.2.2.2.2.1)))),((cell_far (p:=⟨gb158,_,none⟩) NB157_158.out _).trans (((cell_far (p:=⟨gb158,_,none⟩) NB157_158.out _).trans (hHeld.2.2.2.2.2.2.1)))),((cell_far (p:=⟨gb158,_,none⟩) NB157_158.out _).trans (((cell_far (p:=⟨gb158,_,none⟩) NB157_158.out _).trans (hHeld.2.2.2.2.2.2.2))))⟩ (fun hHeld => ?_)
  clear hK K
  refine done_ (done_of HT_.out (by kernel_rfl)) ?_
  have hcz48_0 : w45.cell? ⟨gb158,0,none⟩ = some (.int .u64 0):=(blk_cell BK158.out 0).trans rfl
  have hcz48_1 : w45.cell? ⟨gb158,1,none⟩ = some (.int .u64 0):=(blk_cell BK158.out 1).trans rfl
  have hfz48_0:=blk_frozen BK158.out 0
  have hfz48_1:=blk_frozen BK158.out 1
  have hcz49_0 : w45.cell? ⟨gb159,0,none⟩ = some (.int .u64 t170):=(blk_cell BK159.out 0).trans rfl
  have hcz49_1 : w45.cell? ⟨gb159,1,none⟩ = some (.int .u64 t171):=(blk_cell BK159.out 1).trans rfl
  have hfz49_0:=blk_frozen BK159.out 0
  have hfz49_1:=blk_frozen BK159.out 1
  try go_wp2_with (first | ((with_reducible refine gate_callee (f:=46) rfl ?_);refine goesL_ (some 43) rfl rfl Tryd.func46 (by kernel_rfl) rfl #[.agg #[.int .u64 t175,.int .u64 t176],.agg #[.int .u64 t170,.int .u64 t171]] rfl aA ?_;(with_reducible refine (wide_Add.calls t175 t176 t170 t171 t178 t179 t180 _ A25.out).mono ?_);rintro e w50 ⟨rfl,hb⟩;refine ⟨_,rfl,?_⟩;have n0_:=Am (blk_below (g:=gb157) (o:=.cells #[.int .i64 a0_0,.int .i64 a0_1,.int .i64 a0_2,.int .i64 a0_3,.int .i64 a0_4,.int .i64 a0_5,.int .i64 a0_6,.int .i64 a0_7] 69 (0,0)) (by (with_reducible repeat (first | refine b1 ?_ _ | refine b2 ?_ | refine b3 ?_ _));refine blk_far ?_ NB157_158.out _;(with_reducible repeat (first | refine b1 ?_ _ | refine b2 ?_ | refine b3 ?_ _));refine blk_far ?_ NB157_158.out _;exact kA) hb);have n1_:=Am (blk_below (g:=gb158) (o:=.cells #[.int .u64 t175,.int .u64 t176] 76 (0,0)) (by (with_reducible repeat (first | refine b1 ?_ _ | refine b2 ?_ | refine b3 ?_ _));refine blk_put (cs:=#[.int .u64 t175,.int .u64 0]) ?_ 1 _ rfl;(with_reducible repeat (first | refine b1 ?_ _ | refine b2 ?_ | refine b3 ?_ _));refine blk_put (cs:=#[.int .u64 0,.int .u64 0]) ?_ 0 _ rfl;exact kA) hb);have n2_:=Am (blk_below (g:=gb159) (o:=.cells #[.int .u64 t170,.int .u64 t171] 76 (0,0)) (by (with_reducible repeat (first | refine b1 ?_ _ | refine b2 ?_ | refine b3 ?_ _));refine blk_far ?_ NB159_158.out _;(with_reducible repeat (first | refine b1 ?_ _ | refine b2 ?_ | refine b3 ?_ _));refine blk_far ?_ NB159_158.out _;exact kA) hb);have n3_:=Am (below_step bA hb);clear BK157 BK158 BK159 HB;have BK157:=n0_;have BK158:=n1_;have BK159:=n2_;have HB:=n3_;clear n0_ n1_ n2_ n3_;(try clear hb);have hcz51_0 : w50.cell? ⟨gb158,0,none⟩ = some (.int .u64 t175):=(blk_cell BK158.out 0).trans rfl;have hcz51_1 : w50.cell? ⟨gb158,1,none⟩ = some (.int .u64 t176):=(blk_cell BK158.out 1).trans rfl;have hfz51_0:=blk_frozen BK158.out 0;have hfz51_1:=blk_frozen BK158.out 1))
  have n1_ : Aside0 (((w50.setCell ⟨gb158,0,none⟩ (.int .u64 t178)).setCell ⟨gb158,1,none⟩ (.int .u64 t179)).heap[gb158]? = some (.cells #[.int .u64 t178,.int .u64 t179] 76 (0,0))):=⟨by (with_reducible repeat (first | refine b1 ?_ _ | refine b2 ?_ | refine b3 ?_ _));refine blk_put (cs:=#[.int .u64 t178,.int .u64 t176]) ?_ 1 _ rfl;(with_reducible repeat (first | refine b1 ?_ _ | refine b2 ?_ | refine b3 ?_ _));refine blk_put (cs:=#[.int .u64 t175,.int .u64 t176]) ?_ 0 _ rfl;(with_reducible repeat (first | refine b1 ?_ _ | refine b2 ?_ | refine b3 ?_ _));exact BK158.out⟩
  have n2_ : Aside0 (((w50.setCell ⟨gb158,0,none⟩ (.int .u64 t178)).setCell ⟨gb158,1,none⟩ (.int .u64 t179)).heap[gb159]? = some (.cells #[.int .u64 t170,.int .u64 t171] 76 (0,0))):=⟨by (with_reducible repeat (first | refine b1 ?_ _ | refine b2 ?_ | refine b3 ?_ _));refine blk_far ?_ NB159_158.out _;(with_reducible repeat (first | refine b1 ?_ _ | refine b2 ?_ | refine b3 ?_ _));refine blk_far ?_ NB159_158.out _;(with_reducible repeat (first | refine b1 ?_ _ | refine b2 ?_ | refine b3 ?_ _));exact BK159.out⟩
  have n3_ : Aside0 (Below w.heap.size w ((w50.setCell ⟨gb158,0,none⟩ (.int .u64 t178)).setCell ⟨gb158,1,none⟩ (.int .u64 t179))):=⟨bA⟩
  clear BK158 BK159 HB
  generalize ((w50.setCell ⟨gb158,0,none⟩ (.int .u64 t178)).setCell ⟨gb158,1,none⟩ (.int .u64 t179)) = wq1 at n1_ n2_ n3_ ⊢
  have BK158:=Am (blk_drew n1_.out)
  have BK159:=Am (blk_drew n2_.out)
  have HB:=Am (below_drew1 n3_.out)
  clear n1_ n2_ n3_
  refine start_ (n:=4) (S:=fun w' => w'.cell? ⟨gb158,0,none⟩ = some (.int .u64 t178) ∧ w'.cell? ⟨gb158,1,none⟩ = some (.int .u64 t179) ∧ w'.cell? ⟨gb159,0,none⟩ = some (.int .u64 t170) ∧ w'.cell? ⟨gb159,1,none⟩ = some (.int .u64 t171)) (ds:=[]) #[nn,nn,nn,nn] (by kernel_rfl) rfl rfl ⟨(blk_cell BK158.out 0).trans rfl,(blk_cell BK158.out 1).trans rfl,(blk_cell BK159.out 0).trans rfl,(blk_cell BK159.out 1).trans rfl⟩ (fun hHeld => ?_)
  generalize wq1.drew = wq2 at BK158 BK159 HB hHeld ⊢
  refine take_ (i:=0) (N:=some 46) (v:=?_) (a':=?_) #[yy,nn,nn,nn] rfl rfl (by kernel_rfl) (fun _ _ _ h => h) (Or.inl ⟨by rfl,?_⟩) hHeld ?_ ?_
  rotate_left
  ·rintro w' ⟨s0,s1,s2,s3⟩
   go_simp;with_reducible rfl
  rotate_left
  ·simp only [NR]
   rfl
  refine take_ (i:=1) (N:=some 47) (v:=?_) (a':=?_) #[yy,yy,nn,nn] rfl rfl (by kernel_rfl) (fun _ _ _ h => h) (Or.inl ⟨by rfl,?_⟩) hHeld ?_ ?_
  rotate_left
  ·rintro w' ⟨s0,s1,s2,s3⟩
   go_simp;with_reducible rfl
  rotate_left
  ·simp only [NR]
   rfl
  refine one_ (i:=2) (N:=none) #[yy,yy,yy,nn] rfl rfl (by kernel_rfl) (by decide) (fun K hK => ?_)
  have hs0_2 : wq2.cell? ⟨gb158,0,none⟩ = some (.int .u64 t178):=(blk_cell BK158.out 0).trans rfl
  have hf0_2:=blk_frozen BK158.out 0
  have hs1_2 : wq2.cell? ⟨gb158,1,none⟩ = some (.int .u64 t179):=(blk_cell BK158.out 1).trans rfl
  have hf1_2:=blk_frozen BK158.out 1
  refine skip_ (w1:=?_) (by rfl) rfl ?_ ?_
  rotate_left
  ·go_simp
   rfl
  have n1_ : Aside0 (((wq2.setCell ⟨gb158,0,none⟩ (.int .u64 t178)).setCell ⟨gb158,1,none⟩ (.int .u64 t179)).heap[gb158]? = some (.cells #[.int .u64 t178,.int .u64 t179] 76 (0,0))):=⟨by (with_reducible repeat (first | refine b1 ?_ _ | refine b2 ?_ | refine b3 ?_ _));refine blk_put (cs:=#[.int .u64 t178,.int .u64 t179]) ?_ 1 _ rfl;(with_reducible repeat (first | refine b1 ?_ _ | refine b2 ?_ | refine b3 ?_ _));refine blk_put (cs:=#[.int .u64 t178,.int .u64 t179]) ?_ 0 _ rfl;(with_reducible repeat (first | refine b1 ?_ _ | refine b2 ?_ | refine b3 ?_ _));exact BK158.out⟩
  have n2_ : Aside0 (((wq2.setCell ⟨gb158,0,none⟩ (.int .u64 t178)).setCell ⟨gb158,1,none⟩ (.int .u64 t179)).heap[gb159]? = some (.cells #[.int .u64 t170,.int .u64 t171] 76 (0,0))):=⟨by (with_reducible repeat (first | refine b1 ?_ _ | refine b2 ?_ | refine b3 ?_ _));refine blk_far ?_ NB159_158.out _;(with_reducible repeat (first | refine b1 ?_ _ | refine b2 ?_ | refine b3 ?_ _));refine blk_far ?_ NB159_158.out _;(with_reducible repeat (first | refine b1 ?_ _ | refine b2 ?_ | refine b3 ?_ _));exact BK159.out⟩
  have n3_ : Aside0 (Below w.heap.size w ((wq2.setCell ⟨gb158,0,none⟩ (.int .u64 t178)).setCell ⟨gb158,1,none⟩ (.int .u64 t179))):=⟨bA⟩
  clear hHeld hs0_2 hf0_2 hs1_2 hf1_2 BK158 BK159 HB
  have BK158:=n1_
  have BK159:=n2_
  have HB:=n3_
  clear n1_ n2_ n3_
  generalize ((wq2.setCell ⟨gb158,0,none⟩ (.int .u64 t178)).setCell ⟨gb158,1,none⟩ (.int .u64 t179)) = wq3 at BK158 BK159 HB ⊢
  refine hK.out _ _ ⟨(blk_cell BK158.out 0).trans rfl,(blk_cell BK158.out 1).trans rfl,(blk_cell BK159.out 0).trans rfl,(blk_cell BK159.out 1).trans rfl⟩ (fun hHeld => ?_)
  clear hK K
  refine one_ (i:=3) (N:=none) #[yy,yy,yy,yy] rfl rfl (by kernel_rfl) (by decide) (fun K hK => ?_)
  have hs0_3 : wq3.cell? ⟨gb159,0,none⟩ = some (.int .u64 t170):=(blk_cell BK159.out 0).trans rfl
  have hf0_3:=blk_frozen BK159.out 0
  have hs1_3 : wq3.cell? ⟨gb159,1,none⟩ = some (.int .u64 t171):=(blk_cell BK159.out 1).trans rfl
  have hf1_3:=blk_frozen BK159.out 1
  refine skip_ (w1:=?_) (by rfl) rfl ?_ ?_
  rotate_left
  ·go_simp
   rfl
  have n1_ : Aside0 (((wq3.setCell ⟨gb159,0,none⟩ (.int .u64 t170)).setCell ⟨gb159,1,none⟩ (.int .u64 t171)).heap[gb159]? = some (.cells #[.int .u64 t170,.int .u64 t171] 76 (0,0))):=⟨by (with_reducible repeat (first | refine b1 ?_ _ | refine b2 ?_ | refine b3 ?_ _));refine blk_put (cs:=#[.int .u64 t170,.int .u64 t171]) ?_ 1 _ rfl;(with_reducible repeat (first | refine b1 ?_ _ | refine b2 ?_ | refine b3 ?_ _));refine blk_put (cs:=#[.int .u64 t170,.int .u64 t171]) ?_ 0 _ rfl;(with_reducible repeat (first | refine b1 ?_ _ | refine b2 ?_ | refine b3 ?_ _));exact BK159.out⟩
  have n2_ : Aside0 (((wq3.setCell ⟨gb159,0,none⟩ (.int .u64 t170)).setCell ⟨gb159,1,none⟩ (.int .u64 t171)).heap[gb158]? = some (.cells #[.int .u64 t178,.int .u64 t179] 76 (0,0))):=⟨by (with_reducible repeat (first | refine b1 ?_ _ | refine b2 ?_ | refine b3 ?_ _));refine blk_far ?_ NB158_159.out _;(with_reducible repeat (first | refine b1 ?_ _ | refine b2 ?_ | refine b3 ?_ _));refine blk_far ?_ NB158_159.out _;(with_reducible repeat (first | refine b1 ?_ _ | refine b2 ?_ | refine b3 ?_ _));exact BK158.out⟩
  have n3_ : Aside0 (Below w.heap.size w ((wq3.setCell ⟨gb159,0,none⟩ (.int .u64 t170)).setCell ⟨gb159,1,none⟩ (.int .u64 t171))):=⟨bA⟩
  clear hHeld hs0_3 hf0_3 hs1_3 hf1_3 BK159 BK158 HB
  have BK159:=n1_
  have BK158:=n2_
  have HB:=n3_
  clear n1_ n2_ n3_
  generalize ((wq3.setCell ⟨gb159,0,none⟩ (.int .u64 t170)).setCell ⟨gb159,1,none⟩ (.int .u64 t171)) = wq4 at BK159 BK158 HB ⊢
  refine hK.out _ _ ⟨(blk_cell BK158.out 0).trans rfl,(blk_cell BK158.out 1).trans rfl,(blk_cell BK159.out 0).trans rfl,(blk_cell BK159.out 1).trans rfl⟩ (fun hHeld => ?_)
  clear hK K
  refine done_ (by kernel_rfl) ?_
  try go_wp2
  refine bodyPost_ret (results_cc rfl _ _ gb158 gb159 76 76 #[.int .u64 t178,.int .u64 t179] #[.int .u64 t170,.int .u64 t171] (0,0) (0,0) _ _ rfl kA Tryd.underlying76 rfl (by kernel_rfl) rfl kA Tryd.underlying76 rfl (by kernel_rfl)) rfl ?_
  exact ⟨by first | rfl | (simp [errW_none,errW_some] <;> rfl) | (simp [*,errW_none,errW_some] <;> rfl),bA⟩

def config_asked_lead.f (a0_0 : Int) (a0_1 : Int) (a0_2 : Int) (a0_3 : Int) (a0_4 : Int) (a0_5 : Int) (a0_6 : Int) (a0_7 : Int) : Option (Int):=(config_asked_fairSize.f a0_0 a0_1 a0_2 a0_3 a0_4 a0_5 a0_6 a0_7).bind fun t182 => (if a0_3 = 0 then (none) else (some (wrap64 (Int.tdiv t182 a0_3))))
set_option maxHeartbeats 8000000 in
set_option maxRecDepth 100000 in
theorem config_asked_lead.calls (a0_0 : Int) (a0_1 : Int) (a0_2 : Int) (a0_3 : Int) (a0_4 : Int) (a0_5 : Int) (a0_6 : Int) (a0_7 : Int) (r : Int) (w : World) (h : config_asked_lead.f a0_0 a0_1 a0_2 a0_3 a0_4 a0_5 a0_6 a0_7 = some r) :
  Calls Tryd.prog 80 #[.agg #[.int .i64 a0_0,.int .i64 a0_1,.int .i64 a0_2,.int .i64 a0_3,.int .i64 a0_4,.int .i64 a0_5,.int .i64 a0_6,.int .i64 a0_7]] w fun e w' => e = .returned (.int .i64 r) ∧ Below w.heap.size w w':=by
 have hu69:=Tryd.underlying69
 have HB:=Am (Below.refl w.heap.size w)
 have H : ((config_asked_fairSize.f a0_0 a0_1 a0_2 a0_3 a0_4 a0_5 a0_6 a0_7).bind fun t182 => (if a0_3 = 0 then (none) else (some (wrap64 (Int.tdiv t182 a0_3))))) = some r:=h
 clear h;replace H:=Option.bind_eq_some_iff.mp H;obtain ⟨t182,A20,H⟩:=H;replace H : (if a0_3 = 0 then (none) else (some (wrap64 (Int.tdiv t182 a0_3)))) = some r:=H;have A2:=Aside0.mk A20;clear A20
 by_cases c3 : a0_3 = 0
 ·rw [if_pos c3] at H
  exact absurd H (by simp)
 ·rw [if_neg c3] at H
  have c3b0 : (a0_3 == 0) = false:=beq_eq_false_iff_ne.mpr c3
  have c3b1 : (a0_3 != 0) = true:=bne_iff_ne.mpr c3
  obtain rfl:=Option.some.inj H
  go_enter Tryd.func80,Tryd.ntmps80
  try go_wp2_with (first | ((with_reducible refine gate_dst (N:=1) rfl ?_);refine bxA 1 #[.int .i64 a0_0,.int .i64 a0_1,.int .i64 a0_2,.int .i64 a0_3,.int .i64 a0_4,.int .i64 a0_5,.int .i64 a0_6,.int .i64 a0_7] 69 ?_;intro gb181 hg w4 hbox hb;have n0_:=Am (below_step bA hb);have n1_:=Am (hbox);have n2_:=Am (gwA hg bA);have n3_:=Am (gwA hg bA);clear HB;have HB:=n0_;have BK181:=n1_;have GW181:=n2_;have GE181:=n3_;clear n0_ n1_ n2_ n3_ hb hbox hg))
  have n0_:=Am (blk_drew BK181.out);have n1_:=Am (below_drew1 HB.out);clear BK181 HB;have BK181:=n0_;have HB:=n1_;clear n0_ n1_
  refine start_ (n:=7) (S:=fun w' => w'.cell? ⟨gb181,0,none⟩ = some (.int .i64 a0_0) ∧ w'.cell? ⟨gb181,1,none⟩ = some (.int .i64 a0_1) ∧ w'.cell? ⟨gb181,2,none⟩ = some (.int .i64 a0_2) ∧ w'.cell? ⟨gb181,3,none⟩ = some (.int .i64 a0_3) ∧ w'.cell? ⟨gb181,4,none⟩ = some (.int .i64 a0_4) ∧ w'.cell? ⟨gb181,5,none⟩ = some (.int .i64 a0_5) ∧ w'.cell? ⟨gb181,6,none⟩ = some (.int .i64 a0_6) ∧ w'.cell? ⟨gb181,7,none⟩ = some (.int .i64 a0_7)) (ds:=[]) #[nn,nn,nn,nn,nn,nn,nn] (by kernel_rfl) rfl rfl ⟨(blk_cell BK181.out 0).trans rfl,(blk_cell BK181.out 1).trans rfl,(blk_cell BK181.out 2).trans rfl,(blk_cell BK181.out 3).trans rfl,(blk_cell BK181.out 4).trans rfl,(blk_cell BK181.out 5).trans rfl,(blk_cell BK181.out 6).trans rfl,(blk_cell BK181.out 7).trans rfl⟩ (fun hHeld => ?_)
  generalize w4.drew = w5 at BK181 HB hHeld ⊢
  refine pure_ (i:=2) (N:=some 5) (v:=?_) (a':=?_) #[nn,nn,yy,nn,nn,nn,nn] rfl rfl (by kernel_rfl) (fun _ _ _ h => h) (Or.inl ⟨by rfl,?_⟩) ?_ ?_
  rotate_left
  ·intro w'
   go_simp;with_reducible rfl
  rotate_left
  ·simp only [NR]
   rfl
  refine pure_ (i:=3) (N:=some 6) (v:=?_) (a':=?_) #[nn,nn,yy,yy,nn,nn,nn] rfl rfl (by kernel_rfl) (fun _ _ _ h => h) (Or.inl ⟨by rfl,?_⟩) ?_ ?_
  rotate_left
  ·intro w'
   go_simp;with_reducible rfl
  rotate_left
  ·simp only [NR]
   rfl
  refine take_ (i:=0) (N:=some 3) (v:=?_) (a':=?_) #[yy,nn,yy,yy,nn,nn,nn] rfl rfl (by kernel_rfl) (fun _ _ _ h => h) (Or.inl ⟨by rfl,?_⟩) hHeld ?_ ?_
  rotate_left
  ·rintro w' ⟨s0,s1,s2,s3,s4,s5,s6,s7⟩
   go_simp;with_reducible rfl
  rotate_left
  ·simp only [NR]
   rfl
  refine take_ (i:=4) (N:=some 7) (v:=?_) (a':=?_) #[yy,nn,yy,yy,yy,nn,nn] rfl rfl (by kernel_rfl) (fun _ _ _ h => h) (Or.inl ⟨by rfl,?_⟩) hHeld ?_ ?_
  rotate_left
  ·rintro w' ⟨s0,s1,s2,s3,s4,s5,s6,s7⟩
   go_simp;with_reducible rfl
  rotate_left
  ·simp only [NR]
   rfl
  refine one_ (i:=1) (N:=some 4) #[yy,yy,yy,yy,yy,nn,nn] rfl rfl (by kernel_rfl) (by decide) (fun K hK => ?_)
  refine goes_ Tryd.func64 (by kernel_rfl) rfl #[.agg #[.int .i64 a0_0,.int .i64 a0_1,.int .i64 a0_2,.int .i64 a0_3,.int .i64 a0_4,.int .i64 a0_5,.int .i64 a0_6,.int .i64 a0_7]] (by rfl) rfl rfl aA ?_
  with_reducible refine (config_asked_fairSize.calls a0_0 a0_1 a0_2 a0_3 a0_4 a0_5 a0_6 a0_7 t182 _ A2.out).mono ?_
  rintro e w6 ⟨rfl,hb⟩
  refine ⟨_,rfl,?_⟩;have n0_:=Am (blk_below (g:=gb181) kA hb);have n1_:=Am (below_step bA hb);clear BK181 HB;have BK181:=n0_;have HB:=n1_;clear n0_ n1_;(try clear hb)
  refine hK.out _ _ ⟨(blk_cell BK181.out 0).trans rfl,(blk_cell BK181.out 1).trans rfl,(blk_cell BK181.out 2).trans rfl,(blk_cell BK181.out 3).trans rfl,(blk_cell BK181.out 4).trans rfl,(blk_cell BK181.out 5).trans rfl,(blk_cell BK181.out 6).trans rfl,(blk_cell BK181.out 7).trans rfl⟩ (fun hHeld => ?_)
  clear hK K
  refine norm_ (a':=?_) ?_ ?_
  rotate_left
  ·show Act.put _ (some 4) _ = _
   simp only [NR]
   rfl
  refine pure_ (i:=5) (N:=some 8) (v:=?_) (a':=?_) #[yy,yy,yy,yy,yy,yy,nn] rfl rfl (by kernel_rfl) (fun _ _ _ h => h) (Or.inl ⟨by rfl,?_⟩) ?_ ?_
  rotate_left
  ·intro w'
   go_simp;with_reducible rfl
  rotate_left
  ·simp only [NR]
   rfl
  refine pure_ (i:=6) (N:=some 2) (v:=?_) (a':=?_) #[yy,yy,yy,yy,yy,yy,yy] rfl rfl (by kernel_rfl) (fun _ _ _ h => h) (Or.inl ⟨by rfl,?_⟩) ?_ ?_
  rotate_left
  ·intro w'
   go_simp;with_reducible rfl
  rotate_left
  ·simp only [NR]
   rfl
  refine done_ (by kernel_rfl) ?_
  try go_wp2
  go_ret
  exact ⟨by first | rfl | (simp [errW_none,errW_some] <;> rfl) | (simp [*,errW_none,errW_some] <;> rfl),bA⟩

end Go.Proofs.YtbhijfbjdbjpbaaDoor.GSH
namespace Go.Proofs.YtbhijfbjdbjpbaaDoor.GSH
open Go.RowKit Go.Proofs.YtbhijfbjdbjpbaaDoorW.PrintWords Go.Proofs.YtbhijfbjdbjpbaaDoorW.PrintLast Go.Proofs.YtbhijfbjdbjpbaaDoorW.PrintMore
attribute [local go_sem] max2_int min2_int max_two min_two max_three min_three max_four min_four   -- for this text's walks alone
set_option linter.unusedVariables false
set_option linter.unusedSimpArgs false
def config_asked_bound.f (a0_0 : Int) (a0_1 : Int) (a0_2 : Int) (a0_3 : Int) (a0_4 : Int) (a0_5 : Int) (a0_6 : Int) (a0_7 : Int) : Option (Int):=(config_asked_lead.f a0_0 a0_1 a0_2 a0_3 a0_4 a0_5 a0_6 a0_7).bind fun t184 => (some (wrap64 ((wrap64 (t184 + 1)) + (wrap64 (a0_1 * a0_2)))))
def config_asked_bound.T1 : Bool × List (List Nat × List Nat):=(true,[([],[]),([0],[0]),([1],[1]),([],[]),([3],[3]),([4],[4]),([],[]),([6],[6]),([7],[7]),([5,8],[5,8]),([2,9],[2,9]),([10,1,0,1,2,3,4,5,6,7,8,9,10],[10])])
def config_asked_bound.B1 : List Nat:=[0,1,3,0,8,24,0,64,192,504,1023,2047]
theorem config_asked_bound.tab1 : rtab .any (opsOf Tryd.f67 1) = config_asked_bound.T1:=by kernel_rfl
theorem config_asked_bound.bits1 : waitsOk config_asked_bound.T1.2 config_asked_bound.B1 = true:=by kernel_rfl
set_option maxHeartbeats 8000000 in
set_option maxRecDepth 100000 in
theorem config_asked_bound.calls (a0_0 : Int) (a0_1 : Int) (a0_2 : Int) (a0_3 : Int) (a0_4 : Int) (a0_5 : Int) (a0_6 : Int) (a0_7 : Int) (r : Int) (w : World) (h : config_asked_bound.f a0_0 a0_1 a0_2 a0_3 a0_4 a0_5 a0_6 a0_7 = some r) :
  Calls Tryd.prog 67 #[.agg #[.int .i64 a0_0,.int .i64 a0_1,.int .i64 a0_2,.int .i64 a0_3,.int .i64 a0_4,.int .i64 a0_5,.int .i64 a0_6,.int .i64 a0_7]] w fun e w' => e = .returned (.int .i64 r) ∧ Below w.heap.size w w':=by
 have hu69:=Tryd.underlying69
 have HB:=Am (Below.refl w.heap.size w)
 have H : ((config_asked_lead.f a0_0 a0_1 a0_2 a0_3 a0_4 a0_5 a0_6 a0_7).bind fun t184 => (some (wrap64 ((wrap64 (t184 + 1)) + (wrap64 (a0_1 * a0_2)))))) = some r:=h
 clear h;replace H:=Option.bind_eq_some_iff.mp H;obtain ⟨t184,A20,H⟩:=H;replace H : (some (wrap64 ((wrap64 (t184 + 1)) + (wrap64 (a0_1 * a0_2))))) = some r:=H;have A2:=Aside0.mk A20;clear A20
 obtain rfl:=Option.some.inj H
 go_enter Tryd.func67,Tryd.ntmps67
 try go_wp2_with (first | ((with_reducible refine gate_dst (N:=1) rfl ?_);refine bxA 1 #[.int .i64 a0_0,.int .i64 a0_1,.int .i64 a0_2,.int .i64 a0_3,.int .i64 a0_4,.int .i64 a0_5,.int .i64 a0_6,.int .i64 a0_7] 69 ?_;intro gb183 hg w3 hbox hb;have n0_:=Am (below_step bA hb);have n1_:=Am (hbox);have n2_:=Am (gwA hg bA);have n3_:=Am (gwA hg bA);clear HB;have HB:=n0_;have BK183:=n1_;have GW183:=n2_;have GE183:=n3_;clear n0_ n1_ n2_ n3_ hb hbox hg))
 have n0_:=Am (blk_drew BK183.out);have n1_:=Am (below_drew1 HB.out);clear BK183 HB;have BK183:=n0_;have HB:=n1_;clear n0_ n1_
 refine start_ (n:=12) (S:=fun w' => w'.cell? ⟨gb183,0,none⟩ = some (.int .i64 a0_0) ∧ w'.cell? ⟨gb183,1,none⟩ = some (.int .i64 a0_1) ∧ w'.cell? ⟨gb183,2,none⟩ = some (.int .i64 a0_2) ∧ w'.cell? ⟨gb183,3,none⟩ = some (.int .i64 a0_3) ∧ w'.cell? ⟨gb183,4,none⟩ = some (.int .i64 a0_4) ∧ w'.cell? ⟨gb183,5,none⟩ = some (.int .i64 a0_5) ∧ w'.cell? ⟨gb183,6,none⟩ = some (.int .i64 a0_6) ∧ w'.cell? ⟨gb183,7,none⟩ = some (.int .i64 a0_7)) (ds:=[]) #[nn,nn,nn,nn,nn,nn,nn,nn,nn,nn,nn,nn] (by kernel_rfl) rfl rfl ⟨(blk_cell BK183.out 0).trans rfl,(blk_cell BK183.out 1).trans rfl,(blk_cell BK183.out 2).trans rfl,(blk_cell BK183.out 3).trans rfl,(blk_cell BK183.out 4).trans rfl,(blk_cell BK183.out 5).trans rfl,(blk_cell BK183.out 6).trans rfl,(blk_cell BK183.out 7).trans rfl⟩ (fun hHeld => ?_);refine with_tabW config_asked_bound.tab1 config_asked_bound.bits1 (fun HT_ HW_ => ?_)
 generalize w3.drew = w4 at BK183 HB hHeld ⊢
 refine pure_ (i:=3) (N:=some 6) (v:=?_) (a':=?_) #[nn,nn,nn,yy,nn,nn,nn,nn,nn,nn,nn,nn] rfl rfl (any_of HT_.out (by kernel_rfl)) (fun _ _ _ h => h) (Or.inl ⟨by rfl,?_⟩) ?_ ?_
 rotate_left
 ·intro w'
  go_simp;with_reducible rfl
 rotate_left
 ·simp only [NR]
  rfl
 refine pure_ (i:=4) (N:=some 7) (v:=?_) (a':=?_) #[nn,nn,nn,yy,yy,nn,nn,nn,nn,nn,nn,nn] rfl rfl (any_of HT_.out (by kernel_rfl)) (fun _ _ _ h => h) (Or.inl ⟨by rfl,?_⟩) ?_ ?_
 rotate_left
 ·intro w'
  go_simp;with_reducible rfl
 rotate_left
 ·simp only [NR]
  rfl
 refine pure_ (i:=6) (N:=some 9) (v:=?_) (a':=?_) #[nn,nn,nn,yy,yy,nn,yy,nn,nn,nn,nn,nn] rfl rfl (any_of HT_.out (by kernel_rfl)) (fun _ _ _ h => h) (Or.inl ⟨by rfl,?_⟩) ?_ ?_
 rotate_left
 ·intro w'
  go_simp;with_reducible rfl
 rotate_left
 ·simp only [NR]
  rfl
 refine pure_ (i:=7) (N:=some 10) (v:=?_) (a':=?_) #[nn,nn,nn,yy,yy,nn,yy,yy,nn,nn,nn,nn] rfl rfl (any_of HT_.out (by kernel_rfl)) (fun _ _ _ h => h) (Or.inl ⟨by rfl,?_⟩) ?_ ?_
 rotate_left
 ·intro w'
  go_simp;with_reducible rfl
 rotate_left
 ·simp only [NR]
  rfl
 refine take_ (i:=0) (N:=some 3) (v:=?_) (a':=?_) #[yy,nn,nn,yy,yy,nn,yy,yy,nn,nn,nn,nn] rfl rfl (take_ofW HT_.out HW_.out (by kernel_rfl)) (fun _ _ _ h => h) (Or.inl ⟨by rfl,?_⟩) hHeld ?_ ?_
 rotate_left
 ·rintro w' ⟨s0,s1,s2,s3,s4,s5,s6,s7⟩
  go_simp;with_reducible rfl
 rotate_left
 ·simp only [NR]
  rfl
 refine take_ (i:=5) (N:=some 8) (v:=?_) (a':=?_) #[yy,nn,nn,yy,yy,yy,yy,yy,nn,nn,nn,nn] rfl rfl (take_ofW HT_.out HW_.out (by kernel_rfl)) (fun _ _ _ h => h) (Or.inl ⟨by rfl,?_⟩) hHeld ?_ ?_
 rotate_left
 ·rintro w' ⟨s0,s1,s2,s3,s4,s5,s6,s7⟩
  go_simp;with_reducible rfl
 rotate_left
 ·simp only [NR]
  rfl
 refine take_ (i:=8) (N:=some 11) (v:=?_) (a':=?_) #[yy,nn,nn,yy,yy,yy,yy,yy,yy,nn,nn,nn] rfl rfl (take_ofW HT_.out HW_.out (by kernel_rfl)) (fun _ _ _ h => h) (Or.inl ⟨by rfl,?_⟩) hHeld ?_ ?_
 rotate_left
 ·rintro w' ⟨s0,s1,s2,s3,s4,s5,s6,s7⟩
  go_simp;with_reducible rfl
 rotate_left
 ·simp only [NR]
  rfl
 refine pure_ (i:=9) (N:=some 12) (v:=?_) (a':=?_) #[yy,nn,nn,yy,yy,yy,yy,yy,yy,yy,nn,nn] rfl rfl (any_of HT_.out (by kernel_rfl)) (fun _ _ _ h => h) (Or.inl ⟨by rfl,?_⟩) ?_ ?_
 rotate_left
 ·intro w'
  go_simp;with_reducible rfl
 rotate_left
 ·simp only [NR]
  rfl
 refine one_ (i:=1) (N:=some 4) #[yy,yy,nn,yy,yy,yy,yy,yy,yy,yy,nn,nn] rfl rfl (one_of HT_.out (by kernel_rfl)) (by decide) (fun K hK => ?_)
 refine goes_ Tryd.func80 (by kernel_rfl) rfl #[.agg #[.int .i64 a0_0,.int .i64 a0_1,.int .i64 a0_2,.int .i64 a0_3,.int .i64 a0_4,.int .i64 a0_5,.int .i64 a0_6,.int .i64 a0_7]] (by rfl) rfl rfl aA ?_
 with_reducible refine (config_asked_lead.calls a0_0 a0_1 a0_2 a0_3 a0_4 a0_5 a0_6 a0_7 t184 _ A2.out).mono ?_
 rintro e w5 ⟨rfl,hb⟩
 refine ⟨_,rfl,?_⟩;have n0_:=Am (blk_below (g:=gb183) kA hb);have n1_:=Am (below_step bA hb);clear BK183 HB;have BK183:=n0_;have HB:=n1_;clear n0_ n1_;(try clear hb)
 refine hK.out _ _ ⟨(blk_cell BK183.out 0).trans rfl,(blk_cell BK183.out 1).trans rfl,(blk_cell BK183.out 2).trans rfl,(blk_cell BK183.out 3).trans rfl,(blk_cell BK183.out 4).trans rfl,(blk_cell BK183.out 5).trans rfl,(blk_cell BK183.out 6).trans rfl,(blk_cell BK183.out 7).trans rfl⟩ (fun hHeld => ?_)
 clear hK K
 refine norm_ (a':=?_) ?_ ?_
 rotate_left
 ·show Act.put _ (some 4) _ = _
  simp only [NR]
  rfl
 refine pure_ (i:=2) (N:=some 5) (v:=?_) (a':=?_) #[yy,yy,yy,yy,yy,yy,yy,yy,yy,yy,nn,nn] rfl rfl (any_of HT_.out (by kernel_rfl)) (fun _ _ _ h => h) (Or.inl ⟨by rfl,?_⟩) ?_ ?_
 rotate_left
 ·intro w'
  go_simp;with_reducible rfl
 rotate_left
 ·simp only [NR]
  rfl
 refine pure_ (i:=10) (N:=some 13) (v:=?_) (a':=?_) #[yy,yy,yy,yy,yy,yy,yy,yy,yy,yy,yy,nn] rfl rfl (any_of HT_.out (by kernel_rfl)) (fun _ _ _ h => h) (Or.inl ⟨by rfl,?_⟩) ?_ ?_
 rotate_left
 ·intro w'
  go_simp;with_reducible rfl
 rotate_left
 ·simp only [NR]
  rfl
 refine pure_ (i:=11) (N:=some 2) (v:=?_) (a':=?_) #[yy,yy,yy,yy,yy,yy,yy,yy,yy,yy,yy,yy] rfl rfl (any_of HT_.out (by kernel_rfl)) (fun _ _ _ h => h) (Or.inl ⟨by rfl,?_⟩) ?_ ?_
 rotate_left
 ·intro w'
  go_simp;with_reducible rfl
 rotate_left
 ·simp only [NR]
  rfl
 refine done_ (done_of HT_.out (by kernel_rfl)) ?_
 try go_wp2
 go_ret
 exact ⟨by first | rfl | (simp [errW_none,errW_some] <;> rfl) | (simp [*,errW_none,errW_some] <;> rfl),bA⟩

end Go.Proofs.YtbhijfbjdbjpbaaDoor.GSH
namespace Go.Proofs.YtbhijfbjdbjpbaaDoor.GSH
open Go.RowKit Go.Proofs.YtbhijfbjdbjpbaaDoorW.PrintWords Go.Proofs.YtbhijfbjdbjpbaaDoorW.PrintLast Go.Proofs.YtbhijfbjdbjpbaaDoorW.PrintMore
attribute [local go_sem] max2_int min2_int max_two min_two max_three min_three max_four min_four   -- for this text's walks alone
set_option linter.unusedVariables false
set_option linter.unusedSimpArgs false
def config_asked_off.f (a0_0 : Int) (a0_1 : Int) (a0_2 : Int) (a0_3 : Int) (a0_4 : Int) (a0_5 : Int) (a0_6 : Int) (a0_7 : Int) : Option (Int):=(config_asked_bounds.f a0_0 a0_1 a0_2 a0_3 a0_4 a0_5 a0_6 a0_7).bind fun bt186 => ((wide_Times.f bt186.1 bt186.2.1 1000).bind fun bt192 => ((config_asked_bound.f a0_0 a0_1 a0_2 a0_3 a0_4 a0_5 a0_6 a0_7).bind fun t196 => ((config_asked_fairSize.f a0_0 a0_1 a0_2 a0_3 a0_4 a0_5 a0_6 a0_7).bind fun t197 => ((wide_Times.f bt186.2.2.1 bt186.2.2.2 (IntKind.u64.wrap (wrap64 ((wrap64 (a0_3 * t196)) + t197)))).bind fun bt198 => ((wide_Cmp.f bt192.1 bt192.2.1 bt198.1 bt198.2.1).bind fun t202 => (if t202 > 0 then (some 113) else (some 0)))))))
def config_asked_off.T3 : Bool × List (List Nat × List Nat):=(true,[([],[]),([],[]),([1],[1]),([2],[2]),([],[]),([4],[4]),([3,5],[3,5]),([],[]),([7,5],[7]),([6,8],[6,8]),([9],[9]),([0,10,8],[0,10]),([11],[11]),([12],[12]),([12],[12]),([],[]),([15,13,11,0,1,2,3,4,5,6,7,8,9,10,11,12,13,15],[13,15]),([14,16,0,1,2,3,4,5,6,7,8,9,10,11,12,13,14,15,16],[14])])
def config_asked_off.B3 : List Nat:=[0,0,2,6,0,16,62,0,176,510,1022,2047,4095,8191,8191,0,49151,131071]
theorem config_asked_off.tab3 : rtab .any (opsOf Tryd.f37 3) = config_asked_off.T3:=by kernel_rfl
theorem config_asked_off.bits3 : waitsOk config_asked_off.T3.2 config_asked_off.B3 = true:=by kernel_rfl
set_option maxHeartbeats 8000000 in
set_option maxRecDepth 100000 in
theorem config_asked_off.calls (a0_0 : Int) (a0_1 : Int) (a0_2 : Int) (a0_3 : Int) (a0_4 : Int) (a0_5 : Int) (a0_6 : Int) (a0_7 : Int) (r : Int) (w : World) (h : config_asked_off.f a0_0 a0_1 a0_2 a0_3 a0_4 a0_5 a0_6 a0_7 = some r) :
  Calls Tryd.prog 37 #[.agg #[.int .i64 a0_0,.int .i64 a0_1,.int .i64 a0_2,.int .i64 a0_3,.int .i64 a0_4,.int .i64 a0_5,.int .i64 a0_6,.int .i64 a0_7]] w fun e w' => e = .returned (.int .i64 r) ∧ Below w.heap.size w w':=by
 have hu69:=Tryd.underlying69
 have hu76:=Tryd.underlying76
 have HB:=Am (Below.refl w.heap.size w)
 have H : ((config_asked_bounds.f a0_0 a0_1 a0_2 a0_3 a0_4 a0_5 a0_6 a0_7).bind fun bt186 => ((wide_Times.f bt186.1 bt186.2.1 1000).bind fun bt192 => ((config_asked_bound.f a0_0 a0_1 a0_2 a0_3 a0_4 a0_5 a0_6 a0_7).bind fun t196 => ((config_asked_fairSize.f a0_0 a0_1 a0_2 a0_3 a0_4 a0_5 a0_6 a0_7).bind fun t197 => ((wide_Times.f bt186.2.2.1 bt186.2.2.2 (IntKind.u64.wrap (wrap64 ((wrap64 (a0_3 * t196)) + t197)))).bind fun bt198 => ((wide_Cmp.f bt192.1 bt192.2.1 bt198.1 bt198.2.1).bind fun t202 => (if t202 > 0 then (some 113) else (some 0)))))))) = some r:=h
 clear h;replace H:=Option.bind_eq_some_iff.mp H;obtain ⟨⟨t186,t187,t188,t189⟩,A20,H⟩:=H;replace H : ((wide_Times.f t186 t187 1000).bind fun bt192 => ((config_asked_bound.f a0_0 a0_1 a0_2 a0_3 a0_4 a0_5 a0_6 a0_7).bind fun t196 => ((config_asked_fairSize.f a0_0 a0_1 a0_2 a0_3 a0_4 a0_5 a0_6 a0_7).bind fun t197 => ((wide_Times.f t188 t189 (IntKind.u64.wrap (wrap64 ((wrap64 (a0_3 * t196)) + t197)))).bind fun bt198 => ((wide_Cmp.f bt192.1 bt192.2.1 bt198.1 bt198.2.1).bind fun t202 => (if t202 > 0 then (some 113) else (some 0))))))) = some r:=H;have A2:=Aside0.mk A20;clear A20;replace H:=Option.bind_eq_some_iff.mp H;obtain ⟨⟨t192,t193,t194⟩,A30,H⟩:=H;replace H : ((config_asked_bound.f a0_0 a0_1 a0_2 a0_3 a0_4 a0_5 a0_6 a0_7).bind fun t196 => ((config_asked_fairSize.f a0_0 a0_1 a0_2 a0_3 a0_4 a0_5 a0_6 a0_7).bind fun t197 => ((wide_Times.f t188 t189 (IntKind.u64.wrap (wrap64 ((wrap64 (a0_3 * t196)) + t197)))).bind fun bt198 => ((wide_Cmp.f t192 t193 bt198.1 bt198.2.1).bind fun t202 => (if t202 > 0 then (some 113) else (some 0)))))) = some r:=H;have A3:=Aside0.mk A30;clear A30;replace H:=Option.bind_eq_some_iff.mp H;obtain ⟨t196,A40,H⟩:=H;replace H : ((config_asked_fairSize.f a0_0 a0_1 a0_2 a0_3 a0_4 a0_5 a0_6 a0_7).bind fun t197 => ((wide_Times.f t188 t189 (IntKind.u64.wrap (wrap64 ((wrap64 (a0_3 * t196)) + t197)))).bind fun bt198 => ((wide_Cmp.f t192 t193 bt198.1 bt198.2.1).bind fun t202 => (if t202 > 0 then (some 113) else (some 0))))) = some r:=H;have A4:=Aside0.mk A40;clear A40;replace H:=Option.bind_eq_some_iff.mp H;obtain ⟨t197,A50,H⟩:=H;replace H : ((wide_Times.f t188 t189 (IntKind.u64.wrap (wrap64 ((wrap64 (a0_3 * t196)) + t197)))).bind fun bt198 => ((wide_Cmp.f t192 t193 bt198.1 bt198.2.1).bind fun t202 => (if t202 > 0 then (some 113) else (some 0)))) = some r:=H;have A5:=Aside0.mk A50;clear A50;replace H:=Option.bind_eq_some_iff.mp H;obtain ⟨⟨t198,t199,t200⟩,A60,H⟩:=H;replace H : ((wide_Cmp.f t192 t193 t198 t199).bind fun t202 => (if t202 > 0 then (some 113) else (some 0))) = some r:=H;have A6:=Aside0.mk A60;clear A60;replace H:=Option.bind_eq_some_iff.mp H;obtain ⟨t202,A70,H⟩:=H;replace H : (if t202 > 0 then (some 113) else (some 0)) = some r:=H;have A7:=Aside0.mk A70;clear A70
 go_enter Tryd.func37,Tryd.ntmps37
 try go_wp2_with (first | ((with_reducible refine gate_dst (N:=1) rfl ?_);refine bxA 1 #[.int .i64 a0_0,.int .i64 a0_1,.int .i64 a0_2,.int .i64 a0_3,.int .i64 a0_4,.int .i64 a0_5,.int .i64 a0_6,.int .i64 a0_7] 69 ?_;intro gb185 hg w9 hbox hb;have n0_:=Am (below_step bA hb);have n1_:=Am (hbox);have n2_:=Am (gwA hg bA);have n3_:=Am (gwA hg bA);clear HB;have HB:=n0_;have BK185:=n1_;have GW185:=n2_;have GE185:=n3_;clear n0_ n1_ n2_ n3_ hb hbox hg;have hcz10_0 : w9.cell? ⟨gb185,0,none⟩ = some (.int .i64 a0_0):=(blk_cell BK185.out 0).trans rfl;have hcz10_1 : w9.cell? ⟨gb185,1,none⟩ = some (.int .i64 a0_1):=(blk_cell BK185.out 1).trans rfl;have hcz10_2 : w9.cell? ⟨gb185,2,none⟩ = some (.int .i64 a0_2):=(blk_cell BK185.out 2).trans rfl;have hcz10_3 : w9.cell? ⟨gb185,3,none⟩ = some (.int .i64 a0_3):=(blk_cell BK185.out 3).trans rfl;have hcz10_4 : w9.cell? ⟨gb185,4,none⟩ = some (.int .i64 a0_4):=(blk_cell BK185.out 4).trans rfl;have hcz10_5 : w9.cell? ⟨gb185,5,none⟩ = some (.int .i64 a0_5):=(blk_cell BK185.out 5).trans rfl;have hcz10_6 : w9.cell? ⟨gb185,6,none⟩ = some (.int .i64 a0_6):=(blk_cell BK185.out 6).trans rfl;have hcz10_7 : w9.cell? ⟨gb185,7,none⟩ = some (.int .i64 a0_7):=(blk_cell BK185.out 7).trans rfl;have hfz10_0:=blk_frozen BK185.out 0;have hfz10_1:=blk_frozen BK185.out 1;have hfz10_2:=blk_frozen BK185.out 2;have hfz10_3:=blk_frozen BK185.out 3;have hfz10_4:=blk_frozen BK185.out 4;have hfz10_5:=blk_frozen BK185.out 5;have hfz10_6:=blk_frozen BK185.out 6;have hfz10_7:=blk_frozen BK185.out 7) | ((with_reducible refine gate_callee (f:=65) rfl ?_);refine goesL_ (some 11) rfl rfl Tryd.func65 (by kernel_rfl) rfl #[.agg #[.int .i64 a0_0,.int .i64 a0_1,.int .i64 a0_2,.int .i64 a0_3,.int .i64 a0_4,.int .i64 a0_5,.int .i64 a0_6,.int .i64 a0_7]] rfl aA ?_;(with_reducible refine (config_asked_bounds.calls a0_0 a0_1 a0_2 a0_3 a0_4 a0_5 a0_6 a0_7 t186 t187 t188 t189 _ A2.out).mono ?_);rintro e w11 ⟨rfl,hb⟩;refine ⟨_,rfl,?_⟩;have n0_:=Am (blk_below (g:=gb185) kA hb);have n1_:=Am (below_step bA hb);clear BK185 HB;have BK185:=n0_;have HB:=n1_;clear n0_ n1_;(try clear hb)) | ((with_reducible refine gate_dst (N:=3) rfl ?_);refine bxA 3 #[.int .u64 0,.int .u64 0] 76 ?_;intro gb190 hg w12 hbox hb;have n0_:=Am (blk_below (g:=gb185) kA hb);have n1_:=Am (below_step bA hb);have n2_:=Am (hbox);have n3_:=Am (gwA hg bA);have n4_:=Am (gwA hg bA);have n5_:=Am (neA (g:=gb185) hg kA);have n6_:=Am (neB (g:=gb185) hg kA);clear BK185 HB;have BK185:=n0_;have HB:=n1_;have BK190:=n2_;have GW190:=n3_;have GE190:=n4_;have NB185_190:=n5_;have NB190_185:=n6_;clear n0_ n1_ n2_ n3_ n4_ n5_ n6_ hb hbox hg) | ((with_reducible refine gate_dst (N:=4) rfl ?_);refine bxA 4 #[.int .u64 0,.int .u64 0] 76 ?_;intro gb191 hg w13 hbox hb;have n0_:=Am (blk_below (g:=gb185) kA hb);have n1_:=Am (blk_below (g:=gb190) kA hb);have n2_:=Am (below_step bA hb);have n3_:=Am (hbox);have n4_:=Am (gwA hg bA);have n5_:=Am (gwA hg bA);have n6_:=Am (neA (g:=gb185) hg kA);have n7_:=Am (neB (g:=gb185) hg kA);have n8_:=Am (neA (g:=gb190) hg kA);have n9_:=Am (neB (g:=gb190) hg kA);clear BK185 BK190 HB;have BK185:=n0_;have BK190:=n1_;have HB:=n2_;have BK191:=n3_;have GW191:=n4_;have GE191:=n5_;have NB185_191:=n6_;have NB191_185:=n7_;have NB190_191:=n8_;have NB191_190:=n9_;clear n0_ n1_ n2_ n3_ n4_ n5_ n6_ n7_ n8_ n9_ hb hbox hg;have hnb14:=NB190_185.out;have hnc14:=NB185_190.out;have hnb15:=NB190_191.out;have hnc15:=NB191_190.out;have hcz16_0 : w13.cell? ⟨gb190,0,none⟩ = some (.int .u64 0):=(blk_cell BK190.out 0).trans rfl;have hcz16_1 : w13.cell? ⟨gb190,1,none⟩ = some (.int .u64 0):=(blk_cell BK190.out 1).trans rfl;have hfz16_0:=blk_frozen BK190.out 0;have hfz16_1:=blk_frozen BK190.out 1;have hnb17:=NB191_185.out;have hnc17:=NB185_191.out;have hcz18_0 : w13.cell? ⟨gb191,0,none⟩ = some (.int .u64 0):=(blk_cell BK191.out 0).trans rfl;have hcz18_1 : w13.cell? ⟨gb191,1,none⟩ = some (.int .u64 0):=(blk_cell BK191.out 1).trans rfl;have hfz18_0:=blk_frozen BK191.out 0;have hfz18_1:=blk_frozen BK191.out 1) | ((with_reducible refine gate_callee (f:=66) rfl ?_);refine goesL_ (some 16) rfl rfl Tryd.func66 (by kernel_rfl) rfl #[.agg #[.int .u64 t186,.int .u64 t187],.int .u64 1000] rfl aA ?_;(with_reducible refine (wide_Times.calls t186 t187 1000 t192 t193 t194 _ A3.out).mono ?_);rintro e w19 ⟨rfl,hb⟩;refine ⟨_,rfl,?_⟩;have n0_:=Am (blk_below (g:=gb185) (o:=.cells #[.int .i64 a0_0,.int .i64 a0_1,.int .i64 a0_2,.int .i64 a0_3,.int .i64 a0_4,.int .i64 a0_5,.int .i64 a0_6,.int .i64 a0_7] 69 (0,0)) (by (with_reducible repeat (first | refine b1 ?_ _ | refine b2 ?_ | refine b3 ?_ _));refine blk_far ?_ NB185_191.out _;(with_reducible repeat (first | refine b1 ?_ _ | refine b2 ?_ | refine b3 ?_ _));refine blk_far ?_ NB185_191.out _;(with_reducible repeat (first | refine b1 ?_ _ | refine b2 ?_ | refine b3 ?_ _));refine blk_far ?_ NB185_190.out _;(with_reducible repeat (first | refine b1 ?_ _ | refine b2 ?_ | refine b3 ?_ _));refine blk_far ?_ NB185_190.out _;exact kA) hb);have n1_:=Am (blk_below (g:=gb190) (o:=.cells #[.int .u64 t186,.int .u64 t187] 76 (0,0)) (by (with_reducible repeat (first | refine b1 ?_ _ | refine b2 ?_ | refine b3 ?_ _));refine blk_far ?_ NB190_191.out _;(with_reducible repeat (first | refine b1 ?_ _ | refine b2 ?_ | refine b3 ?_ _));refine blk_far ?_ NB190_191.out _;(with_reducible repeat (first | refine b1 ?_ _ | refine b2 ?_ | refine b3 ?_ _));refine blk_put (cs:=#[.int .u64 t186,.int .u64 0]) ?_ 1 _ rfl;(with_reducible repeat (first | refine b1 ?_ _ | refine b2 ?_ | refine b3 ?_ _));refine blk_put (cs:=#[.int .u64 0,.int .u64 0]) ?_ 0 _ rfl;exact kA) hb);have n2_:=Am (blk_below (g:=gb191) (o:=.cells #[.int .u64 t188,.int .u64 t189] 76 (0,0)) (by (with_reducible repeat (first | refine b1 ?_ _ | refine b2 ?_ | refine b3 ?_ _));refine blk_put (cs:=#[.int .u64 t188,.int .u64 0]) ?_ 1 _ rfl;(with_reducible repeat (first | refine b1 ?_ _ | refine b2 ?_ | refine b3 ?_ _));refine blk_put (cs:=#[.int .u64 0,.int .u64 0]) ?_ 0 _ rfl;(with_reducible repeat (first | refine b1 ?_ _ | refine b2 ?_ | refine b3 ?_ _));refine blk_far ?_ NB191_190.out _;(with_reducible repeat (first | refine b1 ?_ _ | refine b2 ?_ | refine b3 ?_ _));refine blk_far ?_ NB191_190.out _;exact kA) hb);have n3_:=Am (below_step bA hb);clear BK185 BK190 BK191 HB;have BK185:=n0_;have BK190:=n1_;have BK191:=n2_;have HB:=n3_;clear n0_ n1_ n2_ n3_;(try clear hb)) | ((with_reducible refine gate_dst (N:=5) rfl ?_);refine bxA 5 #[.int .u64 0,.int .u64 0] 76 ?_;intro gb195 hg w20 hbox hb;have n0_:=Am (blk_below (g:=gb185) kA hb);have n1_:=Am (blk_below (g:=gb190) kA hb);have n2_:=Am (blk_below (g:=gb191) kA hb);have n3_:=Am (below_step bA hb);have n4_:=Am (hbox);have n5_:=Am (gwA hg bA);have n6_:=Am (gwA hg bA);have n7_:=Am (neA (g:=gb185) hg kA);have n8_:=Am (neB (g:=gb185) hg kA);have n9_:=Am (neA (g:=gb190) hg kA);have n10_:=Am (neB (g:=gb190) hg kA);have n11_:=Am (neA (g:=gb191) hg kA);have n12_:=Am (neB (g:=gb191) hg kA);clear BK185 BK190 BK191 HB;have BK185:=n0_;have BK190:=n1_;have BK191:=n2_;have HB:=n3_;have BK195:=n4_;have GW195:=n5_;have GE195:=n6_;have NB185_195:=n7_;have NB195_185:=n8_;have NB190_195:=n9_;have NB195_190:=n10_;have NB191_195:=n11_;have NB195_191:=n12_;clear n0_ n1_ n2_ n3_ n4_ n5_ n6_ n7_ n8_ n9_ n10_ n11_ n12_ hb hbox hg;have hnb21:=NB195_185.out;have hnc21:=NB185_195.out;have hnb22:=NB195_190.out;have hnc22:=NB190_195.out;have hnb23:=NB195_191.out;have hnc23:=NB191_195.out;have hcz24_0 : w20.cell? ⟨gb195,0,none⟩ = some (.int .u64 0):=(blk_cell BK195.out 0).trans rfl;have hcz24_1 : w20.cell? ⟨gb195,1,none⟩ = some (.int .u64 0):=(blk_cell BK195.out 1).trans rfl;have hfz24_0:=blk_frozen BK195.out 0;have hfz24_1:=blk_frozen BK195.out 1))
 have n0_ : Aside0 (((w20.setCell ⟨gb195,0,none⟩ (.int .u64 t192)).setCell ⟨gb195,1,none⟩ (.int .u64 t193)).heap[gb185]? = some (.cells #[.int .i64 a0_0,.int .i64 a0_1,.int .i64 a0_2,.int .i64 a0_3,.int .i64 a0_4,.int .i64 a0_5,.int .i64 a0_6,.int .i64 a0_7] 69 (0,0))):=⟨by (with_reducible repeat (first | refine b1 ?_ _ | refine b2 ?_ | refine b3 ?_ _));refine blk_far ?_ NB185_195.out _;(with_reducible repeat (first | refine b1 ?_ _ | refine b2 ?_ | refine b3 ?_ _));refine blk_far ?_ NB185_195.out _;exact kA⟩
 have n1_ : Aside0 (((w20.setCell ⟨gb195,0,none⟩ (.int .u64 t192)).setCell ⟨gb195,1,none⟩ (.int .u64 t193)).heap[gb190]? = some (.cells #[.int .u64 t186,.int .u64 t187] 76 (0,0))):=⟨by (with_reducible repeat (first | refine b1 ?_ _ | refine b2 ?_ | refine b3 ?_ _));refine blk_far ?_ NB190_195.out _;(with_reducible repeat (first | refine b1 ?_ _ | refine b2 ?_ | refine b3 ?_ _));refine blk_far ?_ NB190_195.out _;exact kA⟩
 have n2_ : Aside0 (((w20.setCell ⟨gb195,0,none⟩ (.int .u64 t192)).setCell ⟨gb195,1,none⟩ (.int .u64 t193)).heap[gb191]? = some (.cells #[.int .u64 t188,.int .u64 t189] 76 (0,0))):=⟨by (with_reducible repeat (first | refine b1 ?_ _ | refine b2 ?_ | refine b3 ?_ _));refine blk_far ?_ NB191_195.out _;(with_reducible repeat (first | refine b1 ?_ _ | refine b2 ?_ | refine b3 ?_ _));refine blk_far ?_ NB191_195.out _;exact kA⟩
 have n3_ : Aside0 (((w20.setCell ⟨gb195,0,none⟩ (.int .u64 t192)).setCell ⟨gb195,1,none⟩ (.int .u64 t193)).heap[gb195]? = some (.cells #[.int .u64 t192,.int .u64 t193] 76 (0,0))):=⟨by (with_reducible repeat (first | refine b1 ?_ _ | refine b2 ?_ | refine b3 ?_ _));refine blk_put (cs:=#[.int .u64 t192,.int .u64 0]) ?_ 1 _ rfl;(with_reducible repeat (first | refine b1 ?_ _ | refine b2 ?_ | refine b3 ?_ _));refine blk_put (cs:=#[.int .u64 0,.int .u64 0]) ?_ 0 _ rfl;exact kA⟩
 have n4_ : Aside0 (Below w.heap.size w ((w20.setCell ⟨gb195,0,none⟩ (.int .u64 t192)).setCell ⟨gb195,1,none⟩ (.int .u64 t193))):=⟨bA⟩
 (try clear BK185);(try clear BK190);(try clear BK191);(try clear BK195);(try clear HB)
 generalize ((w20.setCell ⟨gb195,0,none⟩ (.int .u64 t192)).setCell ⟨gb195,1,none⟩ (.int .u64 t193)) = w25 at n0_ n1_ n2_ n3_ n4_ ⊢
 have BK185:=n0_;have BK190:=n1_;have BK191:=n2_;have BK195:=n3_;have HB:=n4_;clear n0_ n1_ n2_ n3_ n4_;have n0_:=Am (blk_drew BK185.out);have n1_:=Am (blk_drew BK190.out);have n2_:=Am (blk_drew BK191.out);have n3_:=Am (blk_drew BK195.out);have n4_:=Am (below_drew1 HB.out);clear BK185 BK190 BK191 BK195 HB;have BK185:=n0_;have BK190:=n1_;have BK191:=n2_;have BK195:=n3_;have HB:=n4_;clear n0_ n1_ n2_ n3_ n4_
 refine start_ (n:=18) (S:=fun w' => w'.cell? ⟨gb191,0,none⟩ = some (.int .u64 t188) ∧ w'.cell? ⟨gb191,1,none⟩ = some (.int .u64 t189) ∧ w'.cell? ⟨gb185,0,none⟩ = some (.int .i64 a0_0) ∧ w'.cell? ⟨gb185,1,none⟩ = some (.int .i64 a0_1) ∧ w'.cell? ⟨gb185,2,none⟩ = some (.int .i64 a0_2) ∧ w'.cell? ⟨gb185,3,none⟩ = some (.int .i64 a0_3) ∧ w'.cell? ⟨gb185,4,none⟩ = some (.int .i64 a0_4) ∧ w'.cell? ⟨gb185,5,none⟩ = some (.int .i64 a0_5) ∧ w'.cell? ⟨gb185,6,none⟩ = some (.int .i64 a0_6) ∧ w'.cell? ⟨gb185,7,none⟩ = some (.int .i64 a0_7)) (ds:=[]) #[nn,nn,nn,nn,nn,nn,nn,nn,nn,nn,nn,nn,nn,nn,nn,nn,nn,nn] (by kernel_rfl) rfl rfl ⟨(blk_cell BK191.out 0).trans rfl,(blk_cell BK191.out 1).trans rfl,(blk_cell BK185.out 0).trans rfl,(blk_cell BK185.out 1).trans rfl,(blk_cell BK185.out 2).trans rfl,(blk_cell BK185.out 3).trans rfl,(blk_cell BK185.out 4).trans rfl,(blk_cell BK185.out 5).trans rfl,(blk_cell BK185.out 6).trans rfl,(blk_cell BK185.out 7).trans rfl⟩ (fun hHeld => ?_);refine with_tabW config_asked_off.tab3 config_asked_off.bits3 (fun HT_ HW_ => ?_)
 generalize w25.drew = w26 at BK185 BK190 BK191 BK195 HB hHeld ⊢
 refine pure_ (i:=1) (N:=some 21) (v:=?_) (a':=?_) #[nn,yy,nn,nn,nn,nn,nn,nn,nn,nn,nn,nn,nn,nn,nn,nn,nn,nn] rfl rfl (any_of HT_.out (by kernel_rfl)) (fun _ _ _ h => h) (Or.inl ⟨by rfl,?_⟩) ?_ ?_
 rotate_left
 ·intro w'
  go_simp;with_reducible rfl
 rotate_left
 ·simp only [NR]
  rfl
 refine pure_ (i:=2) (N:=some 22) (v:=?_) (a':=?_) #[nn,yy,yy,nn,nn,nn,nn,nn,nn,nn,nn,nn,nn,nn,nn,nn,nn,nn] rfl rfl (any_of HT_.out (by kernel_rfl)) (fun _ _ _ h => h) (Or.inl ⟨by rfl,?_⟩) ?_ ?_
 rotate_left
 ·intro w'
  go_simp;with_reducible rfl
 rotate_left
 ·simp only [NR]
  rfl
 refine take_ (i:=0) (N:=some 20) (v:=?_) (a':=?_) #[yy,yy,yy,nn,nn,nn,nn,nn,nn,nn,nn,nn,nn,nn,nn,nn,nn,nn] rfl rfl (take_ofW HT_.out HW_.out (by kernel_rfl)) (fun _ _ _ h => h) (Or.inl ⟨by rfl,?_⟩) hHeld ?_ ?_
 rotate_left
 ·rintro w' ⟨s0,s1,s2,s3,s4,s5,s6,s7,s8,s9⟩
  go_simp;with_reducible rfl
 rotate_left
 ·simp only [NR]
  rfl
 refine take_ (i:=3) (N:=some 23) (v:=?_) (a':=?_) #[yy,yy,yy,yy,nn,nn,nn,nn,nn,nn,nn,nn,nn,nn,nn,nn,nn,nn] rfl rfl (take_ofW HT_.out HW_.out (by kernel_rfl)) (fun _ _ _ h => h) (Or.inl ⟨by rfl,?_⟩) hHeld ?_ ?_
 rotate_left
 ·rintro w' ⟨s0,s1,s2,s3,s4,s5,s6,s7,s8,s9⟩
  go_simp;with_reducible rfl
 rotate_left
 ·simp only [NR]
  rfl
 refine take_ (i:=4) (N:=some 24) (v:=?_) (a':=?_) #[yy,yy,yy,yy,yy,nn,nn,nn,nn,nn,nn,nn,nn,nn,nn,nn,nn,nn] rfl rfl (take_ofW HT_.out HW_.out (by kernel_rfl)) (fun _ _ _ h => h) (Or.inl ⟨by rfl,?_⟩) hHeld ?_ ?_
 rotate_left
 ·rintro w' ⟨s0,s1,s2,s3,s4,s5,s6,s7,s8,s9⟩
  go_simp;with_reducible rfl
 rotate_left
 ·simp only [NR]
  rfl
 refine take_ (i:=7) (N:=some 27) (v:=?_) (a':=?_) #[yy,yy,yy,yy,yy,nn,nn,yy,nn,nn,nn,nn,nn,nn,nn,nn,nn,nn] rfl rfl (take_ofW HT_.out HW_.out (by kernel_rfl)) (fun _ _ _ h => h) (Or.inl ⟨by rfl,?_⟩) hHeld ?_ ?_
 rotate_left
 ·rintro w' ⟨s0,s1,s2,s3,s4,s5,s6,s7,s8,s9⟩
  go_simp;with_reducible rfl
 rotate_left
 ·simp only [NR]
  rfl
 refine join_ (σ:=Nat) 2 #[yy,yy,yy,yy,yy,yy,yy,yy,yy,yy,yy,yy,yy,yy,yy,yy,nn,nn] (fun s_ => [(25,.int .i64 t196),(28,.int .i64 t197),(31,.tuple #[.agg #[.int .u64 t198,.int .u64 t199],.bool t200]),(7,.pointer (some ⟨s_,0,none⟩)),(26,.int .i64 (wrap64 (a0_3 * t196))),(29,.int .i64 (wrap64 ((wrap64 (a0_3 * t196)) + t197))),(30,.int .u64 (IntKind.u64.wrap (wrap64 ((wrap64 (a0_3 * t196)) + t197)))),(19,.tuple #[.agg #[.int .u64 t198,.int .u64 t199],.bool t200]),(32,.agg #[.int .u64 t198,.int .u64 t199]),(33,.bool t200)]) (fun s_ w' => (w'.cell? ⟨gb191,0,none⟩ = some (.int .u64 t188) ∧ w'.cell? ⟨gb191,1,none⟩ = some (.int .u64 t189) ∧ w'.cell? ⟨gb185,0,none⟩ = some (.int .i64 a0_0) ∧ w'.cell? ⟨gb185,1,none⟩ = some (.int .i64 a0_1) ∧ w'.cell? ⟨gb185,2,none⟩ = some (.int .i64 a0_2) ∧ w'.cell? ⟨gb185,3,none⟩ = some (.int .i64 a0_3) ∧ w'.cell? ⟨gb185,4,none⟩ = some (.int .i64 a0_4) ∧ w'.cell? ⟨gb185,5,none⟩ = some (.int .i64 a0_5) ∧ w'.cell? ⟨gb185,6,none⟩ = some (.int .i64 a0_6) ∧ w'.cell? ⟨gb185,7,none⟩ = some (.int .i64 a0_7)) ∧ (w'.heap[gb185]? = some (.cells #[.int .i64 a0_0,.int .i64 a0_1,.int .i64 a0_2,.int .i64 a0_3,.int .i64 a0_4,.int .i64 a0_5,.int .i64 a0_6,.int .i64 a0_7] 69 (0,0))) ∧ (w'.heap[gb190]? = some (.cells #[.int .u64 t186,.int .u64 t187] 76 (0,0))) ∧ (w'.heap[gb191]? = some (.cells #[.int .u64 t188,.int .u64 t189] 76 (0,0))) ∧ (w'.heap[gb195]? = some (.cells #[.int .u64 t192,.int .u64 t193] 76 (0,0))) ∧ (w'.heap[s_]? = some (.cells #[.int .u64 0,.int .u64 0] 76 (0,0))) ∧ (w.heap.size ≤ s_) ∧ (w.heap.size ≤ s_) ∧ (gb185 ≠ s_) ∧ (s_ ≠ gb185) ∧ (gb190 ≠ s_) ∧ (s_ ≠ gb190) ∧ (gb191 ≠ s_) ∧ (s_ ≠ gb191) ∧ (gb195 ≠ s_) ∧ (s_ ≠ gb195) ∧ (Below w.heap.size w w')) ?_ ?_
 rotate_left
 ·intro hCont
  refine two_ (i:=5) (j:=15) (Ni:=some 25) (Nj:=some 7) #[yy,yy,yy,yy,yy,yy,nn,yy,nn,nn,nn,nn,nn,nn,nn,nn,nn,nn] #[yy,yy,yy,yy,yy,nn,nn,yy,nn,nn,nn,nn,nn,nn,nn,yy,nn,nn] rfl rfl rfl rfl (two_of HT_.out (by kernel_rfl)) (by decide) (by decide) (fun K hK => ?_) (fun K hK => ?_)
  ·skip
   refine goes_ Tryd.func67 (by kernel_rfl) rfl #[.agg #[.int .i64 a0_0,.int .i64 a0_1,.int .i64 a0_2,.int .i64 a0_3,.int .i64 a0_4,.int .i64 a0_5,.int .i64 a0_6,.int .i64 a0_7]] (by rfl) rfl rfl aA ?_
   with_reducible refine (config_asked_bound.calls a0_0 a0_1 a0_2 a0_3 a0_4 a0_5 a0_6 a0_7 t196 _ A4.out).mono ?_
   rintro e w27 ⟨rfl,hb⟩
   refine ⟨_,rfl,?_⟩;have n0_:=Am (blk_below (g:=gb185) kA hb);have n1_:=Am (blk_below (g:=gb190) kA hb);have n2_:=Am (blk_below (g:=gb191) kA hb);have n3_:=Am (blk_below (g:=gb195) kA hb);have n4_:=Am (below_step bA hb);clear BK185 BK190 BK191 BK195 HB;have BK185:=n0_;have BK190:=n1_;have BK191:=n2_;have BK195:=n3_;have HB:=n4_;clear n0_ n1_ n2_ n3_ n4_;(try clear hb)
   refine hK.out _ _ ⟨(blk_cell BK191.out 0).trans rfl,(blk_cell BK191.out 1).trans rfl,(blk_cell BK185.out 0).trans rfl,(blk_cell BK185.out 1).trans rfl,(blk_cell BK185.out 2).trans rfl,(blk_cell BK185.out 3).trans rfl,(blk_cell BK185.out 4).trans rfl,(blk_cell BK185.out 5).trans rfl,(blk_cell BK185.out 6).trans rfl,(blk_cell BK185.out 7).trans rfl⟩ (fun hHeld => ?_)
   clear hK K
   refine norm_ (a':=?_) ?_ ?_
   rotate_left
   ·show Act.put _ (some 25) _ = _
    simp only [NR]
    rfl
   refine pure_ (i:=6) (N:=some 26) (v:=?_) (a':=?_) #[yy,yy,yy,yy,yy,yy,yy,yy,nn,nn,nn,nn,nn,nn,nn,nn,nn,nn] rfl rfl (any_of HT_.out (by kernel_rfl)) (fun _ _ _ h => h) (Or.inl ⟨by rfl,?_⟩) ?_ ?_
   rotate_left
   ·intro w'
    go_simp;with_reducible rfl
   rotate_left
   ·simp only [NR]
    rfl
   refine two_ (i:=8) (j:=15) (Ni:=some 28) (Nj:=some 7) #[yy,yy,yy,yy,yy,yy,yy,yy,yy,nn,nn,nn,nn,nn,nn,nn,nn,nn] #[yy,yy,yy,yy,yy,yy,yy,yy,nn,nn,nn,nn,nn,nn,nn,yy,nn,nn] rfl rfl rfl rfl (two_of HT_.out (by kernel_rfl)) (by decide) (by decide) (fun K hK => ?_) (fun K hK => ?_)
   ·skip
    refine goes_ Tryd.func64 (by kernel_rfl) rfl #[.agg #[.int .i64 a0_0,.int .i64 a0_1,.int .i64 a0_2,.int .i64 a0_3,.int .i64 a0_4,.int .i64 a0_5,.int .i64 a0_6,.int .i64 a0_7]] (by rfl) rfl rfl aA ?_
    with_reducible refine (config_asked_fairSize.calls a0_0 a0_1 a0_2 a0_3 a0_4 a0_5 a0_6 a0_7 t197 _ A5.out).mono ?_
    rintro e w28 ⟨rfl,hb⟩
    refine ⟨_,rfl,?_⟩;have n0_:=Am (blk_below (g:=gb185) kA hb);have n1_:=Am (blk_below (g:=gb190) kA hb);have n2_:=Am (blk_below (g:=gb191) kA hb);have n3_:=Am (blk_below (g:=gb195) kA hb);have n4_:=Am (below_step bA hb);clear BK185 BK190 BK191 BK195 HB;have BK185:=n0_;have BK190:=n1_;have BK191:=n2_;have BK195:=n3_;have HB:=n4_;clear n0_ n1_ n2_ n3_ n4_;(try clear hb)
    refine hK.out _ _ ⟨(blk_cell BK191.out 0).trans rfl,(blk_cell BK191.out 1).trans rfl,(blk_cell BK185.out 0).trans rfl,(blk_cell BK185.out 1).trans rfl,(blk_cell BK185.out 2).trans rfl,(blk_cell BK185.out 3).trans rfl,(blk_cell BK185.out 4).trans rfl,(blk_cell BK185.out 5).trans rfl,(blk_cell BK185.out 6).trans rfl,(blk_cell BK185.out 7).trans rfl⟩ (fun hHeld => ?_)
    clear hK K
    refine norm_ (a':=?_) ?_ ?_
    rotate_left
    ·show Act.put _ (some 28) _ = _
     simp only [NR]
     rfl
    refine pure_ (i:=9) (N:=some 29) (v:=?_) (a':=?_) #[yy,yy,yy,yy,yy,yy,yy,yy,yy,yy,nn,nn,nn,nn,nn,nn,nn,nn] rfl rfl (any_of HT_.out (by kernel_rfl)) (fun _ _ _ h => h) (Or.inl ⟨by rfl,?_⟩) ?_ ?_
    rotate_left
    ·intro w'
     go_simp;with_reducible rfl
    rotate_left
    ·simp only [NR]
     rfl
    refine pure_ (i:=10) (N:=some 30) (v:=?_) (a':=?_) #[yy,yy,yy,yy,yy,yy,yy,yy,yy,yy,yy,nn,nn,nn,nn,nn,nn,nn] rfl rfl (any_of HT_.out (by kernel_rfl)) (fun _ _ _ h => h) (Or.inl ⟨by rfl,?_⟩) ?_ ?_
    rotate_left
    ·intro w'
     go_simp;with_reducible rfl
    rotate_left
    ·simp only [NR]
     rfl
    refine two_ (i:=11) (j:=15) (Ni:=some 31) (Nj:=some 7) #[yy,yy,yy,yy,yy,yy,yy,yy,yy,yy,yy,yy,nn,nn,nn,nn,nn,nn] #[yy,yy,yy,yy,yy,yy,yy,yy,yy,yy,yy,nn,nn,nn,nn,yy,nn,nn] rfl rfl rfl rfl (two_of HT_.out (by kernel_rfl)) (by decide) (by decide) (fun K hK => ?_) (fun K hK => ?_)
    ·skip
     refine goes_ Tryd.func66 (by kernel_rfl) rfl #[.agg #[.int .u64 t188,.int .u64 t189],.int .u64 (IntKind.u64.wrap (wrap64 ((wrap64 (a0_3 * t196)) + t197)))] (by rfl) rfl rfl aA ?_
     with_reducible refine (wide_Times.calls t188 t189 (IntKind.u64.wrap (wrap64 ((wrap64 (a0_3 * t196)) + t197))) t198 t199 t200 _ A6.out).mono ?_
     rintro e w29 ⟨rfl,hb⟩
     refine ⟨_,rfl,?_⟩;have n0_:=Am (blk_below (g:=gb185) kA hb);have n1_:=Am (blk_below (g:=gb190) kA hb);have n2_:=Am (blk_below (g:=gb191) kA hb);have n3_:=Am (blk_below (g:=gb195) kA hb);have n4_:=Am (below_step bA hb);clear BK185 BK190 BK191 BK195 HB;have BK185:=n0_;have BK190:=n1_;have BK191:=n2_;have BK195:=n3_;have HB:=n4_;clear n0_ n1_ n2_ n3_ n4_;(try clear hb)
     refine hK.out _ _ ⟨(blk_cell BK191.out 0).trans rfl,(blk_cell BK191.out 1).trans rfl,(blk_cell BK185.out 0).trans rfl,(blk_cell BK185.out 1).trans rfl,(blk_cell BK185.out 2).trans rfl,(blk_cell BK185.out 3).trans rfl,(blk_cell BK185.out 4).trans rfl,(blk_cell BK185.out 5).trans rfl,(blk_cell BK185.out 6).trans rfl,(blk_cell BK185.out 7).trans rfl⟩ (fun hHeld => ?_)
     clear hK K
     refine norm_ (a':=?_) ?_ ?_
     rotate_left
     ·show Act.put _ (some 31) _ = _
      simp only [NR]
      rfl
     refine pure_ (i:=12) (N:=some 19) (v:=?_) (a':=?_) #[yy,yy,yy,yy,yy,yy,yy,yy,yy,yy,yy,yy,yy,nn,nn,nn,nn,nn] rfl rfl (any_of HT_.out (by kernel_rfl)) (fun _ _ _ h => h) (Or.inl ⟨by rfl,?_⟩) ?_ ?_
     rotate_left
     ·intro w'
      go_simp;with_reducible rfl
     rotate_left
     ·simp only [NR]
      rfl
     refine pure_ (i:=13) (N:=some 32) (v:=?_) (a':=?_) #[yy,yy,yy,yy,yy,yy,yy,yy,yy,yy,yy,yy,yy,yy,nn,nn,nn,nn] rfl rfl (any_of HT_.out (by kernel_rfl)) (fun _ _ _ h => h) (Or.inl ⟨by rfl,?_⟩) ?_ ?_
     rotate_left
     ·intro w'
      go_simp;with_reducible rfl
     rotate_left
     ·simp only [NR]
      rfl
     refine pure_ (i:=14) (N:=some 33) (v:=?_) (a':=?_) #[yy,yy,yy,yy,yy,yy,yy,yy,yy,yy,yy,yy,yy,yy,yy,nn,nn,nn] rfl rfl (any_of HT_.out (by kernel_rfl)) (fun _ _ _ h => h) (Or.inl ⟨by rfl,?_⟩) ?_ ?_
     rotate_left
     ·intro w'
      go_simp;with_reducible rfl
     rotate_left
     ·simp only [NR]
      rfl
     refine one_ (i:=15) (N:=some 7) #[yy,yy,yy,yy,yy,yy,yy,yy,yy,yy,yy,yy,yy,yy,yy,yy,nn,nn] rfl rfl (one_of HT_.out (by kernel_rfl)) (by decide) (fun K hK => ?_)
     refine box_step ?hg (N:=7) ?hd (cs:=#[.int .u64 0,.int .u64 0]) (t:=76) ?hr ?_;(case hd => rfl);(case hg => rfl);(case hr => first | (go_simp;done) | (go_simp;rfl))
     intro gb201 hg w30 hbox hb
     have n0_:=Am (blk_below (g:=gb185) kA hb);have n1_:=Am (blk_below (g:=gb190) kA hb);have n2_:=Am (blk_below (g:=gb191) kA hb);have n3_:=Am (blk_below (g:=gb195) kA hb);have n4_:=Am (below_step bA hb);have n5_:=Am (hbox);have n6_:=Am (gwA hg bA);have n7_:=Am (gwA hg bA);have n8_:=Am (neA (g:=gb185) hg kA);have n9_:=Am (neB (g:=gb185) hg kA);have n10_:=Am (neA (g:=gb190) hg kA);have n11_:=Am (neB (g:=gb190) hg kA);have n12_:=Am (neA (g:=gb191) hg kA);have n13_:=Am (neB (g:=gb191) hg kA);have n14_:=Am (neA (g:=gb195) hg kA);have n15_:=Am (neB (g:=gb195) hg kA);clear BK185 BK190 BK191 BK195 HB;have BK185:=n0_;have BK190:=n1_;have BK191:=n2_;have BK195:=n3_;have HB:=n4_;have BK201:=n5_;have GW201:=n6_;have GE201:=n7_;have NB185_201:=n8_;have NB201_185:=n9_;have NB190_201:=n10_;have NB201_190:=n11_;have NB191_201:=n12_;have NB201_191:=n13_;have NB195_201:=n14_;have NB201_195:=n15_;clear n0_ n1_ n2_ n3_ n4_ n5_ n6_ n7_ n8_ n9_ n10_ n11_ n12_ n13_ n14_ n15_ hb hbox hg
     refine hK.out _ _ ⟨(blk_cell BK191.out 0).trans rfl,(blk_cell BK191.out 1).trans rfl,(blk_cell BK185.out 0).trans rfl,(blk_cell BK185.out 1).trans rfl,(blk_cell BK185.out 2).trans rfl,(blk_cell BK185.out 3).trans rfl,(blk_cell BK185.out 4).trans rfl,(blk_cell BK185.out 5).trans rfl,(blk_cell BK185.out 6).trans rfl,(blk_cell BK185.out 7).trans rfl⟩ (fun hHeld => ?_)
     clear hK K
     refine norm_ (a':=?_) ?_ ?_
     rotate_left
     ·show Act.put _ (some 7) _ = _
      simp only [NR]
      rfl
     exact norm_ (by simp only [putAll,Act.put,List.setIfInBounds_toArray,List.set_cons_zero,List.set_cons_succ]) (hCont (gb201) _ ⟨hHeld,kA,kA,kA,kA,kA,GW201.out,GE201.out,NB185_201.out,NB201_185.out,NB190_201.out,NB201_190.out,NB191_201.out,NB201_191.out,NB195_201.out,NB201_195.out,bA⟩)
    ·skip
     refine box_step ?hg (N:=7) ?hd (cs:=#[.int .u64 0,.int .u64 0]) (t:=76) ?hr ?_;(case hd => rfl);(case hg => rfl);(case hr => first | (go_simp;done) | (go_simp;rfl))
     intro gb201 hg w29 hbox hb
     have n0_:=Am (blk_below (g:=gb185) kA hb);have n1_:=Am (blk_below (g:=gb190) kA hb);have n2_:=Am (blk_below (g:=gb191) kA hb);have n3_:=Am (blk_below (g:=gb195) kA hb);have n4_:=Am (below_step bA hb);have n5_:=Am (hbox);have n6_:=Am (gwA hg bA);have n7_:=Am (gwA hg bA);have n8_:=Am (neA (g:=gb185) hg kA);have n9_:=Am (neB (g:=gb185) hg kA);have n10_:=Am (neA (g:=gb190) hg kA);have n11_:=Am (neB (g:=gb190) hg kA);have n12_:=Am (neA (g:=gb191) hg kA);have n13_:=Am (neB (g:=gb191) hg kA);have n14_:=Am (neA (g:=gb195) hg kA);have n15_:=Am (neB (g:=gb195) hg kA);clear BK185 BK190 BK191 BK195 HB;have BK185:=n0_;have BK190:=n1_;have BK191:=n2_;have BK195:=n3_;have HB:=n4_;have BK201:=n5_;have GW201:=n6_;have GE201:=n7_;have NB185_201:=n8_;have NB201_185:=n9_;have NB190_201:=n10_;have NB201_190:=n11_;have NB191_201:=n12_;have NB201_191:=n13_;have NB195_201:=n14_;have NB201_195:=n15_;clear n0_ n1_ n2_ n3_ n4_ n5_ n6_ n7_ n8_ n9_ n10_ n11_ n12_ n13_ n14_ n15_ hb hbox hg
     refine hK.out _ _ ⟨(blk_cell BK191.out 0).trans rfl,(blk_cell BK191.out 1).trans rfl,(blk_cell BK185.out 0).trans rfl,(blk_cell BK185.out 1).trans rfl,(blk_cell BK185.out 2).trans rfl,(blk_cell BK185.out 3).trans rfl,(blk_cell BK185.out 4).trans rfl,(blk_cell BK185.out 5).trans rfl,(blk_cell BK185.out 6).trans rfl,(blk_cell BK185.out 7).trans rfl⟩ (fun hHeld => ?_)
     clear hK K
     refine norm_ (a':=?_) ?_ ?_
     rotate_left
     ·show Act.put _ (some 7) _ = _
      simp only [NR]
      rfl
     refine one_ (i:=11) (N:=some 31) #[yy,yy,yy,yy,yy,yy,yy,yy,yy,yy,yy,yy,nn,nn,nn,yy,nn,nn] rfl rfl (one_of HT_.out (by kernel_rfl)) (by decide) (fun K hK => ?_)
     refine goes_ Tryd.func66 (by kernel_rfl) rfl #[.agg #[.int .u64 t188,.int .u64 t189],.int .u64 (IntKind.u64.wrap (wrap64 ((wrap64 (a0_3 * t196)) + t197)))] (by rfl) rfl rfl aA ?_
     with_reducible refine (wide_Times.calls t188 t189 (IntKind.u64.wrap (wrap64 ((wrap64 (a0_3 * t196)) + t197))) t198 t199 t200 _ A6.out).mono ?_
     rintro e w30 ⟨rfl,hb⟩
     refine ⟨_,rfl,?_⟩;have n0_:=Am (blk_below (g:=gb185) kA hb);have n1_:=Am (blk_below (g:=gb190) kA hb);have n2_:=Am (blk_below (g:=gb191) kA hb);have n3_:=Am (blk_below (g:=gb195) kA hb);have n4_:=Am (blk_below (g:=gb201) kA hb);have n5_:=Am (below_step bA hb);clear BK185 BK190 BK191 BK195 BK201 HB;have BK185:=n0_;have BK190:=n1_;have BK191:=n2_;have BK195:=n3_;have BK201:=n4_;have HB:=n5_;clear n0_ n1_ n2_ n3_ n4_ n5_;(try clear hb)
     refine hK.out _ _ ⟨(blk_cell BK191.out 0).trans rfl,(blk_cell BK191.out 1).trans rfl,(blk_cell BK185.out 0).trans rfl,(blk_cell BK185.out 1).trans rfl,(blk_cell BK185.out 2).trans rfl,(blk_cell BK185.out 3).trans rfl,(blk_cell BK185.out 4).trans rfl,(blk_cell BK185.out 5).trans rfl,(blk_cell BK185.out 6).trans rfl,(blk_cell BK185.out 7).trans rfl⟩ (fun hHeld => ?_)
     clear hK K
     refine norm_ (a':=?_) ?_ ?_
     rotate_left
     ·show Act.put _ (some 31) _ = _
      simp only [NR]
      rfl
     refine pure_ (i:=12) (N:=some 19) (v:=?_) (a':=?_) #[yy,yy,yy,yy,yy,yy,yy,yy,yy,yy,yy,yy,yy,nn,nn,yy,nn,nn] rfl rfl (any_of HT_.out (by kernel_rfl)) (fun _ _ _ h => h) (Or.inl ⟨by rfl,?_⟩) ?_ ?_
     rotate_left
     ·intro w'
      go_simp;with_reducible rfl
     rotate_left
     ·simp only [NR]
      rfl
     refine pure_ (i:=13) (N:=some 32) (v:=?_) (a':=?_) #[yy,yy,yy,yy,yy,yy,yy,yy,yy,yy,yy,yy,yy,yy,nn,yy,nn,nn] rfl rfl (any_of HT_.out (by kernel_rfl)) (fun _ _ _ h => h) (Or.inl ⟨by rfl,?_⟩) ?_ ?_
     rotate_left
     ·intro w'
      go_simp;with_reducible rfl
     rotate_left
     ·simp only [NR]
      rfl
     refine pure_ (i:=14) (N:=some 33) (v:=?_) (a':=?_) #[yy,yy,yy,yy,yy,yy,yy,yy,yy,yy,yy,yy,yy,yy,yy,yy,nn,nn] rfl rfl (any_of HT_.out (by kernel_rfl)) (fun _ _ _ h => h) (Or.inl ⟨by rfl,?_⟩) ?_ ?_
     rotate_left
     ·intro w'
      go_simp;with_reducible rfl
     rotate_left
     ·simp only [NR]
      rfl
     exact norm_ (by simp only [putAll,Act.put,List.setIfInBounds_toArray,List.set_cons_zero,List.set_cons_succ]) (hCont (gb201) _ ⟨hHeld,kA,kA,kA,kA,kA,GW201.out,GE201.out,NB185_201.out,NB201_185.out,NB190_201.out,NB201_190.out,NB191_201.out,NB201_191.out,NB195_201.out,NB201_195.out,bA⟩)
   ·skip
    refine box_step ?hg (N:=7) ?hd (cs:=#[.int .u64 0,.int .u64 0]) (t:=76) ?hr ?_;(case hd => rfl);(case hg => rfl);(case hr => first | (go_simp;done) | (go_simp;rfl))
    intro gb201 hg w28 hbox hb
    have n0_:=Am (blk_below (g:=gb185) kA hb);have n1_:=Am (blk_below (g:=gb190) kA hb);have n2_:=Am (blk_below (g:=gb191) kA hb);have n3_:=Am (blk_below (g:=gb195) kA hb);have n4_:=Am (below_step bA hb);have n5_:=Am (hbox);have n6_:=Am (gwA hg bA);have n7_:=Am (gwA hg bA);have n8_:=Am (neA (g:=gb185) hg kA);have n9_:=Am (neB (g:=gb185) hg kA);have n10_:=Am (neA (g:=gb190) hg kA);have n11_:=Am (neB (g:=gb190) hg kA);have n12_:=Am (neA (g:=gb191) hg kA);have n13_:=Am (neB (g:=gb191) hg kA);have n14_:=Am (neA (g:=gb195) hg kA);have n15_:=Am (neB (g:=gb195) hg kA);clear BK185 BK190 BK191 BK195 HB;have BK185:=n0_;have BK190:=n1_;have BK191:=n2_;have BK195:=n3_;have HB:=n4_;have BK201:=n5_;have GW201:=n6_;have GE201:=n7_;have NB185_201:=n8_;have NB201_185:=n9_;have NB190_201:=n10_;have NB201_190:=n11_;have NB191_201:=n12_;have NB201_191:=n13_;have NB195_201:=n14_;have NB201_195:=n15_;clear n0_ n1_ n2_ n3_ n4_ n5_ n6_ n7_ n8_ n9_ n10_ n11_ n12_ n13_ n14_ n15_ hb hbox hg
    refine hK.out _ _ ⟨(blk_cell BK191.out 0).trans rfl,(blk_cell BK191.out 1).trans rfl,(blk_cell BK185.out 0).trans rfl,(blk_cell BK185.out 1).trans rfl,(blk_cell BK185.out 2).trans rfl,(blk_cell BK185.out 3).trans rfl,(blk_cell BK185.out 4).trans rfl,(blk_cell BK185.out 5).trans rfl,(blk_cell BK185.out 6).trans rfl,(blk_cell BK185.out 7).trans rfl⟩ (fun hHeld => ?_)
    clear hK K
    refine norm_ (a':=?_) ?_ ?_
    rotate_left
    ·show Act.put _ (some 7) _ = _
     simp only [NR]
     rfl
    refine one_ (i:=8) (N:=some 28) #[yy,yy,yy,yy,yy,yy,yy,yy,yy,nn,nn,nn,nn,nn,nn,yy,nn,nn] rfl rfl (one_of HT_.out (by kernel_rfl)) (by decide) (fun K hK => ?_)
    refine goes_ Tryd.func64 (by kernel_rfl) rfl #[.agg #[.int .i64 a0_0,.int .i64 a0_1,.int .i64 a0_2,.int .i64 a0_3,.int .i64 a0_4,.int .i64 a0_5,.int .i64 a0_6,.int .i64 a0_7]] (by rfl) rfl rfl aA ?_
    with_reducible refine (config_asked_fairSize.calls a0_0 a0_1 a0_2 a0_3 a0_4 a0_5 a0_6 a0_7 t197 _ A5.out).mono ?_
    rintro e w29 ⟨rfl,hb⟩
    refine ⟨_,rfl,?_⟩;have n0_:=Am (blk_below (g:=gb185) kA hb);have n1_:=Am (blk_below (g:=gb190) kA hb);have n2_:=Am (blk_below (g:=gb191) kA hb);have n3_:=Am (blk_below (g:=gb195) kA hb);have n4_:=Am (blk_below (g:=gb201) kA hb);have n5_:=Am (below_step bA hb);clear BK185 BK190 BK191 BK195 BK201 HB;have BK185:=n0_;have BK190:=n1_;have BK191:=n2_;have BK195:=n3_;have BK201:=n4_;have HB:=n5_;clear n0_ n1_ n2_ n3_ n4_ n5_;(try clear hb)
    refine hK.out _ _ ⟨(blk_cell BK191.out 0).trans rfl,(blk_cell BK191.out 1).trans rfl,(blk_cell BK185.out 0).trans rfl,(blk_cell BK185.out 1).trans rfl,(blk_cell BK185.out 2).trans rfl,(blk_cell BK185.out 3).trans rfl,(blk_cell BK185.out 4).trans rfl,(blk_cell BK185.out 5).trans rfl,(blk_cell BK185.out 6).trans rfl,(blk_cell BK185.out 7).trans rfl⟩ (fun hHeld => ?_)
    clear hK K
    refine norm_ (a':=?_) ?_ ?_
    rotate_left
    ·show Act.put _ (some 28) _ = _
     simp only [NR]
     rfl
    refine pure_ (i:=9) (N:=some 29) (v:=?_) (a':=?_) #[yy,yy,yy,yy,yy,yy,yy,yy,yy,yy,nn,nn,nn,nn,nn,yy,nn,nn] rfl rfl (any_of HT_.out (by kernel_rfl)) (fun _ _ _ h => h) (Or.inl ⟨by rfl,?_⟩) ?_ ?_
    rotate_left
    ·intro w'
     go_simp;with_reducible rfl
    rotate_left
    ·simp only [NR]
     rfl
    refine pure_ (i:=10) (N:=some 30) (v:=?_) (a':=?_) #[yy,yy,yy,yy,yy,yy,yy,yy,yy,yy,yy,nn,nn,nn,nn,yy,nn,nn] rfl rfl (any_of HT_.out (by kernel_rfl)) (fun _ _ _ h => h) (Or.inl ⟨by rfl,?_⟩) ?_ ?_
    rotate_left
    ·intro w'
     go_simp;with_reducible rfl
    rotate_left
    ·simp only [NR]
     rfl
    refine one_ (i:=11) (N:=some 31) #[yy,yy,yy,yy,yy,yy,yy,yy,yy,yy,yy,yy,nn,nn,nn,yy,nn,nn] rfl rfl (one_of HT_.out (by kernel_rfl)) (by decide) (fun K hK => ?_)
    refine goes_ Tryd.func66 (by kernel_rfl) rfl #[.agg #[.int .u64 t188,.int .u64 t189],.int .u64 (IntKind.u64.wrap (wrap64 ((wrap64 (a0_3 * t196)) + t197)))] (by rfl) rfl rfl aA ?_
    with_reducible refine (wide_Times.calls t188 t189 (IntKind.u64.wrap (wrap64 ((wrap64 (a0_3 * t196)) + t197))) t198 t199 t200 _ A6.out).mono ?_
    rintro e w30 ⟨rfl,hb⟩
    refine ⟨_,rfl,?_⟩;have n0_:=Am (blk_below (g:=gb185) kA hb);have n1_:=Am (blk_below (g:=gb190) kA hb);have n2_:=Am (blk_below (g:=gb191) kA hb);have n3_:=Am (blk_below (g:=gb195) kA hb);have n4_:=Am (blk_below (g:=gb201) kA hb);have n5_:=Am (below_step bA hb);clear BK185 BK190 BK191 BK195 BK201 HB;have BK185:=n0_;have BK190:=n1_;have BK191:=n2_;have BK195:=n3_;have BK201:=n4_;have HB:=n5_;clear n0_ n1_ n2_ n3_ n4_ n5_;(try clear hb)
    refine hK.out _ _ ⟨(blk_cell BK191.out 0).trans rfl,(blk_cell BK191.out 1).trans rfl,(blk_cell BK185.out 0).trans rfl,(blk_cell BK185.out 1).trans rfl,(blk_cell BK185.out 2).trans rfl,(blk_cell BK185.out 3).trans rfl,(blk_cell BK185.out 4).trans rfl,(blk_cell BK185.out 5).trans rfl,(blk_cell BK185.out 6).trans rfl,(blk_cell BK185.out 7).trans rfl⟩ (fun hHeld => ?_)
    clear hK K
    refine norm_ (a':=?_) ?_ ?_
    rotate_left
    ·show Act.put _ (some 31) _ = _
     simp only [NR]
     rfl
    refine pure_ (i:=12) (N:=some 19) (v:=?_) (a':=?_) #[yy,yy,yy,yy,yy,yy,yy,yy,yy,yy,yy,yy,yy,nn,nn,yy,nn,nn] rfl rfl (any_of HT_.out (by kernel_rfl)) (fun _ _ _ h => h) (Or.inl ⟨by rfl,?_⟩) ?_ ?_
    rotate_left
    ·intro w'
     go_simp;with_reducible rfl
    rotate_left
    ·simp only [NR]
     rfl
    refine pure_ (i:=13) (N:=some 32) (v:=?_) (a':=?_) #[yy,yy,yy,yy,yy,yy,yy,yy,yy,yy,yy,yy,yy,yy,nn,yy,nn,nn] rfl rfl (any_of HT_.out (by kernel_rfl)) (fun _ _ _ h => h) (Or.inl ⟨by rfl,?_⟩) ?_ ?_
    rotate_left
    ·intro w'
     go_simp;with_reducible rfl
    rotate_left
    ·simp only [NR]
     rfl
    refine pure_ (i:=14) (N:=some 33) (v:=?_) (a':=?_) #[yy,yy,yy,yy,yy,yy,yy,yy,yy,yy,yy,yy,yy,yy,yy,yy,nn,nn] rfl rfl (any_of HT_.out (by kernel_rfl)) (fun _ _ _ h => h) (Or.inl ⟨by rfl,?_⟩) ?_ ?_
    rotate_left
    ·intro w'
     go_simp;with_reducible rfl
    rotate_left
    ·simp only [NR]
     rfl
    exact norm_ (by simp only [putAll,Act.put,List.setIfInBounds_toArray,List.set_cons_zero,List.set_cons_succ]) (hCont (gb201) _ ⟨hHeld,kA,kA,kA,kA,kA,GW201.out,GE201.out,NB185_201.out,NB201_185.out,NB190_201.out,NB201_190.out,NB191_201.out,NB201_191.out,NB195_201.out,NB201_195.out,bA⟩)
  ·skip
   refine box_step ?hg (N:=7) ?hd (cs:=#[.int .u64 0,.int .u64 0]) (t:=76) ?hr ?_;(case hd => rfl);(case hg => rfl);(case hr => first | (go_simp;done) | (go_simp;rfl))
   intro gb201 hg w27 hbox hb
   have n0_:=Am (blk_below (g:=gb185) kA hb);have n1_:=Am (blk_below (g:=gb190) kA hb);have n2_:=Am (blk_below (g:=gb191) kA hb);have n3_:=Am (blk_below (g:=gb195) kA hb);have n4_:=Am (below_step bA hb);have n5_:=Am (hbox);have n6_:=Am (gwA hg bA);have n7_:=Am (gwA hg bA);have n8_:=Am (neA (g:=gb185) hg kA);have n9_:=Am (neB (g:=gb185) hg kA);have n10_:=Am (neA (g:=gb190) hg kA);have n11_:=Am (neB (g:=gb190) hg kA);have n12_:=Am (neA (g:=gb191) hg kA);have n13_:=Am (neB (g:=gb191) hg kA);have n14_:=Am (neA (g:=gb195) hg kA);have n15_:=Am (neB (g:=gb195) hg kA);clear BK185 BK190 BK191 BK195 HB;have BK185:=n0_;have BK190:=n1_;have BK191:=n2_;have BK195:=n3_;have HB:=n4_;have BK201:=n5_;have GW201:=n6_;have GE201:=n7_;have NB185_201:=n8_;have NB201_185:=n9_;have NB190_201:=n10_;have NB201_190:=n11_;have NB191_201:=n12_;have NB201_191:=n13_;have NB195_201:=n14_;have NB201_195:=n15_;clear n0_ n1_ n2_ n3_ n4_ n5_ n6_ n7_ n8_ n9_ n10_ n11_ n12_ n13_ n14_ n15_ hb hbox hg
   refine hK.out _ _ ⟨(blk_cell BK191.out 0).trans rfl,(blk_cell BK191.out 1).trans rfl,(blk_cell BK185.out 0).trans rfl,(blk_cell BK185.out 1).trans rfl,(blk_cell BK185.out 2).trans rfl,(blk_cell BK185.out 3).trans rfl,(blk_cell BK185.out 4).trans rfl,(blk_cell BK185.out 5).trans rfl,(blk_cell BK185.out 6).trans rfl,(blk_cell BK185.out 7).trans rfl⟩ (fun hHeld => ?_)
   clear hK K
   refine norm_ (a':=?_) ?_ ?_
   rotate_left
   ·show Act.put _ (some 7) _ = _
    simp only [NR]
    rfl
   refine one_ (i:=5) (N:=some 25) #[yy,yy,yy,yy,yy,yy,nn,yy,nn,nn,nn,nn,nn,nn,nn,yy,nn,nn] rfl rfl (one_of HT_.out (by kernel_rfl)) (by decide) (fun K hK => ?_)
   refine goes_ Tryd.func67 (by kernel_rfl) rfl #[.agg #[.int .i64 a0_0,.int .i64 a0_1,.int .i64 a0_2,.int .i64 a0_3,.int .i64 a0_4,.int .i64 a0_5,.int .i64 a0_6,.int .i64 a0_7]] (by rfl) rfl rfl aA ?_
   with_reducible refine (config_asked_bound.calls a0_0 a0_1 a0_2 a0_3 a0_4 a0_5 a0_6 a0_7 t196 _ A4.out).mono ?_
   rintro e w28 ⟨rfl,hb⟩
   refine ⟨_,rfl,?_⟩;have n0_:=Am (blk_below (g:=gb185) kA hb);have n1_:=Am (blk_below (g:=gb190) kA hb);have n2_:=Am (blk_below (g:=gb191) kA hb);have n3_:=Am (blk_below (g:=gb195) kA hb);have n4_:=Am (blk_below (g:=gb201) kA hb);have n5_:=Am (below_step bA hb);clear BK185 BK190 BK191 BK195 BK201 HB;have BK185:=n0_;have BK190:=n1_;have BK191:=n2_;have BK195:=n3_;have BK201:=n4_;have HB:=n5_;clear n0_ n1_ n2_ n3_ n4_ n5_;(try clear hb)
   refine hK.out _ _ ⟨(blk_cell BK191.out 0).trans rfl,(blk_cell BK191.out 1).trans rfl,(blk_cell BK185.out 0).trans rfl,(blk_cell BK185.out 1).trans rfl,(blk_cell BK185.out 2).trans rfl,(blk_cell BK185.out 3).trans rfl,(blk_cell BK185.out 4).trans rfl,(blk_cell BK185.out 5).trans rfl,(blk_cell BK185.out 6).trans rfl,(blk_cell BK185.out 7).trans rfl⟩ (fun hHeld => ?_)
   clear hK K
   refine norm_ (a':=?_) ?_ ?_
   rotate_left
   ·show Act.put _ (some 25) _ = _
    simp only [NR]
    rfl
   refine pure_ (i:=6) (N:=some 26) (v:=?_) (a':=?_) #[yy,yy,yy,yy,yy,yy,yy,yy,nn,nn,nn,nn,nn,nn,nn,yy,nn,nn] rfl rfl (any_of HT_.out (by kernel_rfl)) (fun _ _ _ h => h) (Or.inl ⟨by rfl,?_⟩) ?_ ?_
   rotate_left
   ·intro w'
    go_simp;with_reducible rfl
   rotate_left
   ·simp only [NR]
    rfl
   refine one_ (i:=8) (N:=some 28) #[yy,yy,yy,yy,yy,yy,yy,yy,yy,nn,nn,nn,nn,nn,nn,yy,nn,nn] rfl rfl (one_of HT_.out (by kernel_rfl)) (by decide) (fun K hK => ?_)
   refine goes_ Tryd.func64 (by kernel_rfl) rfl #[.agg #[.int .i64 a0_0,.int .i64 a0_1,.int .i64 a0_2,.int .i64 a0_3,.int .i64 a0_4,.int .i64 a0_5,.int .i64 a0_6,.int .i64 a0_7]] (by rfl) rfl rfl aA ?_
   with_reducible refine (config_asked_fairSize.calls a0_0 a0_1 a0_2 a0_3 a0_4 a0_5 a0_6 a0_7 t197 _ A5.out).mono ?_
   rintro e w29 ⟨rfl,hb⟩
   refine ⟨_,rfl,?_⟩;have n0_:=Am (blk_below (g:=gb185) kA hb);have n1_:=Am (blk_below (g:=gb190) kA hb);have n2_:=Am (blk_below (g:=gb191) kA hb);have n3_:=Am (blk_below (g:=gb195) kA hb);have n4_:=Am (blk_below (g:=gb201) kA hb);have n5_:=Am (below_step bA hb);clear BK185 BK190 BK191 BK195 BK201 HB;have BK185:=n0_;have BK190:=n1_;have BK191:=n2_;have BK195:=n3_;have BK201:=n4_;have HB:=n5_;clear n0_ n1_ n2_ n3_ n4_ n5_;(try clear hb)
   refine hK.out _ _ ⟨(blk_cell BK191.out 0).trans rfl,(blk_cell BK191.out 1).trans rfl,(blk_cell BK185.out 0).trans rfl,(blk_cell BK185.out 1).trans rfl,(blk_cell BK185.out 2).trans rfl,(blk_cell BK185.out 3).trans rfl,(blk_cell BK185.out 4).trans rfl,(blk_cell BK185.out 5).trans rfl,(blk_cell BK185.out 6).trans rfl,(blk_cell BK185.out 7).trans rfl⟩ (fun hHeld => ?_)
   clear hK K
   refine norm_ (a':=?_) ?_ ?_
   rotate_left
   ·show Act.put _ (some 28) _ = _
    simp only [NR]
    rfl
   refine pure_ (i:=9) (N:=some 29) (v:=?_) (a':=?_) #[yy,yy,yy,yy,yy,yy,yy,yy,yy,yy,nn,nn,nn,nn,nn,yy,nn,nn] rfl rfl (any_of HT_.out (by kernel_rfl)) (fun _ _ _ h => h) (Or.inl ⟨by rfl,?_⟩) ?_ ?_
   rotate_left
   ·intro w'
    go_simp;with_reducible rfl
   rotate_left
   ·simp only [NR]
    rfl
   refine pure_ (i:=10) (N:=some 30) (v:=?_) (a':=?_) #[yy,yy,yy,yy,yy,yy,yy,yy,yy,yy,yy,nn,nn,nn,nn,yy,nn,nn] rfl rfl (any_of HT_.out (by kernel_rfl)) (fun _ _ _ h => h) (Or.inl ⟨by rfl,?_⟩) ?_ ?_
   rotate_left
   ·intro w'
    go_simp;with_reducible rfl
   rotate_left
   ·simp only [NR]
    rfl
   refine one_ (i:=11) (N:=some 31) #[yy,yy,yy,yy,yy,yy,yy,yy,yy,yy,yy,yy,nn,nn,nn,yy,nn,nn] rfl rfl (one_of HT_.out (by kernel_rfl)) (by decide) (fun K hK => ?_)
   refine goes_ Tryd.func66 (by kernel_rfl) rfl #[.agg #[.int .u64 t188,.int .u64 t189],.int .u64 (IntKind.u64.wrap (wrap64 ((wrap64 (a0_3 * t196)) + t197)))] (by rfl) rfl rfl aA ?_
   with_reducible refine (wide_Times.calls t188 t189 (IntKind.u64.wrap (wrap64 ((wrap64 (a0_3 * t196)) + t197))) t198 t199 t200 _ A6.out).mono ?_
   rintro e w30 ⟨rfl,hb⟩
   refine ⟨_,rfl,?_⟩;have n0_:=Am (blk_below (g:=gb185) kA hb);have n1_:=Am (blk_below (g:=gb190) kA hb);have n2_:=Am (blk_below (g:=gb191) kA hb);have n3_:=Am (blk_below (g:=gb195) kA hb);have n4_:=Am (blk_below (g:=gb201) kA hb);have n5_:=Am (below_step bA hb);clear BK185 BK190 BK191 BK195 BK201 HB;have BK185:=n0_;have BK190:=n1_;have BK191:=n2_;have BK195:=n3_;have BK201:=n4_;have HB:=n5_;clear n0_ n1_ n2_ n3_ n4_ n5_;(try clear hb)
   refine hK.out _ _ ⟨(blk_cell BK191.out 0).trans rfl,(blk_cell BK191.out 1).trans rfl,(blk_cell BK185.out 0).trans rfl,(blk_cell BK185.out 1).trans rfl,(blk_cell BK185.out 2).trans rfl,(blk_cell BK185.out 3).trans rfl,(blk_cell BK185.out 4).trans rfl,(blk_cell BK185.out 5).trans rfl,(blk_cell BK185.out 6).trans rfl,(blk_cell BK185.out 7).trans rfl⟩ (fun hHeld => ?_)
   clear hK K
   refine norm_ (a':=?_) ?_ ?_
   rotate_left
   ·show Act.put _ (some 31) _ = _
    simp only [NR]
    rfl
   refine pure_ (i:=12) (N:=some 19) (v:=?_) (a':=?_) #[yy,yy,yy,yy,yy,yy,yy,yy,yy,yy,yy,yy,yy,nn,nn,yy,nn,nn] rfl rfl (any_of HT_.out (by kernel_rfl)) (fun _ _ _ h => h) (Or.inl ⟨by rfl,?_⟩) ?_ ?_
   rotate_left
   ·intro w'
    go_simp;with_reducible rfl
   rotate_left
   ·simp only [NR]
    rfl
   refine pure_ (i:=13) (N:=some 32) (v:=?_) (a':=?_) #[yy,yy,yy,yy,yy,yy,yy,yy,yy,yy,yy,yy,yy,yy,nn,yy,nn,nn] rfl rfl (any_of HT_.out (by kernel_rfl)) (fun _ _ _ h => h) (Or.inl ⟨by rfl,?_⟩) ?_ ?_
   rotate_left
   ·intro w'
    go_simp;with_reducible rfl
   rotate_left
   ·simp only [NR]
    rfl
   refine pure_ (i:=14) (N:=some 33) (v:=?_) (a':=?_) #[yy,yy,yy,yy,yy,yy,yy,yy,yy,yy,yy,yy,yy,yy,yy,yy,nn,nn] rfl rfl (any_of HT_.out (by kernel_rfl)) (fun _ _ _ h => h) (Or.inl ⟨by rfl,?_⟩) ?_ ?_
   rotate_left
   ·intro w'
    go_simp;with_reducible rfl
   rotate_left
   ·simp only [NR]
    rfl
   exact norm_ (by simp only [putAll,Act.put,List.setIfInBounds_toArray,List.set_cons_zero,List.set_cons_succ]) (hCont (gb201) _ ⟨hHeld,kA,kA,kA,kA,kA,GW201.out,GE201.out,NB185_201.out,NB201_185.out,NB190_201.out,NB201_190.out,NB191_201.out,NB201_191.out,NB195_201.out,NB201_195.out,bA⟩)
 rintro gb201 w31 ⟨hS_,h0_,h1_,h2_,h3_,h4_,h5_,h6_,h7_,h8_,h9_,h10_,h11_,h12_,h13_,h14_,h15_⟩
 have n0_ : Aside0 (w31.heap[gb185]? = some (.cells #[.int .i64 a0_0,.int .i64 a0_1,.int .i64 a0_2,.int .i64 a0_3,.int .i64 a0_4,.int .i64 a0_5,.int .i64 a0_6,.int .i64 a0_7] 69 (0,0))):=⟨h0_⟩
 have n1_ : Aside0 (w31.heap[gb190]? = some (.cells #[.int .u64 t186,.int .u64 t187] 76 (0,0))):=⟨h1_⟩
 have n2_ : Aside0 (w31.heap[gb191]? = some (.cells #[.int .u64 t188,.int .u64 t189] 76 (0,0))):=⟨h2_⟩
 have n3_ : Aside0 (w31.heap[gb195]? = some (.cells #[.int .u64 t192,.int .u64 t193] 76 (0,0))):=⟨h3_⟩
 have n4_ : Aside0 (w31.heap[gb201]? = some (.cells #[.int .u64 0,.int .u64 0] 76 (0,0))):=⟨h4_⟩
 have n5_ : Aside0 (w.heap.size ≤ gb201):=⟨h5_⟩
 have n6_ : Aside0 (w.heap.size ≤ gb201):=⟨h6_⟩
 have n7_ : Aside0 (gb185 ≠ gb201):=⟨h7_⟩
 have n8_ : Aside0 (gb201 ≠ gb185):=⟨h8_⟩
 have n9_ : Aside0 (gb190 ≠ gb201):=⟨h9_⟩
 have n10_ : Aside0 (gb201 ≠ gb190):=⟨h10_⟩
 have n11_ : Aside0 (gb191 ≠ gb201):=⟨h11_⟩
 have n12_ : Aside0 (gb201 ≠ gb191):=⟨h12_⟩
 have n13_ : Aside0 (gb195 ≠ gb201):=⟨h13_⟩
 have n14_ : Aside0 (gb201 ≠ gb195):=⟨h14_⟩
 have n15_ : Aside0 (Below w.heap.size w w31):=⟨h15_⟩
 clear BK185 BK190 BK191 BK195 HB h0_ h1_ h2_ h3_ h4_ h5_ h6_ h7_ h8_ h9_ h10_ h11_ h12_ h13_ h14_ h15_;have BK185:=n0_;have BK190:=n1_;have BK191:=n2_;have BK195:=n3_;have BK201:=n4_;have GW201:=n5_;have GE201:=n6_;have NB185_201:=n7_;have NB201_185:=n8_;have NB190_201:=n9_;have NB201_190:=n10_;have NB191_201:=n11_;have NB201_191:=n12_;have NB195_201:=n13_;have NB201_195:=n14_;have HB:=n15_;clear n0_ n1_ n2_ n3_ n4_ n5_ n6_ n7_ n8_ n9_ n10_ n11_ n12_ n13_ n14_ n15_
 have hHeld : w31.cell? ⟨gb191,0,none⟩ = some (.int .u64 t188) ∧ w31.cell? ⟨gb191,1,none⟩ = some (.int .u64 t189) ∧ w31.cell? ⟨gb185,0,none⟩ = some (.int .i64 a0_0) ∧ w31.cell? ⟨gb185,1,none⟩ = some (.int .i64 a0_1) ∧ w31.cell? ⟨gb185,2,none⟩ = some (.int .i64 a0_2) ∧ w31.cell? ⟨gb185,3,none⟩ = some (.int .i64 a0_3) ∧ w31.cell? ⟨gb185,4,none⟩ = some (.int .i64 a0_4) ∧ w31.cell? ⟨gb185,5,none⟩ = some (.int .i64 a0_5) ∧ w31.cell? ⟨gb185,6,none⟩ = some (.int .i64 a0_6) ∧ w31.cell? ⟨gb185,7,none⟩ = some (.int .i64 a0_7):=hS_
 refine norm_ (a':=?_) ?_ ?_
 rotate_left
 ·simp only [putAll,Act.put,List.setIfInBounds_toArray,List.set_cons_zero,List.set_cons_succ]
  rfl
 refine one_ (i:=16) (N:=none) #[yy,yy,yy,yy,yy,yy,yy,yy,yy,yy,yy,yy,yy,yy,yy,yy,yy,nn] rfl rfl (one_of HT_.out (by kernel_rfl)) (by decide) (fun K hK => ?_)
 have hs32 : w31.cell? ⟨gb201,0,none⟩ = some (.int .u64 0):=(blk_cell BK201.out 0).trans rfl
 have hfs32:=blk_frozen BK201.out 0
 have hns32_0:=NB185_201.out
 have hns32_1:=NB190_201.out
 have hns32_2:=NB191_201.out
 have hns32_3:=NB195_201.out
 have hms32_0:=NB201_185.out
 have hms32_1:=NB201_190.out
 have hms32_2:=NB201_191.out
 have hms32_3:=NB201_195.out
 have hs33 : w31.cell? ⟨gb201,1,none⟩ = some (.int .u64 0):=(blk_cell BK201.out 1).trans rfl
 have hfs33:=blk_frozen BK201.out 1
 have hns33_0:=NB185_201.out
 have hns33_1:=NB190_201.out
 have hns33_2:=NB191_201.out
 have hns33_3:=NB195_201.out
 have hms33_0:=NB201_185.out
 have hms33_1:=NB201_190.out
 have hms33_2:=NB201_191.out
 have hms33_3:=NB201_195.out
 refine skip_ (w1:=?_) (by rfl) rfl ?_ ?_
 rotate_left
 ·go_simp
  rfl
 refine hK.out _ _ ⟨((cell_far (p:=⟨gb201,_,none⟩) NB191_201.out _).trans (((cell_far (p:=⟨gb201,_,none⟩) NB191_201.out _).trans (hHeld.1)))),((cell_far (p:=⟨gb201,_,none⟩) NB191_201.out _).trans (((cell_far (p:=⟨gb201,_,none⟩) NB191_201.out _).trans (hHeld.2.1)))),((cell_far (p:=⟨gb201,_,none⟩) NB185_201.out _).trans (((cell_far (p:=⟨gb201,_,none⟩) NB185_201.out _).trans (hHeld.2.2.1)))),((cell_far (p:=⟨gb201,_,none⟩) NB185_201.out _).trans (((cell_far (p:=⟨gb201,_,none⟩) NB185_201.out _).trans (hHeld.2.2.2.1)))),((cell_far (p:=⟨gb201,_,none⟩) NB185_201.out _).trans (((cell_far (p:=⟨gb201,_,none⟩) NB185_201.out _).trans (hHeld.2.2.2.2.1)))),((cell_far (p:=⟨gb201,_,none⟩) NB185_201.out _).trans (((cell_far (p:=⟨gb201,_,none⟩) NB185_201.out _).trans (hHeld.2.2.2.2.2.1)))),((cell_far (p:=⟨gb201,_,none⟩) NB185_201.out _).trans (((cell_far (p:=⟨gb201,_,none⟩) NB185_201.out _).trans (hHeld.2.2.2.2.2.2.1)))),((cell_far (p:=⟨gb201,_,none⟩) NB185_201.out _).trans (((cell_far (p:=⟨gb201,_,none⟩) NB185_201.out _).trans (hHeld.2.2.2.2.2.2.2.1)))),((cell_far (p:=⟨gb201,_,none⟩) NB185_201.out _).trans (((cell_far (p:=⟨gb201,_,none⟩) NB185_201.out _).trans (hHeld.2.2.2.2.2.2.2.2.1)))),((cell_far (p:=⟨gb201,_,none⟩) NB185_201.out _).trans (((cell_far (p:=⟨gb201,_,none⟩) NB185_201.out _).trans (hHeld.2.2.2.2.2.2.2.2.2))))⟩ (fun hHeld => ?_)
 clear hK K
 refine pure_ (i:=17) (N:=some 8) (v:=?_) (a':=?_) #[yy,yy,yy,yy,yy,yy,yy,yy,yy,yy,yy,yy,yy,yy,yy,yy,yy,yy] rfl rfl (any_of HT_.out (by kernel_rfl)) (fun _ _ _ h => h) (Or.inl ⟨by rfl,?_⟩) ?_ ?_
 rotate_left
 ·intro w'
  go_simp;with_reducible rfl
 rotate_left
 ·simp only [NR]
  rfl
 refine done_ (done_of HT_.out (by kernel_rfl)) ?_
 have hnb34:=NB195_201.out
 have hnc34:=NB201_195.out
 have hcz35_0 : w31.cell? ⟨gb195,0,none⟩ = some (.int .u64 t192):=(blk_cell BK195.out 0).trans rfl
 have hcz35_1 : w31.cell? ⟨gb195,1,none⟩ = some (.int .u64 t193):=(blk_cell BK195.out 1).trans rfl
 have hfz35_0:=blk_frozen BK195.out 0
 have hfz35_1:=blk_frozen BK195.out 1
 have hnb36:=NB201_185.out
 have hnc36:=NB185_201.out
 have hnb37:=NB201_190.out
 have hnc37:=NB190_201.out
 have hnb38:=NB201_191.out
 have hnc38:=NB191_201.out
 have hcz39_0 : w31.cell? ⟨gb201,0,none⟩ = some (.int .u64 0):=(blk_cell BK201.out 0).trans rfl
 have hcz39_1 : w31.cell? ⟨gb201,1,none⟩ = some (.int .u64 0):=(blk_cell BK201.out 1).trans rfl
 have hfz39_0:=blk_frozen BK201.out 0
 have hfz39_1:=blk_frozen BK201.out 1
 by_cases c8 : t202 > 0
 ·rw [if_pos c8] at H
  have c8b0 : decide (0 < t202) = true:=decide_eq_true c8
  clear c8
  obtain rfl:=Option.some.inj H
  try go_wp2_with (first | ((with_reducible refine gate_callee (f:=43) rfl ?_);refine goesL_ (some 36) rfl rfl Tryd.func43 (by kernel_rfl) rfl #[.agg #[.int .u64 t192,.int .u64 t193],.agg #[.int .u64 t198,.int .u64 t199]] rfl aA ?_;(with_reducible refine (wide_Cmp.calls t192 t193 t198 t199 t202 _ A7.out).mono ?_);rintro e w40 ⟨rfl,hb⟩;refine ⟨_,rfl,?_⟩;have n0_:=Am (blk_below (g:=gb185) (o:=.cells #[.int .i64 a0_0,.int .i64 a0_1,.int .i64 a0_2,.int .i64 a0_3,.int .i64 a0_4,.int .i64 a0_5,.int .i64 a0_6,.int .i64 a0_7] 69 (0,0)) (by (with_reducible repeat (first | refine b1 ?_ _ | refine b2 ?_ | refine b3 ?_ _));refine blk_far ?_ NB185_201.out _;(with_reducible repeat (first | refine b1 ?_ _ | refine b2 ?_ | refine b3 ?_ _));refine blk_far ?_ NB185_201.out _;exact kA) hb);have n1_:=Am (blk_below (g:=gb190) (o:=.cells #[.int .u64 t186,.int .u64 t187] 76 (0,0)) (by (with_reducible repeat (first | refine b1 ?_ _ | refine b2 ?_ | refine b3 ?_ _));refine blk_far ?_ NB190_201.out _;(with_reducible repeat (first | refine b1 ?_ _ | refine b2 ?_ | refine b3 ?_ _));refine blk_far ?_ NB190_201.out _;exact kA) hb);have n2_:=Am (blk_below (g:=gb191) (o:=.cells #[.int .u64 t188,.int .u64 t189] 76 (0,0)) (by (with_reducible repeat (first | refine b1 ?_ _ | refine b2 ?_ | refine b3 ?_ _));refine blk_far ?_ NB191_201.out _;(with_reducible repeat (first | refine b1 ?_ _ | refine b2 ?_ | refine b3 ?_ _));refine blk_far ?_ NB191_201.out _;exact kA) hb);have n3_:=Am (blk_below (g:=gb195) (o:=.cells #[.int .u64 t192,.int .u64 t193] 76 (0,0)) (by (with_reducible repeat (first | refine b1 ?_ _ | refine b2 ?_ | refine b3 ?_ _));refine blk_far ?_ NB195_201.out _;(with_reducible repeat (first | refine b1 ?_ _ | refine b2 ?_ | refine b3 ?_ _));refine blk_far ?_ NB195_201.out _;exact kA) hb);have n4_:=Am (blk_below (g:=gb201) (o:=.cells #[.int .u64 t198,.int .u64 t199] 76 (0,0)) (by (with_reducible repeat (first | refine b1 ?_ _ | refine b2 ?_ | refine b3 ?_ _));refine blk_put (cs:=#[.int .u64 t198,.int .u64 0]) ?_ 1 _ rfl;(with_reducible repeat (first | refine b1 ?_ _ | refine b2 ?_ | refine b3 ?_ _));refine blk_put (cs:=#[.int .u64 0,.int .u64 0]) ?_ 0 _ rfl;exact kA) hb);have n5_:=Am (below_step bA hb);clear BK185 BK190 BK191 BK195 BK201 HB;have BK185:=n0_;have BK190:=n1_;have BK191:=n2_;have BK195:=n3_;have BK201:=n4_;have HB:=n5_;clear n0_ n1_ n2_ n3_ n4_ n5_;(try clear hb)))
  go_ret
  exact ⟨by first | rfl | (simp [errW_none,errW_some] <;> rfl) | (simp [*,errW_none,errW_some] <;> rfl),bA⟩
 ·rw [if_neg c8] at H
  have c8b0 : decide (0 < t202) = false:=decide_eq_false c8
  clear c8
  obtain rfl:=Option.some.inj H
  try go_wp2_with (first | ((with_reducible refine gate_callee (f:=43) rfl ?_);refine goesL_ (some 36) rfl rfl Tryd.func43 (by kernel_rfl) rfl #[.agg #[.int .u64 t192,.int .u64 t193],.agg #[.int .u64 t198,.int .u64 t199]] rfl aA ?_;(with_reducible refine (wide_Cmp.calls t192 t193 t198 t199 t202 _ A7.out).mono ?_);rintro e w40 ⟨rfl,hb⟩;refine ⟨_,rfl,?_⟩;have n0_:=Am (blk_below (g:=gb185) (o:=.cells #[.int .i64 a0_0,.int .i64 a0_1,.int .i64 a0_2,.int .i64 a0_3,.int .i64 a0_4,.int .i64 a0_5,.int .i64 a0_6,.int .i64 a0_7] 69 (0,0)) (by (with_reducible repeat (first | refine b1 ?_ _ | refine b2 ?_ | refine b3 ?_ _));refine blk_far ?_ NB185_201.out _;(with_reducible repeat (first | refine b1 ?_ _ | refine b2 ?_ | refine b3 ?_ _));refine blk_far ?_ NB185_201.out _;exact kA) hb);have n1_:=Am (blk_below (g:=gb190) (o:=.cells #[.int .u64 t186,.int .u64 t187] 76 (0,0)) (by (with_reducible repeat (first | refine b1 ?_ _ | refine b2 ?_ | refine b3 ?_ _));refine blk_far ?_ NB190_201.out _;(with_reducible repeat (first | refine b1 ?_ _ | refine b2 ?_ | refine b3 ?_ _));refine blk_far ?_ NB190_201.out _;exact kA) hb);have n2_:=Am (blk_below (g:=gb191) (o:=.cells #[.int .u64 t188,.int .u64 t189] 76 (0,0)) (by (with_reducible repeat (first | refine b1 ?_ _ | refine b2 ?_ | refine b3 ?_ _));refine blk_far ?_ NB191_201.out _;(with_reducible repeat (first | refine b1 ?_ _ | refine b2 ?_ | refine b3 ?_ _));refine blk_far ?_ NB191_201.out _;exact kA) hb);have n3_:=Am (blk_below (g:=gb195) (o:=.cells #[.int .u64 t192,.int .u64 t193] 76 (0,0)) (by (with_reducible repeat (first | refine b1 ?_ _ | refine b2 ?_ | refine b3 ?_ _));refine blk_far ?_ NB195_201.out _;(with_reducible repeat (first | refine b1 ?_ _ | refine b2 ?_ | refine b3 ?_ _));refine blk_far ?_ NB195_201.out _;exact kA) hb);have n4_:=Am (blk_below (g:=gb201) (o:=.cells #[.int .u64 t198,.int .u64 t199] 76 (0,0)) (by (with_reducible repeat (first | refine b1 ?_ _ | refine b2 ?_ | refine b3 ?_ _));refine blk_put (cs:=#[.int .u64 t198,.int .u64 0]) ?_ 1 _ rfl;(with_reducible repeat (first | refine b1 ?_ _ | refine b2 ?_ | refine b3 ?_ _));refine blk_put (cs:=#[.int .u64 0,.int .u64 0]) ?_ 0 _ rfl;exact kA) hb);have n5_:=Am (below_step bA hb);clear BK185 BK190 BK191 BK195 BK201 HB;have BK185:=n0_;have BK190:=n1_;have BK191:=n2_;have BK195:=n3_;have BK201:=n4_;have HB:=n5_;clear n0_ n1_ n2_ n3_ n4_ n5_;(try clear hb)))
  go_ret
  exact ⟨by first | rfl | (simp [errW_none,errW_some] <;> rfl) | (simp [*,errW_none,errW_some] <;> rfl),bA⟩

end Go.Proofs.YtbhijfbjdbjpbaaDoor.GSH
namespace Go.Proofs.YtbhijfbjdbjpbaaDoor.GSH
open Go.RowKit Go.Proofs.YtbhijfbjdbjpbaaDoorW.PrintWords Go.Proofs.YtbhijfbjdbjpbaaDoorW.PrintLast Go.Proofs.YtbhijfbjdbjpbaaDoorW.PrintMore
attribute [local go_sem] max2_int min2_int max_two min_two max_three min_three max_four min_four   -- for this text's walks alone
set_option linter.unusedVariables false
set_option linter.unusedSimpArgs false
def config_Check.f (k : Nat) (a0 a1 a2 a3 a4 a5 a6 a7 : Int) : Option Int:=(config_asked_ranges.f k a0 a1 a2 a3 a4 a5 a6 a7).bind fun e1 => if e1 = 0 then ((config_asked_usage.f a0 a1 a2 a3 a4 a5 a6 a7).bind fun e2 => if e2 = 0 then ((config_asked_scale.f a0 a1 a2 a3 a4 a5 a6 a7).bind fun e3 => if e3 = 0 then (config_asked_off.f a0 a1 a2 a3 a4 a5 a6 a7) else some e3) else some e2) else some e1
set_option maxHeartbeats 8000000 in
set_option maxRecDepth 100000 in
theorem config_Check.walk0 (k : Nat) (a0 a1 a2 a3 a4 a5 a6 a7 r : Int) (w : World) (A0 : Aside0 (config_asked_ranges.f k a0 a1 a2 a3 a4 a5 a6 a7 = some r)) (c2b0 : (r != 0) = true) :
  Calls Tryd.prog 18 #[.agg #[.int .i64 a0,.int .i64 a1,.int .i64 a2,.int .i64 a3,.int .i64 a4,.int .i64 a5,.int .i64 a6,.int .i64 a7]] w fun e w' => e = .returned (.int .i64 r) ∧ Below w.heap.size w w':=by
 have hu39:=Tryd.underlying23
 have hu78:=Tryd.underlying69
 have hmf : ∀ (fn : Fn) (first cap : Array Value) (w : World),(Instr.makeFunc fn first cap).run Tryd.prog w = .ok (.func fn first cap) w:=fun _ _ _ _ => rfl
 have hix0 : ∀ (x0 x1 x2 x3 : Value) (w : World),(Instr.index 71 (.agg #[x0,x1,x2,x3]) (.int .i64 0)).run Tryd.prog w = .ok x0 w:=by intros;kernel_rfl
 have HB:=Am (Below.refl w.heap.size w)
 go_enter Tryd.func18,Tryd.ntmps18
 go_wp2_with (first | ((with_reducible refine gate_dst (N:=1) rfl ?_);refine bxA 1 #[.int .i64 a0,.int .i64 a1,.int .i64 a2,.int .i64 a3,.int .i64 a4,.int .i64 a5,.int .i64 a6,.int .i64 a7] 23 ?_;intro gb1 hg w5 hbox hb;have n0_:=Am (below_step bA hb);have n1_:=Am (hbox);have n2_:=Am (gwA hg bA);clear HB;have HB:=n0_;have BKgb1:=n1_;have GE1:=n2_;clear n0_ n1_ n2_ hb hbox hg;have hcz1_0 : w5.cell? ⟨gb1,0,none⟩ = some (.int .i64 a0):=(blk_cell BKgb1.out 0).trans rfl;have hcz1_1 : w5.cell? ⟨gb1,1,none⟩ = some (.int .i64 a1):=(blk_cell BKgb1.out 1).trans rfl;have hcz1_2 : w5.cell? ⟨gb1,2,none⟩ = some (.int .i64 a2):=(blk_cell BKgb1.out 2).trans rfl;have hcz1_3 : w5.cell? ⟨gb1,3,none⟩ = some (.int .i64 a3):=(blk_cell BKgb1.out 3).trans rfl;have hcz1_4 : w5.cell? ⟨gb1,4,none⟩ = some (.int .i64 a4):=(blk_cell BKgb1.out 4).trans rfl;have hcz1_5 : w5.cell? ⟨gb1,5,none⟩ = some (.int .i64 a5):=(blk_cell BKgb1.out 5).trans rfl;have hcz1_6 : w5.cell? ⟨gb1,6,none⟩ = some (.int .i64 a6):=(blk_cell BKgb1.out 6).trans rfl;have hcz1_7 : w5.cell? ⟨gb1,7,none⟩ = some (.int .i64 a7):=(blk_cell BKgb1.out 7).trans rfl;have hfz1_0:=blk_frozen BKgb1.out 0;have hfz1_1:=blk_frozen BKgb1.out 1;have hfz1_2:=blk_frozen BKgb1.out 2;have hfz1_3:=blk_frozen BKgb1.out 3;have hfz1_4:=blk_frozen BKgb1.out 4;have hfz1_5:=blk_frozen BKgb1.out 5;have hfz1_6:=blk_frozen BKgb1.out 6;have hfz1_7:=blk_frozen BKgb1.out 7) | ((with_reducible refine gate_dst (N:=3) rfl ?_);refine bxA 3 #[.int .i64 0,.int .i64 0,.int .i64 0,.int .i64 0,.int .i64 0,.int .i64 0,.int .i64 0,.int .i64 0] 69 ?_;intro gb2 hg w6 hbox hb;have n0_:=Am (below_step bA hb);have n1_:=Am (hbox);have n2_:=Am (gwA hg bA);clear HB;have HB:=n0_;have BKgb2:=n1_;have GE2:=n2_;clear n0_ n1_ n2_ hb hbox hg;have hcy0 : w6.cell? ⟨gb2,0,none⟩ = some (.int .i64 0):=(blk_cell BKgb2.out 0).trans rfl;have hcy1 : w6.cell? ⟨gb2,1,none⟩ = some (.int .i64 0):=(blk_cell BKgb2.out 1).trans rfl;have hcy2 : w6.cell? ⟨gb2,2,none⟩ = some (.int .i64 0):=(blk_cell BKgb2.out 2).trans rfl;have hcy3 : w6.cell? ⟨gb2,3,none⟩ = some (.int .i64 0):=(blk_cell BKgb2.out 3).trans rfl;have hcy4 : w6.cell? ⟨gb2,4,none⟩ = some (.int .i64 0):=(blk_cell BKgb2.out 4).trans rfl;have hcy5 : w6.cell? ⟨gb2,5,none⟩ = some (.int .i64 0):=(blk_cell BKgb2.out 5).trans rfl;have hcy6 : w6.cell? ⟨gb2,6,none⟩ = some (.int .i64 0):=(blk_cell BKgb2.out 6).trans rfl;have hcy7 : w6.cell? ⟨gb2,7,none⟩ = some (.int .i64 0):=(blk_cell BKgb2.out 7).trans rfl;have hfy0:=blk_frozen BKgb2.out 0;have hfy1:=blk_frozen BKgb2.out 1;have hfy2:=blk_frozen BKgb2.out 2;have hfy3:=blk_frozen BKgb2.out 3;have hfy4:=blk_frozen BKgb2.out 4;have hfy5:=blk_frozen BKgb2.out 5;have hfy6:=blk_frozen BKgb2.out 6;have hfy7:=blk_frozen BKgb2.out 7))
 have HB1:=Am (show Below w.heap.size w _ from bA (W:=((((((((w6.setCell ⟨gb2,0,none⟩ (.int .i64 a0)).setCell ⟨gb2,1,none⟩ (.int .i64 a1)).setCell ⟨gb2,2,none⟩ (.int .i64 a2)).setCell ⟨gb2,3,none⟩ (.int .i64 a3)).setCell ⟨gb2,4,none⟩ (.int .i64 a4)).setCell ⟨gb2,5,none⟩ (.int .i64 a5)).setCell ⟨gb2,6,none⟩ (.int .i64 a6)).setCell ⟨gb2,7,none⟩ (.int .i64 a7))));clear HB
 have HB:=HB1
 clear HB1
 generalize ((((((((w6.setCell ⟨gb2,0,none⟩ (.int .i64 a0)).setCell ⟨gb2,1,none⟩ (.int .i64 a1)).setCell ⟨gb2,2,none⟩ (.int .i64 a2)).setCell ⟨gb2,3,none⟩ (.int .i64 a3)).setCell ⟨gb2,4,none⟩ (.int .i64 a4)).setCell ⟨gb2,5,none⟩ (.int .i64 a5)).setCell ⟨gb2,6,none⟩ (.int .i64 a6)).setCell ⟨gb2,7,none⟩ (.int .i64 a7)) = w7 at HB ⊢
 refine wp_loop_rounds 5 ?_
 rw [rounds_succ]
 go_wp2_with fail
 refine (config_asked_ranges.calls k a0 a1 a2 a3 a4 a5 a6 a7 r _ A0.out).mono ?_
 rintro e w20 ⟨rfl,hb⟩
 have n0_:=Am (below_step bA hb);clear HB;have HB:=n0_;clear n0_ hb
 go_wp2_with fail
 go_ret
 exact ⟨by first | rfl | (simp [errW_none,errW_some] <;> rfl) | (simp [*,errW_none,errW_some] <;> rfl),bA⟩
set_option maxHeartbeats 8000000 in
set_option maxRecDepth 100000 in
theorem config_Check.walk1 (k : Nat) (a0 a1 a2 a3 a4 a5 a6 a7 r : Int) (w : World) (A0 : Aside0 (config_asked_ranges.f k a0 a1 a2 a3 a4 a5 a6 a7 = some 0)) (A1 : Aside0 (config_asked_usage.f a0 a1 a2 a3 a4 a5 a6 a7 = some r)) (c2b0 : (r != 0) = true) :
  Calls Tryd.prog 18 #[.agg #[.int .i64 a0,.int .i64 a1,.int .i64 a2,.int .i64 a3,.int .i64 a4,.int .i64 a5,.int .i64 a6,.int .i64 a7]] w fun e w' => e = .returned (.int .i64 r) ∧ Below w.heap.size w w':=by
 have hu39:=Tryd.underlying23
 have hu78:=Tryd.underlying69
 have hmf : ∀ (fn : Fn) (first cap : Array Value) (w : World),(Instr.makeFunc fn first cap).run Tryd.prog w = .ok (.func fn first cap) w:=fun _ _ _ _ => rfl
 have hix0 : ∀ (x0 x1 x2 x3 : Value) (w : World),(Instr.index 71 (.agg #[x0,x1,x2,x3]) (.int .i64 0)).run Tryd.prog w = .ok x0 w:=by intros;kernel_rfl
 have hix1 : ∀ (x0 x1 x2 x3 : Value) (w : World),(Instr.index 71 (.agg #[x0,x1,x2,x3]) (.int .i64 1)).run Tryd.prog w = .ok x1 w:=by intros;kernel_rfl
 have HB:=Am (Below.refl w.heap.size w)
 go_enter Tryd.func18,Tryd.ntmps18
 go_wp2_with (first | ((with_reducible refine gate_dst (N:=1) rfl ?_);refine bxA 1 #[.int .i64 a0,.int .i64 a1,.int .i64 a2,.int .i64 a3,.int .i64 a4,.int .i64 a5,.int .i64 a6,.int .i64 a7] 23 ?_;intro gb1 hg w5 hbox hb;have n0_:=Am (below_step bA hb);have n1_:=Am (hbox);have n2_:=Am (gwA hg bA);clear HB;have HB:=n0_;have BKgb1:=n1_;have GE1:=n2_;clear n0_ n1_ n2_ hb hbox hg;have hcz1_0 : w5.cell? ⟨gb1,0,none⟩ = some (.int .i64 a0):=(blk_cell BKgb1.out 0).trans rfl;have hcz1_1 : w5.cell? ⟨gb1,1,none⟩ = some (.int .i64 a1):=(blk_cell BKgb1.out 1).trans rfl;have hcz1_2 : w5.cell? ⟨gb1,2,none⟩ = some (.int .i64 a2):=(blk_cell BKgb1.out 2).trans rfl;have hcz1_3 : w5.cell? ⟨gb1,3,none⟩ = some (.int .i64 a3):=(blk_cell BKgb1.out 3).trans rfl;have hcz1_4 : w5.cell? ⟨gb1,4,none⟩ = some (.int .i64 a4):=(blk_cell BKgb1.out 4).trans rfl;have hcz1_5 : w5.cell? ⟨gb1,5,none⟩ = some (.int .i64 a5):=(blk_cell BKgb1.out 5).trans rfl;have hcz1_6 : w5.cell? ⟨gb1,6,none⟩ = some (.int .i64 a6):=(blk_cell BKgb1.out 6).trans rfl;have hcz1_7 : w5.cell? ⟨gb1,7,none⟩ = some (.int .i64 a7):=(blk_cell BKgb1.out 7).trans rfl;have hfz1_0:=blk_frozen BKgb1.out 0;have hfz1_1:=blk_frozen BKgb1.out 1;have hfz1_2:=blk_frozen BKgb1.out 2;have hfz1_3:=blk_frozen BKgb1.out 3;have hfz1_4:=blk_frozen BKgb1.out 4;have hfz1_5:=blk_frozen BKgb1.out 5;have hfz1_6:=blk_frozen BKgb1.out 6;have hfz1_7:=blk_frozen BKgb1.out 7) | ((with_reducible refine gate_dst (N:=3) rfl ?_);refine bxA 3 #[.int .i64 0,.int .i64 0,.int .i64 0,.int .i64 0,.int .i64 0,.int .i64 0,.int .i64 0,.int .i64 0] 69 ?_;intro gb2 hg w6 hbox hb;have n0_:=Am (below_step bA hb);have n1_:=Am (hbox);have n2_:=Am (gwA hg bA);clear HB;have HB:=n0_;have BKgb2:=n1_;have GE2:=n2_;clear n0_ n1_ n2_ hb hbox hg;have hcy0 : w6.cell? ⟨gb2,0,none⟩ = some (.int .i64 0):=(blk_cell BKgb2.out 0).trans rfl;have hcy1 : w6.cell? ⟨gb2,1,none⟩ = some (.int .i64 0):=(blk_cell BKgb2.out 1).trans rfl;have hcy2 : w6.cell? ⟨gb2,2,none⟩ = some (.int .i64 0):=(blk_cell BKgb2.out 2).trans rfl;have hcy3 : w6.cell? ⟨gb2,3,none⟩ = some (.int .i64 0):=(blk_cell BKgb2.out 3).trans rfl;have hcy4 : w6.cell? ⟨gb2,4,none⟩ = some (.int .i64 0):=(blk_cell BKgb2.out 4).trans rfl;have hcy5 : w6.cell? ⟨gb2,5,none⟩ = some (.int .i64 0):=(blk_cell BKgb2.out 5).trans rfl;have hcy6 : w6.cell? ⟨gb2,6,none⟩ = some (.int .i64 0):=(blk_cell BKgb2.out 6).trans rfl;have hcy7 : w6.cell? ⟨gb2,7,none⟩ = some (.int .i64 0):=(blk_cell BKgb2.out 7).trans rfl;have hfy0:=blk_frozen BKgb2.out 0;have hfy1:=blk_frozen BKgb2.out 1;have hfy2:=blk_frozen BKgb2.out 2;have hfy3:=blk_frozen BKgb2.out 3;have hfy4:=blk_frozen BKgb2.out 4;have hfy5:=blk_frozen BKgb2.out 5;have hfy6:=blk_frozen BKgb2.out 6;have hfy7:=blk_frozen BKgb2.out 7))
 have HB1:=Am (show Below w.heap.size w _ from bA (W:=((((((((w6.setCell ⟨gb2,0,none⟩ (.int .i64 a0)).setCell ⟨gb2,1,none⟩ (.int .i64 a1)).setCell ⟨gb2,2,none⟩ (.int .i64 a2)).setCell ⟨gb2,3,none⟩ (.int .i64 a3)).setCell ⟨gb2,4,none⟩ (.int .i64 a4)).setCell ⟨gb2,5,none⟩ (.int .i64 a5)).setCell ⟨gb2,6,none⟩ (.int .i64 a6)).setCell ⟨gb2,7,none⟩ (.int .i64 a7))));clear HB
 have HB:=HB1
 clear HB1
 generalize ((((((((w6.setCell ⟨gb2,0,none⟩ (.int .i64 a0)).setCell ⟨gb2,1,none⟩ (.int .i64 a1)).setCell ⟨gb2,2,none⟩ (.int .i64 a2)).setCell ⟨gb2,3,none⟩ (.int .i64 a3)).setCell ⟨gb2,4,none⟩ (.int .i64 a4)).setCell ⟨gb2,5,none⟩ (.int .i64 a5)).setCell ⟨gb2,6,none⟩ (.int .i64 a6)).setCell ⟨gb2,7,none⟩ (.int .i64 a7)) = w7 at HB ⊢
 refine wp_loop_rounds 5 ?_
 rw [rounds_succ]
 go_wp2_with fail
 refine (config_asked_ranges.calls k a0 a1 a2 a3 a4 a5 a6 a7 0 _ A0.out).mono ?_
 rintro e w20 ⟨rfl,hb⟩
 have n0_:=Am (below_step bA hb);clear HB;have HB:=n0_;clear n0_ hb
 go_wp2_with fail
 rw [rounds_succ]
 go_wp2_with fail
 refine (config_asked_usage.calls a0 a1 a2 a3 a4 a5 a6 a7 r _ A1.out).mono ?_
 rintro e w21 ⟨rfl,hb⟩
 have n0_:=Am (below_step bA hb);clear HB;have HB:=n0_;clear n0_ hb
 go_wp2_with fail
 go_ret
 exact ⟨by first | rfl | (simp [errW_none,errW_some] <;> rfl) | (simp [*,errW_none,errW_some] <;> rfl),bA⟩
set_option maxHeartbeats 8000000 in
set_option maxRecDepth 100000 in
theorem config_Check.walk2 (k : Nat) (a0 a1 a2 a3 a4 a5 a6 a7 r : Int) (w : World) (A0 : Aside0 (config_asked_ranges.f k a0 a1 a2 a3 a4 a5 a6 a7 = some 0)) (A1 : Aside0 (config_asked_usage.f a0 a1 a2 a3 a4 a5 a6 a7 = some 0)) (A2 : Aside0 (config_asked_scale.f a0 a1 a2 a3 a4 a5 a6 a7 = some r)) (c2b0 : (r != 0) = true) :
  Calls Tryd.prog 18 #[.agg #[.int .i64 a0,.int .i64 a1,.int .i64 a2,.int .i64 a3,.int .i64 a4,.int .i64 a5,.int .i64 a6,.int .i64 a7]] w fun e w' => e = .returned (.int .i64 r) ∧ Below w.heap.size w w':=by
 have hu39:=Tryd.underlying23
 have hu78:=Tryd.underlying69
 have hmf : ∀ (fn : Fn) (first cap : Array Value) (w : World),(Instr.makeFunc fn first cap).run Tryd.prog w = .ok (.func fn first cap) w:=fun _ _ _ _ => rfl
 have hix0 : ∀ (x0 x1 x2 x3 : Value) (w : World),(Instr.index 71 (.agg #[x0,x1,x2,x3]) (.int .i64 0)).run Tryd.prog w = .ok x0 w:=by intros;kernel_rfl
 have hix1 : ∀ (x0 x1 x2 x3 : Value) (w : World),(Instr.index 71 (.agg #[x0,x1,x2,x3]) (.int .i64 1)).run Tryd.prog w = .ok x1 w:=by intros;kernel_rfl
 have hix2 : ∀ (x0 x1 x2 x3 : Value) (w : World),(Instr.index 71 (.agg #[x0,x1,x2,x3]) (.int .i64 2)).run Tryd.prog w = .ok x2 w:=by intros;kernel_rfl
 have HB:=Am (Below.refl w.heap.size w)
 go_enter Tryd.func18,Tryd.ntmps18
 go_wp2_with (first | ((with_reducible refine gate_dst (N:=1) rfl ?_);refine bxA 1 #[.int .i64 a0,.int .i64 a1,.int .i64 a2,.int .i64 a3,.int .i64 a4,.int .i64 a5,.int .i64 a6,.int .i64 a7] 23 ?_;intro gb1 hg w5 hbox hb;have n0_:=Am (below_step bA hb);have n1_:=Am (hbox);have n2_:=Am (gwA hg bA);clear HB;have HB:=n0_;have BKgb1:=n1_;have GE1:=n2_;clear n0_ n1_ n2_ hb hbox hg;have hcz1_0 : w5.cell? ⟨gb1,0,none⟩ = some (.int .i64 a0):=(blk_cell BKgb1.out 0).trans rfl;have hcz1_1 : w5.cell? ⟨gb1,1,none⟩ = some (.int .i64 a1):=(blk_cell BKgb1.out 1).trans rfl;have hcz1_2 : w5.cell? ⟨gb1,2,none⟩ = some (.int .i64 a2):=(blk_cell BKgb1.out 2).trans rfl;have hcz1_3 : w5.cell? ⟨gb1,3,none⟩ = some (.int .i64 a3):=(blk_cell BKgb1.out 3).trans rfl;have hcz1_4 : w5.cell? ⟨gb1,4,none⟩ = some (.int .i64 a4):=(blk_cell BKgb1.out 4).trans rfl;have hcz1_5 : w5.cell? ⟨gb1,5,none⟩ = some (.int .i64 a5):=(blk_cell BKgb1.out 5).trans rfl;have hcz1_6 : w5.cell? ⟨gb1,6,none⟩ = some (.int .i64 a6):=(blk_cell BKgb1.out 6).trans rfl;have hcz1_7 : w5.cell? ⟨gb1,7,none⟩ = some (.int .i64 a7):=(blk_cell BKgb1.out 7).trans rfl;have hfz1_0:=blk_frozen BKgb1.out 0;have hfz1_1:=blk_frozen BKgb1.out 1;have hfz1_2:=blk_frozen BKgb1.out 2;have hfz1_3:=blk_frozen BKgb1.out 3;have hfz1_4:=blk_frozen BKgb1.out 4;have hfz1_5:=blk_frozen BKgb1.out 5;have hfz1_6:=blk_frozen BKgb1.out 6;have hfz1_7:=blk_frozen BKgb1.out 7) | ((with_reducible refine gate_dst (N:=3) rfl ?_);refine bxA 3 #[.int .i64 0,.int .i64 0,.int .i64 0,.int .i64 0,.int .i64 0,.int .i64 0,.int .i64 0,.int .i64 0] 69 ?_;intro gb2 hg w6 hbox hb;have n0_:=Am (below_step bA hb);have n1_:=Am (hbox);have n2_:=Am (gwA hg bA);clear HB;have HB:=n0_;have BKgb2:=n1_;have GE2:=n2_;clear n0_ n1_ n2_ hb hbox hg;have hcy0 : w6.cell? ⟨gb2,0,none⟩ = some (.int .i64 0):=(blk_cell BKgb2.out 0).trans rfl;have hcy1 : w6.cell? ⟨gb2,1,none⟩ = some (.int .i64 0):=(blk_cell BKgb2.out 1).trans rfl;have hcy2 : w6.cell? ⟨gb2,2,none⟩ = some (.int .i64 0):=(blk_cell BKgb2.out 2).trans rfl;have hcy3 : w6.cell? ⟨gb2,3,none⟩ = some (.int .i64 0):=(blk_cell BKgb2.out 3).trans rfl;have hcy4 : w6.cell? ⟨gb2,4,none⟩ = some (.int .i64 0):=(blk_cell BKgb2.out 4).trans rfl;have hcy5 : w6.cell? ⟨gb2,5,none⟩ = some (.int .i64 0):=(blk_cell BKgb2.out 5).trans rfl;have hcy6 : w6.cell? ⟨gb2,6,none⟩ = some (.int .i64 0):=(blk_cell BKgb2.out 6).trans rfl;have hcy7 : w6.cell? ⟨gb2,7,none⟩ = some (.int .i64 0):=(blk_cell BKgb2.out 7).trans rfl;have hfy0:=blk_frozen BKgb2.out 0;have hfy1:=blk_frozen BKgb2.out 1;have hfy2:=blk_frozen BKgb2.out 2;have hfy3:=blk_frozen BKgb2.out 3;have hfy4:=blk_frozen BKgb2.out 4;have hfy5:=blk_frozen BKgb2.out 5;have hfy6:=blk_frozen BKgb2.out 6;have hfy7:=blk_frozen BKgb2.out 7))
 have HB1:=Am (show Below w.heap.size w _ from bA (W:=((((((((w6.setCell ⟨gb2,0,none⟩ (.int .i64 a0)).setCell ⟨gb2,1,none⟩ (.int .i64 a1)).setCell ⟨gb2,2,none⟩ (.int .i64 a2)).setCell ⟨gb2,3,none⟩ (.int .i64 a3)).setCell ⟨gb2,4,none⟩ (.int .i64 a4)).setCell ⟨gb2,5,none⟩ (.int .i64 a5)).setCell ⟨gb2,6,none⟩ (.int .i64 a6)).setCell ⟨gb2,7,none⟩ (.int .i64 a7))));clear HB
 have HB:=HB1
 clear HB1
 generalize ((((((((w6.setCell ⟨gb2,0,none⟩ (.int .i64 a0)).setCell ⟨gb2,1,none⟩ (.int .i64 a1)).setCell ⟨gb2,2,none⟩ (.int .i64 a2)).setCell ⟨gb2,3,none⟩ (.int .i64 a3)).setCell ⟨gb2,4,none⟩ (.int .i64 a4)).setCell ⟨gb2,5,none⟩ (.int .i64 a5)).setCell ⟨gb2,6,none⟩ (.int .i64 a6)).setCell ⟨gb2,7,none⟩ (.int .i64 a7)) = w7 at HB ⊢
 refine wp_loop_rounds 5 ?_
 rw [rounds_succ]
 go_wp2_with fail
 refine (config_asked_ranges.calls k a0 a1 a2 a3 a4 a5 a6 a7 0 _ A0.out).mono ?_
 rintro e w20 ⟨rfl,hb⟩
 have n0_:=Am (below_step bA hb);clear HB;have HB:=n0_;clear n0_ hb
 go_wp2_with fail
 rw [rounds_succ]
 go_wp2_with fail
 refine (config_asked_usage.calls a0 a1 a2 a3 a4 a5 a6 a7 0 _ A1.out).mono ?_
 rintro e w21 ⟨rfl,hb⟩
 have n0_:=Am (below_step bA hb);clear HB;have HB:=n0_;clear n0_ hb
 go_wp2_with fail
 rw [rounds_succ]
 go_wp2_with fail
 refine (config_asked_scale.calls a0 a1 a2 a3 a4 a5 a6 a7 r _ A2.out).mono ?_
 rintro e w22 ⟨rfl,hb⟩
 have n0_:=Am (below_step bA hb);clear HB;have HB:=n0_;clear n0_ hb
 go_wp2_with fail
 go_ret
 exact ⟨by first | rfl | (simp [errW_none,errW_some] <;> rfl) | (simp [*,errW_none,errW_some] <;> rfl),bA⟩
set_option maxHeartbeats 8000000 in
set_option maxRecDepth 100000 in
theorem config_Check.walk3 (k : Nat) (a0 a1 a2 a3 a4 a5 a6 a7 r : Int) (w : World) (A0 : Aside0 (config_asked_ranges.f k a0 a1 a2 a3 a4 a5 a6 a7 = some 0)) (A1 : Aside0 (config_asked_usage.f a0 a1 a2 a3 a4 a5 a6 a7 = some 0)) (A2 : Aside0 (config_asked_scale.f a0 a1 a2 a3 a4 a5 a6 a7 = some 0)) (A3 : Aside0 (config_asked_off.f a0 a1 a2 a3 a4 a5 a6 a7 = some r)) (c2b0 : (r != 0) = true) :
  Calls Tryd.prog 18 #[.agg #[.int .i64 a0,.int .i64 a1,.int .i64 a2,.int .i64 a3,.int .i64 a4,.int .i64 a5,.int .i64 a6,.int .i64 a7]] w fun e w' => e = .returned (.int .i64 r) ∧ Below w.heap.size w w':=by
 have hu39:=Tryd.underlying23
 have hu78:=Tryd.underlying69
 have hmf : ∀ (fn : Fn) (first cap : Array Value) (w : World),(Instr.makeFunc fn first cap).run Tryd.prog w = .ok (.func fn first cap) w:=fun _ _ _ _ => rfl
 have hix0 : ∀ (x0 x1 x2 x3 : Value) (w : World),(Instr.index 71 (.agg #[x0,x1,x2,x3]) (.int .i64 0)).run Tryd.prog w = .ok x0 w:=by intros;kernel_rfl
 have hix1 : ∀ (x0 x1 x2 x3 : Value) (w : World),(Instr.index 71 (.agg #[x0,x1,x2,x3]) (.int .i64 1)).run Tryd.prog w = .ok x1 w:=by intros;kernel_rfl
 have hix2 : ∀ (x0 x1 x2 x3 : Value) (w : World),(Instr.index 71 (.agg #[x0,x1,x2,x3]) (.int .i64 2)).run Tryd.prog w = .ok x2 w:=by intros;kernel_rfl
 have hix3 : ∀ (x0 x1 x2 x3 : Value) (w : World),(Instr.index 71 (.agg #[x0,x1,x2,x3]) (.int .i64 3)).run Tryd.prog w = .ok x3 w:=by intros;kernel_rfl
 have HB:=Am (Below.refl w.heap.size w)
 go_enter Tryd.func18,Tryd.ntmps18
 go_wp2_with (first | ((with_reducible refine gate_dst (N:=1) rfl ?_);refine bxA 1 #[.int .i64 a0,.int .i64 a1,.int .i64 a2,.int .i64 a3,.int .i64 a4,.int .i64 a5,.int .i64 a6,.int .i64 a7] 23 ?_;intro gb1 hg w5 hbox hb;have n0_:=Am (below_step bA hb);have n1_:=Am (hbox);have n2_:=Am (gwA hg bA);clear HB;have HB:=n0_;have BKgb1:=n1_;have GE1:=n2_;clear n0_ n1_ n2_ hb hbox hg;have hcz1_0 : w5.cell? ⟨gb1,0,none⟩ = some (.int .i64 a0):=(blk_cell BKgb1.out 0).trans rfl;have hcz1_1 : w5.cell? ⟨gb1,1,none⟩ = some (.int .i64 a1):=(blk_cell BKgb1.out 1).trans rfl;have hcz1_2 : w5.cell? ⟨gb1,2,none⟩ = some (.int .i64 a2):=(blk_cell BKgb1.out 2).trans rfl;have hcz1_3 : w5.cell? ⟨gb1,3,none⟩ = some (.int .i64 a3):=(blk_cell BKgb1.out 3).trans rfl;have hcz1_4 : w5.cell? ⟨gb1,4,none⟩ = some (.int .i64 a4):=(blk_cell BKgb1.out 4).trans rfl;have hcz1_5 : w5.cell? ⟨gb1,5,none⟩ = some (.int .i64 a5):=(blk_cell BKgb1.out 5).trans rfl;have hcz1_6 : w5.cell? ⟨gb1,6,none⟩ = some (.int .i64 a6):=(blk_cell BKgb1.out 6).trans rfl;have hcz1_7 : w5.cell? ⟨gb1,7,none⟩ = some (.int .i64 a7):=(blk_cell BKgb1.out 7).trans rfl;have hfz1_0:=blk_frozen BKgb1.out 0;have hfz1_1:=blk_frozen BKgb1.out 1;have hfz1_2:=blk_frozen BKgb1.out 2;have hfz1_3:=blk_frozen BKgb1.out 3;have hfz1_4:=blk_frozen BKgb1.out 4;have hfz1_5:=blk_frozen BKgb1.out 5;have hfz1_6:=blk_frozen BKgb1.out 6;have hfz1_7:=blk_frozen BKgb1.out 7) | ((with_reducible refine gate_dst (N:=3) rfl ?_);refine bxA 3 #[.int .i64 0,.int .i64 0,.int .i64 0,.int .i64 0,.int .i64 0,.int .i64 0,.int .i64 0,.int .i64 0] 69 ?_;intro gb2 hg w6 hbox hb;have n0_:=Am (below_step bA hb);have n1_:=Am (hbox);have n2_:=Am (gwA hg bA);clear HB;have HB:=n0_;have BKgb2:=n1_;have GE2:=n2_;clear n0_ n1_ n2_ hb hbox hg;have hcy0 : w6.cell? ⟨gb2,0,none⟩ = some (.int .i64 0):=(blk_cell BKgb2.out 0).trans rfl;have hcy1 : w6.cell? ⟨gb2,1,none⟩ = some (.int .i64 0):=(blk_cell BKgb2.out 1).trans rfl;have hcy2 : w6.cell? ⟨gb2,2,none⟩ = some (.int .i64 0):=(blk_cell BKgb2.out 2).trans rfl;have hcy3 : w6.cell? ⟨gb2,3,none⟩ = some (.int .i64 0):=(blk_cell BKgb2.out 3).trans rfl;have hcy4 : w6.cell? ⟨gb2,4,none⟩ = some (.int .i64 0):=(blk_cell BKgb2.out 4).trans rfl;have hcy5 : w6.cell? ⟨gb2,5,none⟩ = some (.int .i64 0):=(blk_cell BKgb2.out 5).trans rfl;have hcy6 : w6.cell? ⟨gb2,6,none⟩ = some (.int .i64 0):=(blk_cell BKgb2.out 6).trans rfl;have hcy7 : w6.cell? ⟨gb2,7,none⟩ = some (.int .i64 0):=(blk_cell BKgb2.out 7).trans rfl;have hfy0:=blk_frozen BKgb2.out 0;have hfy1:=blk_frozen BKgb2.out 1;have hfy2:=blk_frozen BKgb2.out 2;have hfy3:=blk_frozen BKgb2.out 3;have hfy4:=blk_frozen BKgb2.out 4;have hfy5:=blk_frozen BKgb2.out 5;have hfy6:=blk_frozen BKgb2.out 6;have hfy7:=blk_frozen BKgb2.out 7))
 have HB1:=Am (show Below w.heap.size w _ from bA (W:=((((((((w6.setCell ⟨gb2,0,none⟩ (.int .i64 a0)).setCell ⟨gb2,1,none⟩ (.int .i64 a1)).setCell ⟨gb2,2,none⟩ (.int .i64 a2)).setCell ⟨gb2,3,none⟩ (.int .i64 a3)).setCell ⟨gb2,4,none⟩ (.int .i64 a4)).setCell ⟨gb2,5,none⟩ (.int .i64 a5)).setCell ⟨gb2,6,none⟩ (.int .i64 a6)).setCell ⟨gb2,7,none⟩ (.int .i64 a7))));clear HB
 have HB:=HB1
 clear HB1
 generalize ((((((((w6.setCell ⟨gb2,0,none⟩ (.int .i64 a0)).setCell ⟨gb2,1,none⟩ (.int .i64 a1)).setCell ⟨gb2,2,none⟩ (.int .i64 a2)).setCell ⟨gb2,3,none⟩ (.int .i64 a3)).setCell ⟨gb2,4,none⟩ (.int .i64 a4)).setCell ⟨gb2,5,none⟩ (.int .i64 a5)).setCell ⟨gb2,6,none⟩ (.int .i64 a6)).setCell ⟨gb2,7,none⟩ (.int .i64 a7)) = w7 at HB ⊢
 refine wp_loop_rounds 5 ?_
 rw [rounds_succ]
 go_wp2_with fail
 refine (config_asked_ranges.calls k a0 a1 a2 a3 a4 a5 a6 a7 0 _ A0.out).mono ?_
 rintro e w20 ⟨rfl,hb⟩
 have n0_:=Am (below_step bA hb);clear HB;have HB:=n0_;clear n0_ hb
 go_wp2_with fail
 rw [rounds_succ]
 go_wp2_with fail
 refine (config_asked_usage.calls a0 a1 a2 a3 a4 a5 a6 a7 0 _ A1.out).mono ?_
 rintro e w21 ⟨rfl,hb⟩
 have n0_:=Am (below_step bA hb);clear HB;have HB:=n0_;clear n0_ hb
 go_wp2_with fail
 rw [rounds_succ]
 go_wp2_with fail
 refine (config_asked_scale.calls a0 a1 a2 a3 a4 a5 a6 a7 0 _ A2.out).mono ?_
 rintro e w22 ⟨rfl,hb⟩
 have n0_:=Am (below_step bA hb);clear HB;have HB:=n0_;clear n0_ hb
 go_wp2_with fail
 rw [rounds_succ]
 go_wp2_with fail
 refine (config_asked_off.calls a0 a1 a2 a3 a4 a5 a6 a7 r _ A3.out).mono ?_
 rintro e w23 ⟨rfl,hb⟩
 have n0_:=Am (below_step bA hb);clear HB;have HB:=n0_;clear n0_ hb
 go_wp2_with fail
 go_ret
 exact ⟨by first | rfl | (simp [errW_none,errW_some] <;> rfl) | (simp [*,errW_none,errW_some] <;> rfl),bA⟩
set_option maxHeartbeats 8000000 in
set_option maxRecDepth 100000 in
theorem config_Check.walk4 (k : Nat) (a0 a1 a2 a3 a4 a5 a6 a7 : Int) (w : World) (A0 : Aside0 (config_asked_ranges.f k a0 a1 a2 a3 a4 a5 a6 a7 = some 0)) (A1 : Aside0 (config_asked_usage.f a0 a1 a2 a3 a4 a5 a6 a7 = some 0)) (A2 : Aside0 (config_asked_scale.f a0 a1 a2 a3 a4 a5 a6 a7 = some 0)) (A3 : Aside0 (config_asked_off.f a0 a1 a2 a3 a4 a5 a6 a7 = some 0)) :
  Calls Tryd.prog 18 #[.agg #[.int .i64 a0,.int .i64 a1,.int .i64 a2,.int .i64 a3,.int .i64 a4,.int .i64 a5,.int .i64 a6,.int .i64 a7]] w fun e w' => e = .returned (.int .i64 0) ∧ Below w.heap.size w w':=by
 have hu39:=Tryd.underlying23
 have hu78:=Tryd.underlying69
 have hmf : ∀ (fn : Fn) (first cap : Array Value) (w : World),(Instr.makeFunc fn first cap).run Tryd.prog w = .ok (.func fn first cap) w:=fun _ _ _ _ => rfl
 have hix0 : ∀ (x0 x1 x2 x3 : Value) (w : World),(Instr.index 71 (.agg #[x0,x1,x2,x3]) (.int .i64 0)).run Tryd.prog w = .ok x0 w:=by intros;kernel_rfl
 have hix1 : ∀ (x0 x1 x2 x3 : Value) (w : World),(Instr.index 71 (.agg #[x0,x1,x2,x3]) (.int .i64 1)).run Tryd.prog w = .ok x1 w:=by intros;kernel_rfl
 have hix2 : ∀ (x0 x1 x2 x3 : Value) (w : World),(Instr.index 71 (.agg #[x0,x1,x2,x3]) (.int .i64 2)).run Tryd.prog w = .ok x2 w:=by intros;kernel_rfl
 have hix3 : ∀ (x0 x1 x2 x3 : Value) (w : World),(Instr.index 71 (.agg #[x0,x1,x2,x3]) (.int .i64 3)).run Tryd.prog w = .ok x3 w:=by intros;kernel_rfl
 have HB:=Am (Below.refl w.heap.size w)
 go_enter Tryd.func18,Tryd.ntmps18
 go_wp2_with (first | ((with_reducible refine gate_dst (N:=1) rfl ?_);refine bxA 1 #[.int .i64 a0,.int .i64 a1,.int .i64 a2,.int .i64 a3,.int .i64 a4,.int .i64 a5,.int .i64 a6,.int .i64 a7] 23 ?_;intro gb1 hg w5 hbox hb;have n0_:=Am (below_step bA hb);have n1_:=Am (hbox);have n2_:=Am (gwA hg bA);clear HB;have HB:=n0_;have BKgb1:=n1_;have GE1:=n2_;clear n0_ n1_ n2_ hb hbox hg;have hcz1_0 : w5.cell? ⟨gb1,0,none⟩ = some (.int .i64 a0):=(blk_cell BKgb1.out 0).trans rfl;have hcz1_1 : w5.cell? ⟨gb1,1,none⟩ = some (.int .i64 a1):=(blk_cell BKgb1.out 1).trans rfl;have hcz1_2 : w5.cell? ⟨gb1,2,none⟩ = some (.int .i64 a2):=(blk_cell BKgb1.out 2).trans rfl;have hcz1_3 : w5.cell? ⟨gb1,3,none⟩ = some (.int .i64 a3):=(blk_cell BKgb1.out 3).trans rfl;have hcz1_4 : w5.cell? ⟨gb1,4,none⟩ = some (.int .i64 a4):=(blk_cell BKgb1.out 4).trans rfl;have hcz1_5 : w5.cell? ⟨gb1,5,none⟩ = some (.int .i64 a5):=(blk_cell BKgb1.out 5).trans rfl;have hcz1_6 : w5.cell? ⟨gb1,6,none⟩ = some (.int .i64 a6):=(blk_cell BKgb1.out 6).trans rfl;have hcz1_7 : w5.cell? ⟨gb1,7,none⟩ = some (.int .i64 a7):=(blk_cell BKgb1.out 7).trans rfl;have hfz1_0:=blk_frozen BKgb1.out 0;have hfz1_1:=blk_frozen BKgb1.out 1;have hfz1_2:=blk_frozen BKgb1.out 2;have hfz1_3:=blk_frozen BKgb1.out 3;have hfz1_4:=blk_frozen BKgb1.out 4;have hfz1_5:=blk_frozen BKgb1.out 5;have hfz1_6:=blk_frozen BKgb1.out 6;have hfz1_7:=blk_frozen BKgb1.out 7) | ((with_reducible refine gate_dst (N:=3) rfl ?_);refine bxA 3 #[.int .i64 0,.int .i64 0,.int .i64 0,.int .i64 0,.int .i64 0,.int .i64 0,.int .i64 0,.int .i64 0] 69 ?_;intro gb2 hg w6 hbox hb;have n0_:=Am (below_step bA hb);have n1_:=Am (hbox);have n2_:=Am (gwA hg bA);clear HB;have HB:=n0_;have BKgb2:=n1_;have GE2:=n2_;clear n0_ n1_ n2_ hb hbox hg;have hcy0 : w6.cell? ⟨gb2,0,none⟩ = some (.int .i64 0):=(blk_cell BKgb2.out 0).trans rfl;have hcy1 : w6.cell? ⟨gb2,1,none⟩ = some (.int .i64 0):=(blk_cell BKgb2.out 1).trans rfl;have hcy2 : w6.cell? ⟨gb2,2,none⟩ = some (.int .i64 0):=(blk_cell BKgb2.out 2).trans rfl;have hcy3 : w6.cell? ⟨gb2,3,none⟩ = some (.int .i64 0):=(blk_cell BKgb2.out 3).trans rfl;have hcy4 : w6.cell? ⟨gb2,4,none⟩ = some (.int .i64 0):=(blk_cell BKgb2.out 4).trans rfl;have hcy5 : w6.cell? ⟨gb2,5,none⟩ = some (.int .i64 0):=(blk_cell BKgb2.out 5).trans rfl;have hcy6 : w6.cell? ⟨gb2,6,none⟩ = some (.int .i64 0):=(blk_cell BKgb2.out 6).trans rfl;have hcy7 : w6.cell? ⟨gb2,7,none⟩ = some (.int .i64 0):=(blk_cell BKgb2.out 7).trans rfl;have hfy0:=blk_frozen BKgb2.out 0;have hfy1:=blk_frozen BKgb2.out 1;have hfy2:=blk_frozen BKgb2.out 2;have hfy3:=blk_frozen BKgb2.out 3;have hfy4:=blk_frozen BKgb2.out 4;have hfy5:=blk_frozen BKgb2.out 5;have hfy6:=blk_frozen BKgb2.out 6;have hfy7:=blk_frozen BKgb2.out 7))
 have HB1:=Am (show Below w.heap.size w _ from bA (W:=((((((((w6.setCell ⟨gb2,0,none⟩ (.int .i64 a0)).setCell ⟨gb2,1,none⟩ (.int .i64 a1)).setCell ⟨gb2,2,none⟩ (.int .i64 a2)).setCell ⟨gb2,3,none⟩ (.int .i64 a3)).setCell ⟨gb2,4,none⟩ (.int .i64 a4)).setCell ⟨gb2,5,none⟩ (.int .i64 a5)).setCell ⟨gb2,6,none⟩ (.int .i64 a6)).setCell ⟨gb2,7,none⟩ (.int .i64 a7))));clear HB
 have HB:=HB1
 clear HB1
 generalize ((((((((w6.setCell ⟨gb2,0,none⟩ (.int .i64 a0)).setCell ⟨gb2,1,none⟩ (.int .i64 a1)).setCell ⟨gb2,2,none⟩ (.int .i64 a2)).setCell ⟨gb2,3,none⟩ (.int .i64 a3)).setCell ⟨gb2,4,none⟩ (.int .i64 a4)).setCell ⟨gb2,5,none⟩ (.int .i64 a5)).setCell ⟨gb2,6,none⟩ (.int .i64 a6)).setCell ⟨gb2,7,none⟩ (.int .i64 a7)) = w7 at HB ⊢
 refine wp_loop_rounds 5 ?_
 rw [rounds_succ]
 go_wp2_with fail
 refine (config_asked_ranges.calls k a0 a1 a2 a3 a4 a5 a6 a7 0 _ A0.out).mono ?_
 rintro e w20 ⟨rfl,hb⟩
 have n0_:=Am (below_step bA hb);clear HB;have HB:=n0_;clear n0_ hb
 go_wp2_with fail
 rw [rounds_succ]
 go_wp2_with fail
 refine (config_asked_usage.calls a0 a1 a2 a3 a4 a5 a6 a7 0 _ A1.out).mono ?_
 rintro e w21 ⟨rfl,hb⟩
 have n0_:=Am (below_step bA hb);clear HB;have HB:=n0_;clear n0_ hb
 go_wp2_with fail
 rw [rounds_succ]
 go_wp2_with fail
 refine (config_asked_scale.calls a0 a1 a2 a3 a4 a5 a6 a7 0 _ A2.out).mono ?_
 rintro e w22 ⟨rfl,hb⟩
 have n0_:=Am (below_step bA hb);clear HB;have HB:=n0_;clear n0_ hb
 go_wp2_with fail
 rw [rounds_succ]
 go_wp2_with fail
 refine (config_asked_off.calls a0 a1 a2 a3 a4 a5 a6 a7 0 _ A3.out).mono ?_
 rintro e w23 ⟨rfl,hb⟩
 have n0_:=Am (below_step bA hb);clear HB;have HB:=n0_;clear n0_ hb
 go_wp2_with fail
 rw [rounds_succ]
 go_wp2
 go_ret
 exact ⟨by first | rfl | (simp [errW_none,errW_some] <;> rfl) | (simp [*,errW_none,errW_some] <;> rfl),bA⟩
theorem config_Check.calls (k : Nat) (a0 a1 a2 a3 a4 a5 a6 a7 r : Int) (w : World) (h : config_Check.f k a0 a1 a2 a3 a4 a5 a6 a7 = some r) :
  Calls Tryd.prog 18 #[.agg #[.int .i64 a0,.int .i64 a1,.int .i64 a2,.int .i64 a3,.int .i64 a4,.int .i64 a5,.int .i64 a6,.int .i64 a7]] w fun e w' => e = .returned (.int .i64 r) ∧ Below w.heap.size w w':=by
 unfold config_Check.f at h
 obtain ⟨e1,h1,h⟩:=Option.bind_eq_some_iff.mp h
 by_cases c1 : e1 = 0
 ·rw [if_pos c1] at h
  subst c1
  obtain ⟨e2,h2,h⟩:=Option.bind_eq_some_iff.mp h
  by_cases c2 : e2 = 0
  ·rw [if_pos c2] at h
   subst c2
   obtain ⟨e3,h3,h⟩:=Option.bind_eq_some_iff.mp h
   by_cases c3 : e3 = 0
   ·rw [if_pos c3] at h
    subst c3
    by_cases c4 : r = 0
    ·subst c4
     exact config_Check.walk4 k a0 a1 a2 a3 a4 a5 a6 a7 w ⟨h1⟩ ⟨h2⟩ ⟨h3⟩ ⟨h⟩
    ·exact config_Check.walk3 k a0 a1 a2 a3 a4 a5 a6 a7 r w ⟨h1⟩ ⟨h2⟩ ⟨h3⟩ ⟨h⟩ (bne_iff_ne.mpr c4)
   ·rw [if_neg c3] at h
    obtain rfl:=Option.some.inj h
    exact config_Check.walk2 k a0 a1 a2 a3 a4 a5 a6 a7 _ w ⟨h1⟩ ⟨h2⟩ ⟨h3⟩ (bne_iff_ne.mpr c3)
  ·rw [if_neg c2] at h
   obtain rfl:=Option.some.inj h
   exact config_Check.walk1 k a0 a1 a2 a3 a4 a5 a6 a7 _ w ⟨h1⟩ ⟨h2⟩ (bne_iff_ne.mpr c2)
 ·rw [if_neg c1] at h
  obtain rfl:=Option.some.inj h
  exact config_Check.walk0 k a0 a1 a2 a3 a4 a5 a6 a7 _ w ⟨h1⟩ (bne_iff_ne.mpr c1)


def config_Floor.f (k : Nat) (a0_0 : Int) (a0_1 : Int) (a0_2 : Int) (a0_3 : Int) (a0_4 : Int) (a0_5 : Int) (a0_6 : Int) (a0_7 : Int) : Option (Int):=(config_Check.f k a0_0 a0_1 a0_2 a0_3 a0_4 a0_5 a0_6 a0_7).bind fun t204 => (if t204 = 0 then ((config_asked_area.f a0_0 a0_1 a0_2 a0_3 a0_4 a0_5 a0_6 a0_7).bind fun t205 => (some (IntKind.u64.wrap ((IntKind.u64.wrap (t205)) * 4294967296)))) else (some 0))
set_option maxHeartbeats 8000000 in
set_option maxRecDepth 100000 in
theorem config_Floor.calls (k : Nat) (a0_0 : Int) (a0_1 : Int) (a0_2 : Int) (a0_3 : Int) (a0_4 : Int) (a0_5 : Int) (a0_6 : Int) (a0_7 : Int) (r : Int) (w : World) (h : config_Floor.f k a0_0 a0_1 a0_2 a0_3 a0_4 a0_5 a0_6 a0_7 = some r) :
  Calls Tryd.prog 20 #[.agg #[.int .i64 a0_0,.int .i64 a0_1,.int .i64 a0_2,.int .i64 a0_3,.int .i64 a0_4,.int .i64 a0_5,.int .i64 a0_6,.int .i64 a0_7]] w fun e w' => e = .returned (.int .u64 r) ∧ Below w.heap.size w w':=by
 have hu23:=Tryd.underlying23
 have hu69:=Tryd.underlying69
 have HB:=Am (Below.refl w.heap.size w)
 have H : ((config_Check.f k a0_0 a0_1 a0_2 a0_3 a0_4 a0_5 a0_6 a0_7).bind fun t204 => (if t204 = 0 then ((config_asked_area.f a0_0 a0_1 a0_2 a0_3 a0_4 a0_5 a0_6 a0_7).bind fun t205 => (some (IntKind.u64.wrap ((IntKind.u64.wrap (t205)) * 4294967296)))) else (some 0))) = some r:=h
 clear h;replace H:=Option.bind_eq_some_iff.mp H;obtain ⟨t204,A20,H⟩:=H;replace H : (if t204 = 0 then ((config_asked_area.f a0_0 a0_1 a0_2 a0_3 a0_4 a0_5 a0_6 a0_7).bind fun t205 => (some (IntKind.u64.wrap ((IntKind.u64.wrap (t205)) * 4294967296)))) else (some 0)) = some r:=H;have A2:=Aside0.mk A20;clear A20
 by_cases c3 : t204 = 0
 ·rw [if_pos c3] at H
  have c3b0 : (t204 == 0) = true:=beq_iff_eq.mpr c3
  have c3b1 : (t204 != 0) = false:=bne_eq_false_iff_eq.mpr c3
  clear c3;replace H:=Option.bind_eq_some_iff.mp H;obtain ⟨t205,A40,H⟩:=H;replace H : (some (IntKind.u64.wrap ((IntKind.u64.wrap (t205)) * 4294967296))) = some r:=H;have A4:=Aside0.mk A40;clear A40
  obtain rfl:=Option.some.inj H
  go_enter Tryd.func20,Tryd.ntmps20
  go_wp2_with (first | ((with_reducible refine gate_dst (N:=1) rfl ?_);refine bxA 1 #[.int .i64 a0_0,.int .i64 a0_1,.int .i64 a0_2,.int .i64 a0_3,.int .i64 a0_4,.int .i64 a0_5,.int .i64 a0_6,.int .i64 a0_7] 23 ?_;intro gb203 hg w5 hbox hb;have n0_:=Am (below_step bA hb);have n1_:=Am (hbox);have n2_:=Am (gwA hg bA);have n3_:=Am (gwA hg bA);clear HB;have HB:=n0_;have BK203:=n1_;have GW203:=n2_;have GE203:=n3_;clear n0_ n1_ n2_ n3_ hb hbox hg;have hcz6_0 : w5.cell? ⟨gb203,0,none⟩ = some (.int .i64 a0_0):=(blk_cell BK203.out 0).trans rfl;have hcz6_1 : w5.cell? ⟨gb203,1,none⟩ = some (.int .i64 a0_1):=(blk_cell BK203.out 1).trans rfl;have hcz6_2 : w5.cell? ⟨gb203,2,none⟩ = some (.int .i64 a0_2):=(blk_cell BK203.out 2).trans rfl;have hcz6_3 : w5.cell? ⟨gb203,3,none⟩ = some (.int .i64 a0_3):=(blk_cell BK203.out 3).trans rfl;have hcz6_4 : w5.cell? ⟨gb203,4,none⟩ = some (.int .i64 a0_4):=(blk_cell BK203.out 4).trans rfl;have hcz6_5 : w5.cell? ⟨gb203,5,none⟩ = some (.int .i64 a0_5):=(blk_cell BK203.out 5).trans rfl;have hcz6_6 : w5.cell? ⟨gb203,6,none⟩ = some (.int .i64 a0_6):=(blk_cell BK203.out 6).trans rfl;have hcz6_7 : w5.cell? ⟨gb203,7,none⟩ = some (.int .i64 a0_7):=(blk_cell BK203.out 7).trans rfl;have hfz6_0:=blk_frozen BK203.out 0;have hfz6_1:=blk_frozen BK203.out 1;have hfz6_2:=blk_frozen BK203.out 2;have hfz6_3:=blk_frozen BK203.out 3;have hfz6_4:=blk_frozen BK203.out 4;have hfz6_5:=blk_frozen BK203.out 5;have hfz6_6:=blk_frozen BK203.out 6;have hfz6_7:=blk_frozen BK203.out 7) | ((with_reducible refine gate_callee (f:=18) rfl ?_);refine goesL_ (some 4) rfl rfl Tryd.func18 (by kernel_rfl) rfl #[.agg #[.int .i64 a0_0,.int .i64 a0_1,.int .i64 a0_2,.int .i64 a0_3,.int .i64 a0_4,.int .i64 a0_5,.int .i64 a0_6,.int .i64 a0_7]] rfl aA ?_;(with_reducible refine (config_Check.calls k a0_0 a0_1 a0_2 a0_3 a0_4 a0_5 a0_6 a0_7 t204 _ A2.out).mono ?_);rintro e w7 ⟨rfl,hb⟩;refine ⟨_,rfl,?_⟩;have n0_:=Am (blk_below (g:=gb203) kA hb);have n1_:=Am (below_step bA hb);clear BK203 HB;have BK203:=n0_;have HB:=n1_;clear n0_ n1_;(try clear hb);have hcz8_0 : w7.cell? ⟨gb203,0,none⟩ = some (.int .i64 a0_0):=(blk_cell BK203.out 0).trans rfl;have hcz8_1 : w7.cell? ⟨gb203,1,none⟩ = some (.int .i64 a0_1):=(blk_cell BK203.out 1).trans rfl;have hcz8_2 : w7.cell? ⟨gb203,2,none⟩ = some (.int .i64 a0_2):=(blk_cell BK203.out 2).trans rfl;have hcz8_3 : w7.cell? ⟨gb203,3,none⟩ = some (.int .i64 a0_3):=(blk_cell BK203.out 3).trans rfl;have hcz8_4 : w7.cell? ⟨gb203,4,none⟩ = some (.int .i64 a0_4):=(blk_cell BK203.out 4).trans rfl;have hcz8_5 : w7.cell? ⟨gb203,5,none⟩ = some (.int .i64 a0_5):=(blk_cell BK203.out 5).trans rfl;have hcz8_6 : w7.cell? ⟨gb203,6,none⟩ = some (.int .i64 a0_6):=(blk_cell BK203.out 6).trans rfl;have hcz8_7 : w7.cell? ⟨gb203,7,none⟩ = some (.int .i64 a0_7):=(blk_cell BK203.out 7).trans rfl;have hfz8_0:=blk_frozen BK203.out 0;have hfz8_1:=blk_frozen BK203.out 1;have hfz8_2:=blk_frozen BK203.out 2;have hfz8_3:=blk_frozen BK203.out 3;have hfz8_4:=blk_frozen BK203.out 4;have hfz8_5:=blk_frozen BK203.out 5;have hfz8_6:=blk_frozen BK203.out 6;have hfz8_7:=blk_frozen BK203.out 7) | ((with_reducible refine gate_callee (f:=40) rfl ?_);refine goesL_ (some 8) rfl rfl Tryd.func40 (by kernel_rfl) rfl #[.agg #[.int .i64 a0_0,.int .i64 a0_1,.int .i64 a0_2,.int .i64 a0_3,.int .i64 a0_4,.int .i64 a0_5,.int .i64 a0_6,.int .i64 a0_7]] rfl aA ?_;(with_reducible refine (config_asked_area.calls a0_0 a0_1 a0_2 a0_3 a0_4 a0_5 a0_6 a0_7 t205 _ A4.out).mono ?_);rintro e w9 ⟨rfl,hb⟩;refine ⟨_,rfl,?_⟩;have n0_:=Am (blk_below (g:=gb203) kA hb);have n1_:=Am (below_step bA hb);clear BK203 HB;have BK203:=n0_;have HB:=n1_;clear n0_ n1_;(try clear hb)))
  go_ret
  exact ⟨by first | rfl | (simp [errW_none,errW_some] <;> rfl) | (simp [*,errW_none,errW_some] <;> rfl),bA⟩
 ·rw [if_neg c3] at H
  have c3b0 : (t204 == 0) = false:=beq_eq_false_iff_ne.mpr c3
  have c3b1 : (t204 != 0) = true:=bne_iff_ne.mpr c3
  obtain rfl:=Option.some.inj H
  go_enter Tryd.func20,Tryd.ntmps20
  go_wp2_with (first | ((with_reducible refine gate_dst (N:=1) rfl ?_);refine bxA 1 #[.int .i64 a0_0,.int .i64 a0_1,.int .i64 a0_2,.int .i64 a0_3,.int .i64 a0_4,.int .i64 a0_5,.int .i64 a0_6,.int .i64 a0_7] 23 ?_;intro gb203 hg w10 hbox hb;have n0_:=Am (below_step bA hb);have n1_:=Am (hbox);have n2_:=Am (gwA hg bA);have n3_:=Am (gwA hg bA);clear HB;have HB:=n0_;have BK203:=n1_;have GW203:=n2_;have GE203:=n3_;clear n0_ n1_ n2_ n3_ hb hbox hg;have hcz11_0 : w10.cell? ⟨gb203,0,none⟩ = some (.int .i64 a0_0):=(blk_cell BK203.out 0).trans rfl;have hcz11_1 : w10.cell? ⟨gb203,1,none⟩ = some (.int .i64 a0_1):=(blk_cell BK203.out 1).trans rfl;have hcz11_2 : w10.cell? ⟨gb203,2,none⟩ = some (.int .i64 a0_2):=(blk_cell BK203.out 2).trans rfl;have hcz11_3 : w10.cell? ⟨gb203,3,none⟩ = some (.int .i64 a0_3):=(blk_cell BK203.out 3).trans rfl;have hcz11_4 : w10.cell? ⟨gb203,4,none⟩ = some (.int .i64 a0_4):=(blk_cell BK203.out 4).trans rfl;have hcz11_5 : w10.cell? ⟨gb203,5,none⟩ = some (.int .i64 a0_5):=(blk_cell BK203.out 5).trans rfl;have hcz11_6 : w10.cell? ⟨gb203,6,none⟩ = some (.int .i64 a0_6):=(blk_cell BK203.out 6).trans rfl;have hcz11_7 : w10.cell? ⟨gb203,7,none⟩ = some (.int .i64 a0_7):=(blk_cell BK203.out 7).trans rfl;have hfz11_0:=blk_frozen BK203.out 0;have hfz11_1:=blk_frozen BK203.out 1;have hfz11_2:=blk_frozen BK203.out 2;have hfz11_3:=blk_frozen BK203.out 3;have hfz11_4:=blk_frozen BK203.out 4;have hfz11_5:=blk_frozen BK203.out 5;have hfz11_6:=blk_frozen BK203.out 6;have hfz11_7:=blk_frozen BK203.out 7) | ((with_reducible refine gate_callee (f:=18) rfl ?_);refine goesL_ (some 4) rfl rfl Tryd.func18 (by kernel_rfl) rfl #[.agg #[.int .i64 a0_0,.int .i64 a0_1,.int .i64 a0_2,.int .i64 a0_3,.int .i64 a0_4,.int .i64 a0_5,.int .i64 a0_6,.int .i64 a0_7]] rfl aA ?_;(with_reducible refine (config_Check.calls k a0_0 a0_1 a0_2 a0_3 a0_4 a0_5 a0_6 a0_7 t204 _ A2.out).mono ?_);rintro e w12 ⟨rfl,hb⟩;refine ⟨_,rfl,?_⟩;have n0_:=Am (blk_below (g:=gb203) kA hb);have n1_:=Am (below_step bA hb);clear BK203 HB;have BK203:=n0_;have HB:=n1_;clear n0_ n1_;(try clear hb)))
  go_ret
  exact ⟨by first | rfl | (simp [errW_none,errW_some] <;> rfl) | (simp [*,errW_none,errW_some] <;> rfl),bA⟩

def bits_Len64.j0 : Nat → Int → Int → Option (Int)
 | 0,_,_ => none
 | k + 1,x0,x2 => if x0 ≥ 65536 then (if (x0 / 65536) ≥ 256 then (if 0 ≤ (((x0 / 65536) / 256) % 256) then (if (((x0 / 65536) / 256) % 256) < 256 then (some (wrap64 ((wrap64 ((wrap64 (x2 + 16)) + 8)) + (wrap64 (bt (⟨#[0,1,2,2,3,3,3,3,4,4,4,4,4,4,4,4,5,5,5,5,5,5,5,5,5,5,5,5,5,5,5,5,6,6,6,6,6,6,6,6,6,6,6,6,6,6,6,6,6,6,6,6,6,6,6,6,6,6,6,6,6,6,6,6,7,7,7,7,7,7,7,7,7,7,7,7,7,7,7,7,7,7,7,7,7,7,7,7,7,7,7,7,7,7,7,7,7,7,7,7,7,7,7,7,7,7,7,7,7,7,7,7,7,7,7,7,7,7,7,7,7,7,7,7,7,7,7,7,8,8,8,8,8,8,8,8,8,8,8,8,8,8,8,8,8,8,8,8,8,8,8,8,8,8,8,8,8,8,8,8,8,8,8,8,8,8,8,8,8,8,8,8,8,8,8,8,8,8,8,8,8,8,8,8,8,8,8,8,8,8,8,8,8,8,8,8,8,8,8,8,8,8,8,8,8,8,8,8,8,8,8,8,8,8,8,8,8,8,8,8,8,8,8,8,8,8,8,8,8,8,8,8,8,8,8,8,8,8,8,8,8,8,8,8,8,8,8,8,8,8,8,8,8,8,8,8]⟩ : ByteArray) (((x0 / 65536) / 256) % 256)))))) else (none)) else (none)) else (if 0 ≤ ((x0 / 65536) % 256) then (if ((x0 / 65536) % 256) < 256 then (some (wrap64 ((wrap64 (x2 + 16)) + (wrap64 (bt (⟨#[0,1,2,2,3,3,3,3,4,4,4,4,4,4,4,4,5,5,5,5,5,5,5,5,5,5,5,5,5,5,5,5,6,6,6,6,6,6,6,6,6,6,6,6,6,6,6,6,6,6,6,6,6,6,6,6,6,6,6,6,6,6,6,6,7,7,7,7,7,7,7,7,7,7,7,7,7,7,7,7,7,7,7,7,7,7,7,7,7,7,7,7,7,7,7,7,7,7,7,7,7,7,7,7,7,7,7,7,7,7,7,7,7,7,7,7,7,7,7,7,7,7,7,7,7,7,7,7,8,8,8,8,8,8,8,8,8,8,8,8,8,8,8,8,8,8,8,8,8,8,8,8,8,8,8,8,8,8,8,8,8,8,8,8,8,8,8,8,8,8,8,8,8,8,8,8,8,8,8,8,8,8,8,8,8,8,8,8,8,8,8,8,8,8,8,8,8,8,8,8,8,8,8,8,8,8,8,8,8,8,8,8,8,8,8,8,8,8,8,8,8,8,8,8,8,8,8,8,8,8,8,8,8,8,8,8,8,8,8,8,8,8,8,8,8,8,8,8,8,8,8,8,8,8,8,8]⟩ : ByteArray) ((x0 / 65536) % 256)))))) else (none)) else (none))) else (if x0 ≥ 256 then (if 0 ≤ ((x0 / 256) % 256) then (if ((x0 / 256) % 256) < 256 then (some (wrap64 ((wrap64 (x2 + 8)) + (wrap64 (bt (⟨#[0,1,2,2,3,3,3,3,4,4,4,4,4,4,4,4,5,5,5,5,5,5,5,5,5,5,5,5,5,5,5,5,6,6,6,6,6,6,6,6,6,6,6,6,6,6,6,6,6,6,6,6,6,6,6,6,6,6,6,6,6,6,6,6,7,7,7,7,7,7,7,7,7,7,7,7,7,7,7,7,7,7,7,7,7,7,7,7,7,7,7,7,7,7,7,7,7,7,7,7,7,7,7,7,7,7,7,7,7,7,7,7,7,7,7,7,7,7,7,7,7,7,7,7,7,7,7,7,8,8,8,8,8,8,8,8,8,8,8,8,8,8,8,8,8,8,8,8,8,8,8,8,8,8,8,8,8,8,8,8,8,8,8,8,8,8,8,8,8,8,8,8,8,8,8,8,8,8,8,8,8,8,8,8,8,8,8,8,8,8,8,8,8,8,8,8,8,8,8,8,8,8,8,8,8,8,8,8,8,8,8,8,8,8,8,8,8,8,8,8,8,8,8,8,8,8,8,8,8,8,8,8,8,8,8,8,8,8,8,8,8,8,8,8,8,8,8,8,8,8,8,8,8,8,8,8]⟩ : ByteArray) ((x0 / 256) % 256)))))) else (none)) else (none)) else (if 0 ≤ ((x0) % 256) then (if ((x0) % 256) < 256 then (some (wrap64 (x2 + (wrap64 (bt (⟨#[0,1,2,2,3,3,3,3,4,4,4,4,4,4,4,4,5,5,5,5,5,5,5,5,5,5,5,5,5,5,5,5,6,6,6,6,6,6,6,6,6,6,6,6,6,6,6,6,6,6,6,6,6,6,6,6,6,6,6,6,6,6,6,6,7,7,7,7,7,7,7,7,7,7,7,7,7,7,7,7,7,7,7,7,7,7,7,7,7,7,7,7,7,7,7,7,7,7,7,7,7,7,7,7,7,7,7,7,7,7,7,7,7,7,7,7,7,7,7,7,7,7,7,7,7,7,7,7,8,8,8,8,8,8,8,8,8,8,8,8,8,8,8,8,8,8,8,8,8,8,8,8,8,8,8,8,8,8,8,8,8,8,8,8,8,8,8,8,8,8,8,8,8,8,8,8,8,8,8,8,8,8,8,8,8,8,8,8,8,8,8,8,8,8,8,8,8,8,8,8,8,8,8,8,8,8,8,8,8,8,8,8,8,8,8,8,8,8,8,8,8,8,8,8,8,8,8,8,8,8,8,8,8,8,8,8,8,8,8,8,8,8,8,8,8,8,8,8,8,8,8,8,8,8,8,8]⟩ : ByteArray) ((x0) % 256)))))) else (none)) else (none)))
def bits_Len64.f (k : Nat) (a0 : Int) : Option (Int):=if a0 ≥ 4294967296 then (bits_Len64.j0 k (a0 / 4294967296) 32) else (bits_Len64.j0 k a0 0)
theorem bits_Len64.mono_l : ∀ k,(∀ y0 y1,LeO (bits_Len64.j0 k y0 y1) (bits_Len64.j0 (k + 1) y0 y1))
 | 0 => fun _ _ r h => by simp [bits_Len64.j0] at h
 | k + 1 => by
  have ih0:=bits_Len64.mono_l k
  ·intro y0 y1
   unfold bits_Len64.j0
   repeat' first
   | (with_reducible exact ih0 _ _)
   | (with_reducible exact LeO.refl _)
   | (with_reducible exact LeO.none _)
   | (with_reducible refine LeO.ite ?_ ?_)
   | (with_reducible refine LeO.bind ?_ (fun _ => ?_))
   | exact ih0 _ _
   | exact LeO.none _
   | refine LeO.ite ?_ ?_
   | refine LeO.bind ?_ (fun _ => ?_)
theorem bits_Len64.mono : ∀ a0 k,LeO (bits_Len64.f k a0) (bits_Len64.f (k + 1) a0):=by
 intro a0 k
 have ih0:=bits_Len64.mono_l k
 unfold bits_Len64.f
 repeat' first
   | (with_reducible exact ih0 _ _)
   | (with_reducible exact LeO.refl _)
   | (with_reducible exact LeO.none _)
   | (with_reducible refine LeO.ite ?_ ?_)
   | (with_reducible refine LeO.bind ?_ (fun _ => ?_))
   | exact ih0 _ _
   | exact LeO.none _
   | refine LeO.ite ?_ ?_
   | refine LeO.bind ?_ (fun _ => ?_)
set_option maxHeartbeats 8000000 in
set_option maxRecDepth 100000 in
theorem bits_Len64.calls (k : Nat) (a0 : Int) (r : Int) (w : World) (h : bits_Len64.f k a0 = some r) :
  Calls Tryd.prog 84 #[.int .u64 a0] w fun e w' => e = .returned (.int .i64 r) ∧ Drawn0 w w':=by
 have H : (if a0 ≥ 4294967296 then (bits_Len64.j0 k (a0 / 4294967296) 32) else (bits_Len64.j0 k a0 0)) = some r:=h
 clear h
 have HC2:=Aside0.mk H
 clear H
 go_enter Tryd.func84,Tryd.ntmps84
 go_upto_if 4 with (fail)
 go_cut [0,2] (fun v0 v2 wc => ∃ (kq : Nat) (x0_1 : Int) (x2_1 : Int),v0 = .int .u64 x0_1 ∧ v2 = .int .i64 x2_1 ∧ Aside0 (bits_Len64.j0 kq x0_1 x2_1 = some r) ∧ Aside0 (kq ≤ k) ∧ Drawn0 w wc)
 case first =>
  have H:=HC2.out
  clear HC2
  by_cases c3 : a0 ≥ 4294967296
  ·rw [if_pos c3] at H
   have c3b0 : decide (4294967296 ≤ a0) = true:=decide_eq_true c3
   clear c3
   (first | rw [c3b0] | (simp only [i64_w,i32_w];rw [c3b0]) | skip)
   have H':=Aside0.mk H
   clear H
   go_wp2
   go_meet
   case rel => exact ⟨_,(a0 / 4294967296),(32),(by first | rfl | (simp;done) | (simp [*];done)),(by first | rfl | (simp;done) | (simp [*];done)),H',⟨by first | omega | exact Nat.le_refl _⟩,by repeat (first | exact Drawn0.refl _ | apply Drawn0.step)⟩
  ·rw [if_neg c3] at H
   have c3b0 : decide (4294967296 ≤ a0) = false:=decide_eq_false c3
   clear c3
   (first | rw [c3b0] | (simp only [i64_w,i32_w];rw [c3b0]) | skip)
   have H':=Aside0.mk H
   clear H
   go_wp2
   go_meet
   case rel => exact ⟨_,(a0),(0),(by first | rfl | (simp;done) | (simp [*];done)),(by first | rfl | (simp;done) | (simp [*];done)),H',⟨by first | omega | exact Nat.le_refl _⟩,by repeat (first | exact Drawn0.refl _ | apply Drawn0.step)⟩
 case rest =>
  clear HC2
  try clear p2
  try clear c3
  try clear c3b0
  obtain ⟨kq,x0_1,x2_1,rfl,rfl,HA,HJ1,⟨mc1,rfl⟩⟩:=hcut
  cases kq with
  | zero => exact absurd HA.out (by simp [bits_Len64.j0])
  | succ kj1 =>
   have H:=HA.out
   clear HA
   simp only [bits_Len64.j0] at H
   by_cases c4 : x0_1 ≥ 65536
   ·rw [if_pos c4] at H
    have c4b0 : decide (65536 ≤ x0_1) = true:=decide_eq_true c4
    clear c4
    by_cases c5 : (x0_1 / 65536) ≥ 256
    ·rw [if_pos c5] at H
     have c5b0 : decide (256 ≤ (x0_1 / 65536)) = true:=decide_eq_true c5
     clear c5
     obtain ⟨ji6,hji6⟩ : ∃ j_ : Int,(((x0_1 / 65536) / 256) % 256) = j_:=⟨_,rfl⟩
     replace H : (if 0 ≤ (ji6) then (if (ji6) < 256 then (some (wrap64 ((wrap64 ((wrap64 (x2_1 + 16)) + 8)) + (wrap64 (bt (⟨#[0,1,2,2,3,3,3,3,4,4,4,4,4,4,4,4,5,5,5,5,5,5,5,5,5,5,5,5,5,5,5,5,6,6,6,6,6,6,6,6,6,6,6,6,6,6,6,6,6,6,6,6,6,6,6,6,6,6,6,6,6,6,6,6,7,7,7,7,7,7,7,7,7,7,7,7,7,7,7,7,7,7,7,7,7,7,7,7,7,7,7,7,7,7,7,7,7,7,7,7,7,7,7,7,7,7,7,7,7,7,7,7,7,7,7,7,7,7,7,7,7,7,7,7,7,7,7,7,8,8,8,8,8,8,8,8,8,8,8,8,8,8,8,8,8,8,8,8,8,8,8,8,8,8,8,8,8,8,8,8,8,8,8,8,8,8,8,8,8,8,8,8,8,8,8,8,8,8,8,8,8,8,8,8,8,8,8,8,8,8,8,8,8,8,8,8,8,8,8,8,8,8,8,8,8,8,8,8,8,8,8,8,8,8,8,8,8,8,8,8,8,8,8,8,8,8,8,8,8,8,8,8,8,8,8,8,8,8,8,8,8,8,8,8,8,8,8,8,8,8,8,8,8,8,8,8]⟩ : ByteArray) (ji6)))))) else (none)) else (none)) = some r:=by first | (rw [hji6] at H;exact H) | (simp only [hji6] at H ⊢;exact H)
     by_cases c7 : 0 ≤ (ji6)
     ·rw [if_pos c7] at H
      have c7b0 : decide (0 ≤ (ji6)) = true:=decide_eq_true c7
      clear c7
      by_cases c8 : (ji6) < 256
      ·rw [if_pos c8] at H
       have c8b0 : decide ((ji6) < 256) = true:=decide_eq_true c8
       clear c8
       obtain rfl:=Option.some.inj H
       have p9 : 0 ≤ ((ji6) : Int):=of_decide_eq_true (by first | (with_reducible assumption) | assumption)
       have q9 : (ji6) < (256 : Int):=of_decide_eq_true (by first | (with_reducible assumption) | assumption)
       have hx9:=bt_at (⟨#[0,1,2,2,3,3,3,3,4,4,4,4,4,4,4,4,5,5,5,5,5,5,5,5,5,5,5,5,5,5,5,5,6,6,6,6,6,6,6,6,6,6,6,6,6,6,6,6,6,6,6,6,6,6,6,6,6,6,6,6,6,6,6,6,7,7,7,7,7,7,7,7,7,7,7,7,7,7,7,7,7,7,7,7,7,7,7,7,7,7,7,7,7,7,7,7,7,7,7,7,7,7,7,7,7,7,7,7,7,7,7,7,7,7,7,7,7,7,7,7,7,7,7,7,7,7,7,7,8,8,8,8,8,8,8,8,8,8,8,8,8,8,8,8,8,8,8,8,8,8,8,8,8,8,8,8,8,8,8,8,8,8,8,8,8,8,8,8,8,8,8,8,8,8,8,8,8,8,8,8,8,8,8,8,8,8,8,8,8,8,8,8,8,8,8,8,8,8,8,8,8,8,8,8,8,8,8,8,8,8,8,8,8,8,8,8,8,8,8,8,8,8,8,8,8,8,8,8,8,8,8,8,8,8,8,8,8,8,8,8,8,8,8,8,8,8,8,8,8,8,8,8,8,8,8,8]⟩ : ByteArray) (ji6)
       replace p9:=eq_true p9
       replace q9:=eq_true q9
       go_wp2
       go_ret
       exact ⟨by first | rfl | (simp;done) | (simp only [← hji6] <;> (first | rfl | simp)) | (simp [*];done),by repeat (first | exact Drawn0.refl _ | apply Drawn0.step)⟩
      ·rw [if_neg c8] at H
       exact absurd H (by simp)
     ·rw [if_neg c7] at H
      exact absurd H (by simp)
    ·rw [if_neg c5] at H
     have c5b0 : decide (256 ≤ (x0_1 / 65536)) = false:=decide_eq_false c5
     clear c5
     obtain ⟨ji10,hji10⟩ : ∃ j_ : Int,((x0_1 / 65536) % 256) = j_:=⟨_,rfl⟩
     replace H : (if 0 ≤ (ji10) then (if (ji10) < 256 then (some (wrap64 ((wrap64 (x2_1 + 16)) + (wrap64 (bt (⟨#[0,1,2,2,3,3,3,3,4,4,4,4,4,4,4,4,5,5,5,5,5,5,5,5,5,5,5,5,5,5,5,5,6,6,6,6,6,6,6,6,6,6,6,6,6,6,6,6,6,6,6,6,6,6,6,6,6,6,6,6,6,6,6,6,7,7,7,7,7,7,7,7,7,7,7,7,7,7,7,7,7,7,7,7,7,7,7,7,7,7,7,7,7,7,7,7,7,7,7,7,7,7,7,7,7,7,7,7,7,7,7,7,7,7,7,7,7,7,7,7,7,7,7,7,7,7,7,7,8,8,8,8,8,8,8,8,8,8,8,8,8,8,8,8,8,8,8,8,8,8,8,8,8,8,8,8,8,8,8,8,8,8,8,8,8,8,8,8,8,8,8,8,8,8,8,8,8,8,8,8,8,8,8,8,8,8,8,8,8,8,8,8,8,8,8,8,8,8,8,8,8,8,8,8,8,8,8,8,8,8,8,8,8,8,8,8,8,8,8,8,8,8,8,8,8,8,8,8,8,8,8,8,8,8,8,8,8,8,8,8,8,8,8,8,8,8,8,8,8,8,8,8,8,8,8,8]⟩ : ByteArray) (ji10)))))) else (none)) else (none)) = some r:=by first | (rw [hji10] at H;exact H) | (simp only [hji10] at H ⊢;exact H)
     by_cases c11 : 0 ≤ (ji10)
     ·rw [if_pos c11] at H
      have c11b0 : decide (0 ≤ (ji10)) = true:=decide_eq_true c11
      clear c11
      by_cases c12 : (ji10) < 256
      ·rw [if_pos c12] at H
       have c12b0 : decide ((ji10) < 256) = true:=decide_eq_true c12
       clear c12
       obtain rfl:=Option.some.inj H
       have p13 : 0 ≤ ((ji10) : Int):=of_decide_eq_true (by first | (with_reducible assumption) | assumption)
       have q13 : (ji10) < (256 : Int):=of_decide_eq_true (by first | (with_reducible assumption) | assumption)
       have hx13:=bt_at (⟨#[0,1,2,2,3,3,3,3,4,4,4,4,4,4,4,4,5,5,5,5,5,5,5,5,5,5,5,5,5,5,5,5,6,6,6,6,6,6,6,6,6,6,6,6,6,6,6,6,6,6,6,6,6,6,6,6,6,6,6,6,6,6,6,6,7,7,7,7,7,7,7,7,7,7,7,7,7,7,7,7,7,7,7,7,7,7,7,7,7,7,7,7,7,7,7,7,7,7,7,7,7,7,7,7,7,7,7,7,7,7,7,7,7,7,7,7,7,7,7,7,7,7,7,7,7,7,7,7,8,8,8,8,8,8,8,8,8,8,8,8,8,8,8,8,8,8,8,8,8,8,8,8,8,8,8,8,8,8,8,8,8,8,8,8,8,8,8,8,8,8,8,8,8,8,8,8,8,8,8,8,8,8,8,8,8,8,8,8,8,8,8,8,8,8,8,8,8,8,8,8,8,8,8,8,8,8,8,8,8,8,8,8,8,8,8,8,8,8,8,8,8,8,8,8,8,8,8,8,8,8,8,8,8,8,8,8,8,8,8,8,8,8,8,8,8,8,8,8,8,8,8,8,8,8,8,8]⟩ : ByteArray) (ji10)
       replace p13:=eq_true p13
       replace q13:=eq_true q13
       go_wp2
       go_ret
       exact ⟨by first | rfl | (simp;done) | (simp only [← hji10] <;> (first | rfl | simp)) | (simp [*];done),by repeat (first | exact Drawn0.refl _ | apply Drawn0.step)⟩
      ·rw [if_neg c12] at H
       exact absurd H (by simp)
     ·rw [if_neg c11] at H
      exact absurd H (by simp)
   ·rw [if_neg c4] at H
    have c4b0 : decide (65536 ≤ x0_1) = false:=decide_eq_false c4
    clear c4
    by_cases c14 : x0_1 ≥ 256
    ·rw [if_pos c14] at H
     have c14b0 : decide (256 ≤ x0_1) = true:=decide_eq_true c14
     clear c14
     obtain ⟨ji15,hji15⟩ : ∃ j_ : Int,((x0_1 / 256) % 256) = j_:=⟨_,rfl⟩
     replace H : (if 0 ≤ (ji15) then (if (ji15) < 256 then (some (wrap64 ((wrap64 (x2_1 + 8)) + (wrap64 (bt (⟨#[0,1,2,2,3,3,3,3,4,4,4,4,4,4,4,4,5,5,5,5,5,5,5,5,5,5,5,5,5,5,5,5,6,6,6,6,6,6,6,6,6,6,6,6,6,6,6,6,6,6,6,6,6,6,6,6,6,6,6,6,6,6,6,6,7,7,7,7,7,7,7,7,7,7,7,7,7,7,7,7,7,7,7,7,7,7,7,7,7,7,7,7,7,7,7,7,7,7,7,7,7,7,7,7,7,7,7,7,7,7,7,7,7,7,7,7,7,7,7,7,7,7,7,7,7,7,7,7,8,8,8,8,8,8,8,8,8,8,8,8,8,8,8,8,8,8,8,8,8,8,8,8,8,8,8,8,8,8,8,8,8,8,8,8,8,8,8,8,8,8,8,8,8,8,8,8,8,8,8,8,8,8,8,8,8,8,8,8,8,8,8,8,8,8,8,8,8,8,8,8,8,8,8,8,8,8,8,8,8,8,8,8,8,8,8,8,8,8,8,8,8,8,8,8,8,8,8,8,8,8,8,8,8,8,8,8,8,8,8,8,8,8,8,8,8,8,8,8,8,8,8,8,8,8,8,8]⟩ : ByteArray) (ji15)))))) else (none)) else (none)) = some r:=by first | (rw [hji15] at H;exact H) | (simp only [hji15] at H ⊢;exact H)
     by_cases c16 : 0 ≤ (ji15)
     ·rw [if_pos c16] at H
      have c16b0 : decide (0 ≤ (ji15)) = true:=decide_eq_true c16
      clear c16
      by_cases c17 : (ji15) < 256
      ·rw [if_pos c17] at H
       have c17b0 : decide ((ji15) < 256) = true:=decide_eq_true c17
       clear c17
       obtain rfl:=Option.some.inj H
       have p18 : 0 ≤ ((ji15) : Int):=of_decide_eq_true (by first | (with_reducible assumption) | assumption)
       have q18 : (ji15) < (256 : Int):=of_decide_eq_true (by first | (with_reducible assumption) | assumption)
       have hx18:=bt_at (⟨#[0,1,2,2,3,3,3,3,4,4,4,4,4,4,4,4,5,5,5,5,5,5,5,5,5,5,5,5,5,5,5,5,6,6,6,6,6,6,6,6,6,6,6,6,6,6,6,6,6,6,6,6,6,6,6,6,6,6,6,6,6,6,6,6,7,7,7,7,7,7,7,7,7,7,7,7,7,7,7,7,7,7,7,7,7,7,7,7,7,7,7,7,7,7,7,7,7,7,7,7,7,7,7,7,7,7,7,7,7,7,7,7,7,7,7,7,7,7,7,7,7,7,7,7,7,7,7,7,8,8,8,8,8,8,8,8,8,8,8,8,8,8,8,8,8,8,8,8,8,8,8,8,8,8,8,8,8,8,8,8,8,8,8,8,8,8,8,8,8,8,8,8,8,8,8,8,8,8,8,8,8,8,8,8,8,8,8,8,8,8,8,8,8,8,8,8,8,8,8,8,8,8,8,8,8,8,8,8,8,8,8,8,8,8,8,8,8,8,8,8,8,8,8,8,8,8,8,8,8,8,8,8,8,8,8,8,8,8,8,8,8,8,8,8,8,8,8,8,8,8,8,8,8,8,8,8]⟩ : ByteArray) (ji15)
       replace p18:=eq_true p18
       replace q18:=eq_true q18
       go_wp2
       go_ret
       exact ⟨by first | rfl | (simp;done) | (simp only [← hji15] <;> (first | rfl | simp)) | (simp [*];done),by repeat (first | exact Drawn0.refl _ | apply Drawn0.step)⟩
      ·rw [if_neg c17] at H
       exact absurd H (by simp)
     ·rw [if_neg c16] at H
      exact absurd H (by simp)
    ·rw [if_neg c14] at H
     have c14b0 : decide (256 ≤ x0_1) = false:=decide_eq_false c14
     clear c14
     obtain ⟨ji19,hji19⟩ : ∃ j_ : Int,((x0_1) % 256) = j_:=⟨_,rfl⟩
     replace H : (if 0 ≤ (ji19) then (if (ji19) < 256 then (some (wrap64 (x2_1 + (wrap64 (bt (⟨#[0,1,2,2,3,3,3,3,4,4,4,4,4,4,4,4,5,5,5,5,5,5,5,5,5,5,5,5,5,5,5,5,6,6,6,6,6,6,6,6,6,6,6,6,6,6,6,6,6,6,6,6,6,6,6,6,6,6,6,6,6,6,6,6,7,7,7,7,7,7,7,7,7,7,7,7,7,7,7,7,7,7,7,7,7,7,7,7,7,7,7,7,7,7,7,7,7,7,7,7,7,7,7,7,7,7,7,7,7,7,7,7,7,7,7,7,7,7,7,7,7,7,7,7,7,7,7,7,8,8,8,8,8,8,8,8,8,8,8,8,8,8,8,8,8,8,8,8,8,8,8,8,8,8,8,8,8,8,8,8,8,8,8,8,8,8,8,8,8,8,8,8,8,8,8,8,8,8,8,8,8,8,8,8,8,8,8,8,8,8,8,8,8,8,8,8,8,8,8,8,8,8,8,8,8,8,8,8,8,8,8,8,8,8,8,8,8,8,8,8,8,8,8,8,8,8,8,8,8,8,8,8,8,8,8,8,8,8,8,8,8,8,8,8,8,8,8,8,8,8,8,8,8,8,8,8]⟩ : ByteArray) (ji19)))))) else (none)) else (none)) = some r:=by first | (rw [hji19] at H;exact H) | (simp only [hji19] at H ⊢;exact H)
     by_cases c20 : 0 ≤ (ji19)
     ·rw [if_pos c20] at H
      have c20b0 : decide (0 ≤ (ji19)) = true:=decide_eq_true c20
      clear c20
      by_cases c21 : (ji19) < 256
      ·rw [if_pos c21] at H
       have c21b0 : decide ((ji19) < 256) = true:=decide_eq_true c21
       clear c21
       obtain rfl:=Option.some.inj H
       have p22 : 0 ≤ ((ji19) : Int):=of_decide_eq_true (by first | (with_reducible assumption) | assumption)
       have q22 : (ji19) < (256 : Int):=of_decide_eq_true (by first | (with_reducible assumption) | assumption)
       have hx22:=bt_at (⟨#[0,1,2,2,3,3,3,3,4,4,4,4,4,4,4,4,5,5,5,5,5,5,5,5,5,5,5,5,5,5,5,5,6,6,6,6,6,6,6,6,6,6,6,6,6,6,6,6,6,6,6,6,6,6,6,6,6,6,6,6,6,6,6,6,7,7,7,7,7,7,7,7,7,7,7,7,7,7,7,7,7,7,7,7,7,7,7,7,7,7,7,7,7,7,7,7,7,7,7,7,7,7,7,7,7,7,7,7,7,7,7,7,7,7,7,7,7,7,7,7,7,7,7,7,7,7,7,7,8,8,8,8,8,8,8,8,8,8,8,8,8,8,8,8,8,8,8,8,8,8,8,8,8,8,8,8,8,8,8,8,8,8,8,8,8,8,8,8,8,8,8,8,8,8,8,8,8,8,8,8,8,8,8,8,8,8,8,8,8,8,8,8,8,8,8,8,8,8,8,8,8,8,8,8,8,8,8,8,8,8,8,8,8,8,8,8,8,8,8,8,8,8,8,8,8,8,8,8,8,8,8,8,8,8,8,8,8,8,8,8,8,8,8,8,8,8,8,8,8,8,8,8,8,8,8,8]⟩ : ByteArray) (ji19)
       replace p22:=eq_true p22
       replace q22:=eq_true q22
       go_wp2
       go_ret
       exact ⟨by first | rfl | (simp;done) | (simp only [← hji19] <;> (first | rfl | simp)) | (simp [*];done),by repeat (first | exact Drawn0.refl _ | apply Drawn0.step)⟩
      ·rw [if_neg c21] at H
       exact absurd H (by simp)
     ·rw [if_neg c20] at H
      exact absurd H (by simp)

def bits_LeadingZeros64.f (k : Nat) (a0 : Int) : Option (Int):=(bits_Len64.f k a0).bind fun t206 => (some (wrap64 (64 - t206)))
theorem bits_LeadingZeros64.mono : ∀ a0 k,LeO (bits_LeadingZeros64.f k a0) (bits_LeadingZeros64.f (k + 1) a0):=by
 intro a0 k
 unfold bits_LeadingZeros64.f
 repeat' first
   | (with_reducible exact bits_Len64.mono _ _)
   | (with_reducible exact LeO.refl _)
   | (with_reducible exact LeO.none _)
   | (with_reducible refine LeO.ite ?_ ?_)
   | (with_reducible refine LeO.bind ?_ (fun _ => ?_))
   | exact bits_Len64.mono _ _
   | exact LeO.none _
   | refine LeO.ite ?_ ?_
   | refine LeO.bind ?_ (fun _ => ?_)
set_option maxHeartbeats 8000000 in
set_option maxRecDepth 100000 in
theorem bits_LeadingZeros64.calls (k : Nat) (a0 : Int) (r : Int) (w : World) (h : bits_LeadingZeros64.f k a0 = some r) :
  Calls Tryd.prog 82 #[.int .u64 a0] w fun e w' => e = .returned (.int .i64 r) ∧ Drawn0 w w':=by
 have H : ((bits_Len64.f k a0).bind fun t206 => (some (wrap64 (64 - t206)))) = some r:=h
 clear h;replace H:=Option.bind_eq_some_iff.mp H;obtain ⟨t206,A20,H⟩:=H;replace H : (some (wrap64 (64 - t206))) = some r:=H;have A2:=Aside0.mk A20;clear A20
 obtain rfl:=Option.some.inj H
 go_enter Tryd.func82,Tryd.ntmps82
 go_wp2_with (first | ((with_reducible refine gate_callee (f:=84) rfl ?_);refine goesL_ (some 4) rfl rfl Tryd.func84 (by kernel_rfl) rfl #[.int .u64 a0] rfl aA ?_;(with_reducible refine (bits_Len64.calls k a0 t206 _ A2.out).mono ?_);rintro e w' ⟨rfl,⟨nd,rfl⟩⟩;refine ⟨_,rfl,?_⟩))
 go_ret
 exact ⟨by first | rfl | (simp;done) | (simp [*];done),by repeat (first | exact Drawn0.refl _ | apply Drawn0.step)⟩

end Go.Proofs.YtbhijfbjdbjpbaaDoor.GSH
