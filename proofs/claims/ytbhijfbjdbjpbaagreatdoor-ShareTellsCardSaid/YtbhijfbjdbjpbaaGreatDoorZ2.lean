/- The texts of this claim, put together by program, what it does not name left out: part 2. Conditions: each theorem's own. -/
import Derived.Test.YtbhijfbjdbjpbaaGreatDoorZ1
set_option maxHeartbeats 8000000
set_option maxRecDepth 100000
namespace Go.Proofs.YtbhijfbjdbjpbaaGreatDoor.GSH
open Go.RowKit Go.Proofs.YtbhijfbjdbjpbaaGreatDoorW.PrintWords Go.Proofs.YtbhijfbjdbjpbaaGreatDoorW.PrintLast Go.Proofs.YtbhijfbjdbjpbaaGreatDoorW.PrintMore
attribute [local go_sem] max2_int min2_int max_two min_two max_three min_three max_four min_four   -- for this text's walks alone
set_option linter.unusedVariables false
set_option linter.unusedSimpArgs false
def wide_Times.f (a0_0 : Int) (a0_1 : Int) (a1 : Int) : Option (Int × Int × Bool):=(wide_Mul.f a0_1 a1).bind fun bt144 => ((wide_Mul.f a0_0 a1).bind fun bt146 => (if bt146.1 > 0 then ((wide_greatest.f).bind fun bt150 => (some (bt150.1,bt150.2,false))) else ((wide_Add.f bt144.1 bt144.2 bt146.2 0).bind fun bt152 => (some (bt152.1,bt152.2.1,bt152.2.2)))))
def wide_Times.T1 : Bool × List (List Nat × List Nat):=(true,[([],[]),([0],[0]),([],[]),([1,2],[1,2]),([],[]),([4],[4]),([],[]),([5,6,3],[5,6]),([],[]),([],[]),([8,3,7,0,1,2,3,8,9],[3,8]),([9,7,10,0,1,2,3,4,5,6,7,8,9,10],[7,9])])
def wide_Times.B1 : List Nat:=[0,1,0,7,0,16,0,127,0,0,1023,2047]
theorem wide_Times.tab1 : rtab .any (opsOf Tryz.f77 1) = wide_Times.T1:=by kernel_rfl
theorem wide_Times.bits1 : waitsOk wide_Times.T1.2 wide_Times.B1 = true:=by kernel_rfl
theorem wide_Times.calls (a0_0 : Int) (a0_1 : Int) (a1 : Int) (r1 : Int) (r2 : Int) (r3 : Bool) (w : World) (h : wide_Times.f a0_0 a0_1 a1 = some (r1,r2,r3)) :
  Calls Tryz.prog 77 #[.agg #[.int .u64 a0_0,.int .u64 a0_1],.int .u64 a1] w fun e w' => e = .returned (.tuple #[.agg #[.int .u64 r1,.int .u64 r2],.bool r3]) ∧ Below w.heap.size w w':=by
 have hu76:=Tryz.underlying76
 have HB:=Am (Below.refl w.heap.size w)
 have H : ((wide_Mul.f a0_1 a1).bind fun bt144 => ((wide_Mul.f a0_0 a1).bind fun bt146 => (if bt146.1 > 0 then ((wide_greatest.f).bind fun bt150 => (some (bt150.1,bt150.2,false))) else ((wide_Add.f bt144.1 bt144.2 bt146.2 0).bind fun bt152 => (some (bt152.1,bt152.2.1,bt152.2.2)))))) = some (r1,r2,r3):=h
 clear h;obtain ⟨⟨t144,t145⟩,A3,H⟩:=bnd H;(try dsimp only at H);obtain ⟨⟨t146,t147⟩,A4,H⟩:=bnd H;(try dsimp only at H)
 go_enter Tryz.func77,Tryz.ntmps77
 try go_wp2_with (first | ((with_reducible refine gate_dst (N:=2) rfl ?_);refine bxA 2 #[.int .u64 a0_0,.int .u64 a0_1] 76 ?_;intro gb142 hg w7 hbox hb;have BK142:=Am (hbox);have GW142:=Am (gwA hg bA);have GE142:=Am (gwA hg bA);replace HB:=Am (below_step bA hb);clear hb hbox hg) | ((with_reducible refine gate_dst (N:=4) rfl ?_);refine bxA 4 #[.int .u64 0,.int .u64 0] 76 ?_;intro gb143 hg w8 hbox hb;have BK143:=Am (hbox);have GW143:=Am (gwA hg bA);have GE143:=Am (gwA hg bA);have NB142_143:=Am (neA (g:=gb142) hg kA);have NB143_142:=Am (neB (g:=gb142) hg kA);replace BK142:=Am (blk_below (g:=gb142) kA hb);replace HB:=Am (below_step bA hb);clear hb hbox hg))
 replace BK142:=Am (blk_drew BK142.out);replace BK143:=Am (blk_drew BK143.out);replace HB:=Am (below_drew1 HB.out)
 refine start_ (n:=12) (S:=fun w' => w'.cell? ⟨gb142,0,none⟩ = some (.int .u64 a0_0) ∧ w'.cell? ⟨gb142,1,none⟩ = some (.int .u64 a0_1)) (ds:=[]) #[nn,nn,nn,nn,nn,nn,nn,nn,nn,nn,nn,nn] (by kernel_rfl) rfl rfl (q2 BK142.out) (fun hHeld => ?_);refine with_tabW wide_Times.tab1 wide_Times.bits1 (fun HT_ HW_ => ?_)
 generalize w8.drew = w9 at BK142 BK143 HB hHeld ⊢
 refine pu_ 0 (some 8) #[yy,nn,nn,nn,nn,nn,nn,nn,nn,nn,nn,nn] (any_of HT_.out (by kernel_rfl)) ?_
 refine pu_ 2 (some 10) #[yy,nn,yy,nn,nn,nn,nn,nn,nn,nn,nn,nn] (any_of HT_.out (by kernel_rfl)) ?_
 refine pu_ 4 (some 12) #[yy,nn,yy,nn,yy,nn,nn,nn,nn,nn,nn,nn] (any_of HT_.out (by kernel_rfl)) ?_
 refine pu_ 6 (some 14) #[yy,nn,yy,nn,yy,nn,yy,nn,nn,nn,nn,nn] (any_of HT_.out (by kernel_rfl)) ?_
 refine tk_ 1 (some 9) #[yy,yy,yy,nn,yy,nn,yy,nn,nn,nn,nn,nn] (take_ofW HT_.out HW_.out (by kernel_rfl)) hHeld ?_
 refine tk_ 5 (some 13) #[yy,yy,yy,nn,yy,yy,yy,nn,nn,nn,nn,nn] (take_ofW HT_.out HW_.out (by kernel_rfl)) hHeld ?_
 refine join_ (σ:=Nat × Nat) 2 #[yy,yy,yy,yy,yy,yy,yy,yy,yy,yy,nn,nn] (fun s_ => [(11,.agg #[.int .u64 t144,.int .u64 t145]),(15,.agg #[.int .u64 t146,.int .u64 t147]),(6,.pointer (some ⟨s_.1,0,none⟩)),(7,.pointer (some ⟨s_.2,0,none⟩))]) (fun s_ w' => (w'.cell? ⟨gb142,0,none⟩ = some (.int .u64 a0_0) ∧ w'.cell? ⟨gb142,1,none⟩ = some (.int .u64 a0_1)) ∧ (w'.heap[gb142]? = some (.cells #[.int .u64 a0_0,.int .u64 a0_1] 76 (0,0))) ∧ (w'.heap[gb143]? = some (.cells #[.int .u64 0,.int .u64 0] 76 (0,0))) ∧ (w'.heap[s_.1]? = some (.cells #[.int .u64 0,.int .u64 0] 76 (0,0))) ∧ (w'.heap[s_.2]? = some (.cells #[.int .u64 0,.int .u64 0] 76 (0,0))) ∧ (w.heap.size ≤ s_.1) ∧ (w.heap.size ≤ s_.1) ∧ (gb142 ≠ s_.1) ∧ (s_.1 ≠ gb142) ∧ (gb143 ≠ s_.1) ∧ (s_.1 ≠ gb143) ∧ (s_.2 ≠ s_.1) ∧ (s_.1 ≠ s_.2) ∧ (w.heap.size ≤ s_.2) ∧ (w.heap.size ≤ s_.2) ∧ (gb142 ≠ s_.2) ∧ (s_.2 ≠ gb142) ∧ (gb143 ≠ s_.2) ∧ (s_.2 ≠ gb143) ∧ (Below w.heap.size w w')) ?_ ?_
 rotate_left
 ·intro hJ3_7_8_9
  refine join_ (σ:=Nat) 3 #[yy,yy,yy,yy,yy,yy,yy,yy,yy,nn,nn,nn] (fun s_ => [(11,.agg #[.int .u64 t144,.int .u64 t145]),(15,.agg #[.int .u64 t146,.int .u64 t147]),(6,.pointer (some ⟨s_,0,none⟩))]) (fun s_ w' => (w'.cell? ⟨gb142,0,none⟩ = some (.int .u64 a0_0) ∧ w'.cell? ⟨gb142,1,none⟩ = some (.int .u64 a0_1)) ∧ (w'.heap[gb142]? = some (.cells #[.int .u64 a0_0,.int .u64 a0_1] 76 (0,0))) ∧ (w'.heap[gb143]? = some (.cells #[.int .u64 0,.int .u64 0] 76 (0,0))) ∧ (w'.heap[s_]? = some (.cells #[.int .u64 0,.int .u64 0] 76 (0,0))) ∧ (w.heap.size ≤ s_) ∧ (w.heap.size ≤ s_) ∧ (gb142 ≠ s_) ∧ (s_ ≠ gb142) ∧ (gb143 ≠ s_) ∧ (s_ ≠ gb143) ∧ (Below w.heap.size w w')) ?_ ?_
  rotate_left
  ·intro hJ3_7_8
   refine join_ (σ:=Nat) 3 #[yy,yy,yy,yy,yy,yy,yy,yy,nn,yy,nn,nn] (fun s_ => [(11,.agg #[.int .u64 t144,.int .u64 t145]),(15,.agg #[.int .u64 t146,.int .u64 t147]),(7,.pointer (some ⟨s_,0,none⟩))]) (fun s_ w' => (w'.cell? ⟨gb142,0,none⟩ = some (.int .u64 a0_0) ∧ w'.cell? ⟨gb142,1,none⟩ = some (.int .u64 a0_1)) ∧ (w'.heap[gb142]? = some (.cells #[.int .u64 a0_0,.int .u64 a0_1] 76 (0,0))) ∧ (w'.heap[gb143]? = some (.cells #[.int .u64 0,.int .u64 0] 76 (0,0))) ∧ (w'.heap[s_]? = some (.cells #[.int .u64 0,.int .u64 0] 76 (0,0))) ∧ (w.heap.size ≤ s_) ∧ (w.heap.size ≤ s_) ∧ (gb142 ≠ s_) ∧ (s_ ≠ gb142) ∧ (gb143 ≠ s_) ∧ (s_ ≠ gb143) ∧ (Below w.heap.size w w')) ?_ ?_
   rotate_left
   ·intro hJ3_7_9
    refine join_ (σ:=Nat × Nat) 3 #[yy,yy,yy,yy,yy,yy,yy,nn,yy,yy,nn,nn] (fun s_ => [(11,.agg #[.int .u64 t144,.int .u64 t145]),(6,.pointer (some ⟨s_.1,0,none⟩)),(7,.pointer (some ⟨s_.2,0,none⟩))]) (fun s_ w' => (w'.cell? ⟨gb142,0,none⟩ = some (.int .u64 a0_0) ∧ w'.cell? ⟨gb142,1,none⟩ = some (.int .u64 a0_1)) ∧ (w'.heap[gb142]? = some (.cells #[.int .u64 a0_0,.int .u64 a0_1] 76 (0,0))) ∧ (w'.heap[gb143]? = some (.cells #[.int .u64 0,.int .u64 0] 76 (0,0))) ∧ (w'.heap[s_.1]? = some (.cells #[.int .u64 0,.int .u64 0] 76 (0,0))) ∧ (w'.heap[s_.2]? = some (.cells #[.int .u64 0,.int .u64 0] 76 (0,0))) ∧ (w.heap.size ≤ s_.1) ∧ (w.heap.size ≤ s_.1) ∧ (gb142 ≠ s_.1) ∧ (s_.1 ≠ gb142) ∧ (gb143 ≠ s_.1) ∧ (s_.1 ≠ gb143) ∧ (s_.2 ≠ s_.1) ∧ (s_.1 ≠ s_.2) ∧ (w.heap.size ≤ s_.2) ∧ (w.heap.size ≤ s_.2) ∧ (gb142 ≠ s_.2) ∧ (s_.2 ≠ gb142) ∧ (gb143 ≠ s_.2) ∧ (s_.2 ≠ gb143) ∧ (Below w.heap.size w w')) ?_ ?_
    rotate_left
    ·intro hJ3_8_9
     refine join_ (σ:=Unit) 4 #[yy,yy,yy,yy,yy,yy,yy,yy,nn,nn,nn,nn] (fun s_ => [(11,.agg #[.int .u64 t144,.int .u64 t145]),(15,.agg #[.int .u64 t146,.int .u64 t147])]) (fun s_ w' => (w'.cell? ⟨gb142,0,none⟩ = some (.int .u64 a0_0) ∧ w'.cell? ⟨gb142,1,none⟩ = some (.int .u64 a0_1)) ∧ (w'.heap[gb142]? = some (.cells #[.int .u64 a0_0,.int .u64 a0_1] 76 (0,0))) ∧ (w'.heap[gb143]? = some (.cells #[.int .u64 0,.int .u64 0] 76 (0,0))) ∧ (Below w.heap.size w w')) ?_ ?_
     rotate_left
     ·intro hJ3_7
      refine join_ (σ:=Nat) 4 #[yy,yy,yy,yy,yy,yy,yy,nn,yy,nn,nn,nn] (fun s_ => [(11,.agg #[.int .u64 t144,.int .u64 t145]),(6,.pointer (some ⟨s_,0,none⟩))]) (fun s_ w' => (w'.cell? ⟨gb142,0,none⟩ = some (.int .u64 a0_0) ∧ w'.cell? ⟨gb142,1,none⟩ = some (.int .u64 a0_1)) ∧ (w'.heap[gb142]? = some (.cells #[.int .u64 a0_0,.int .u64 a0_1] 76 (0,0))) ∧ (w'.heap[gb143]? = some (.cells #[.int .u64 0,.int .u64 0] 76 (0,0))) ∧ (w'.heap[s_]? = some (.cells #[.int .u64 0,.int .u64 0] 76 (0,0))) ∧ (w.heap.size ≤ s_) ∧ (w.heap.size ≤ s_) ∧ (gb142 ≠ s_) ∧ (s_ ≠ gb142) ∧ (gb143 ≠ s_) ∧ (s_ ≠ gb143) ∧ (Below w.heap.size w w')) ?_ ?_
      rotate_left
      ·intro hJ3_8
       refine join_ (σ:=Nat) 4 #[yy,yy,yy,yy,yy,yy,yy,nn,nn,yy,nn,nn] (fun s_ => [(11,.agg #[.int .u64 t144,.int .u64 t145]),(7,.pointer (some ⟨s_,0,none⟩))]) (fun s_ w' => (w'.cell? ⟨gb142,0,none⟩ = some (.int .u64 a0_0) ∧ w'.cell? ⟨gb142,1,none⟩ = some (.int .u64 a0_1)) ∧ (w'.heap[gb142]? = some (.cells #[.int .u64 a0_0,.int .u64 a0_1] 76 (0,0))) ∧ (w'.heap[gb143]? = some (.cells #[.int .u64 0,.int .u64 0] 76 (0,0))) ∧ (w'.heap[s_]? = some (.cells #[.int .u64 0,.int .u64 0] 76 (0,0))) ∧ (w.heap.size ≤ s_) ∧ (w.heap.size ≤ s_) ∧ (gb142 ≠ s_) ∧ (s_ ≠ gb142) ∧ (gb143 ≠ s_) ∧ (s_ ≠ gb143) ∧ (Below w.heap.size w w')) ?_ ?_
       rotate_left
       ·intro hJ3_9
        refine join_ (σ:=Nat × Nat) 4 #[yy,yy,yy,nn,yy,yy,yy,nn,yy,yy,nn,nn] (fun s_ => [(6,.pointer (some ⟨s_.1,0,none⟩)),(7,.pointer (some ⟨s_.2,0,none⟩))]) (fun s_ w' => (w'.cell? ⟨gb142,0,none⟩ = some (.int .u64 a0_0) ∧ w'.cell? ⟨gb142,1,none⟩ = some (.int .u64 a0_1)) ∧ (w'.heap[gb142]? = some (.cells #[.int .u64 a0_0,.int .u64 a0_1] 76 (0,0))) ∧ (w'.heap[gb143]? = some (.cells #[.int .u64 0,.int .u64 0] 76 (0,0))) ∧ (w'.heap[s_.1]? = some (.cells #[.int .u64 0,.int .u64 0] 76 (0,0))) ∧ (w'.heap[s_.2]? = some (.cells #[.int .u64 0,.int .u64 0] 76 (0,0))) ∧ (w.heap.size ≤ s_.1) ∧ (w.heap.size ≤ s_.1) ∧ (gb142 ≠ s_.1) ∧ (s_.1 ≠ gb142) ∧ (gb143 ≠ s_.1) ∧ (s_.1 ≠ gb143) ∧ (s_.2 ≠ s_.1) ∧ (s_.1 ≠ s_.2) ∧ (w.heap.size ≤ s_.2) ∧ (w.heap.size ≤ s_.2) ∧ (gb142 ≠ s_.2) ∧ (s_.2 ≠ gb142) ∧ (gb143 ≠ s_.2) ∧ (s_.2 ≠ gb143) ∧ (Below w.heap.size w w')) ?_ ?_
        rotate_left
        ·intro hJ8_9
         refine join_ (σ:=Unit) 5 #[yy,yy,yy,yy,yy,yy,yy,nn,nn,nn,nn,nn] (fun s_ => [(11,.agg #[.int .u64 t144,.int .u64 t145])]) (fun s_ w' => (w'.cell? ⟨gb142,0,none⟩ = some (.int .u64 a0_0) ∧ w'.cell? ⟨gb142,1,none⟩ = some (.int .u64 a0_1)) ∧ (w'.heap[gb142]? = some (.cells #[.int .u64 a0_0,.int .u64 a0_1] 76 (0,0))) ∧ (w'.heap[gb143]? = some (.cells #[.int .u64 0,.int .u64 0] 76 (0,0))) ∧ (Below w.heap.size w w')) ?_ ?_
         rotate_left
         ·intro hJ3
          refine join_ (σ:=Nat) 5 #[yy,yy,yy,nn,yy,yy,yy,nn,yy,nn,nn,nn] (fun s_ => [(6,.pointer (some ⟨s_,0,none⟩))]) (fun s_ w' => (w'.cell? ⟨gb142,0,none⟩ = some (.int .u64 a0_0) ∧ w'.cell? ⟨gb142,1,none⟩ = some (.int .u64 a0_1)) ∧ (w'.heap[gb142]? = some (.cells #[.int .u64 a0_0,.int .u64 a0_1] 76 (0,0))) ∧ (w'.heap[gb143]? = some (.cells #[.int .u64 0,.int .u64 0] 76 (0,0))) ∧ (w'.heap[s_]? = some (.cells #[.int .u64 0,.int .u64 0] 76 (0,0))) ∧ (w.heap.size ≤ s_) ∧ (w.heap.size ≤ s_) ∧ (gb142 ≠ s_) ∧ (s_ ≠ gb142) ∧ (gb143 ≠ s_) ∧ (s_ ≠ gb143) ∧ (Below w.heap.size w w')) ?_ ?_
          rotate_left
          ·intro hJ8
           refine join_ (σ:=Nat) 5 #[yy,yy,yy,nn,yy,yy,yy,nn,nn,yy,nn,nn] (fun s_ => [(7,.pointer (some ⟨s_,0,none⟩))]) (fun s_ w' => (w'.cell? ⟨gb142,0,none⟩ = some (.int .u64 a0_0) ∧ w'.cell? ⟨gb142,1,none⟩ = some (.int .u64 a0_1)) ∧ (w'.heap[gb142]? = some (.cells #[.int .u64 a0_0,.int .u64 a0_1] 76 (0,0))) ∧ (w'.heap[gb143]? = some (.cells #[.int .u64 0,.int .u64 0] 76 (0,0))) ∧ (w'.heap[s_]? = some (.cells #[.int .u64 0,.int .u64 0] 76 (0,0))) ∧ (w.heap.size ≤ s_) ∧ (w.heap.size ≤ s_) ∧ (gb142 ≠ s_) ∧ (s_ ≠ gb142) ∧ (gb143 ≠ s_) ∧ (s_ ≠ gb143) ∧ (Below w.heap.size w w')) ?_ ?_
           rotate_left
           ·intro hJ9
            refine three_ (i:=3) (j:=8) (k:=9) (Ni:=some 11) (Nj:=some 6) (Nk:=some 7) #[yy,yy,yy,yy,yy,yy,yy,nn,nn,nn,nn,nn] #[yy,yy,yy,nn,yy,yy,yy,nn,yy,nn,nn,nn] #[yy,yy,yy,nn,yy,yy,yy,nn,nn,yy,nn,nn] rfl rfl rfl rfl rfl rfl (three_of HT_.out (by kernel_rfl)) (by decide) (by decide) (by decide) (fun K hK => ?_) (fun K hK => ?_) (fun K hK => ?_)
            ·skip
             refine goes_ Tryz.func46 (by kernel_rfl) rfl #[.int .u64 a0_1,.int .u64 a1] (by rfl) rfl rfl aA ?_
             with_reducible refine (wide_Mul.calls a0_1 a1 t144 t145 _ A3.out).mono ?_
             rintro e w10 ⟨rfl,hb⟩
             refine ⟨_,rfl,?_⟩;replace BK142:=Am (blk_below (g:=gb142) kA hb);replace BK143:=Am (blk_below (g:=gb143) kA hb);replace HB:=Am (below_step bA hb);(try clear hb)
             refine hK.out _ _ (q2 BK142.out) (fun hHeld => ?_)
             clear hK K
             refine nm_ ?_
             exact nj_ (hJ3 () _ ⟨hHeld,kA,kA,bA⟩)
            ·skip
             refine box_step ?hg (N:=6) ?hd (cs:=#[.int .u64 0,.int .u64 0]) (t:=76) ?hr ?_;(case hd => rfl);(case hg => rfl);(case hr => first | (go_simp;done) | (go_simp;rfl))
             intro gb148 hg w10 hbox hb
             have BK148:=Am (hbox);have GW148:=Am (gwA hg bA);have GE148:=Am (gwA hg bA);have NB142_148:=Am (neA (g:=gb142) hg kA);have NB148_142:=Am (neB (g:=gb142) hg kA);have NB143_148:=Am (neA (g:=gb143) hg kA);have NB148_143:=Am (neB (g:=gb143) hg kA);replace BK142:=Am (blk_below (g:=gb142) kA hb);replace BK143:=Am (blk_below (g:=gb143) kA hb);replace HB:=Am (below_step bA hb);clear hb hbox hg
             refine hK.out _ _ (q2 BK142.out) (fun hHeld => ?_)
             clear hK K
             refine nm_ ?_
             exact nj_ (hJ8 (gb148) _ ⟨hHeld,kA,kA,kA,GW148.out,GE148.out,NB142_148.out,NB148_142.out,NB143_148.out,NB148_143.out,bA⟩)
            ·skip
             refine box_step ?hg (N:=7) ?hd (cs:=#[.int .u64 0,.int .u64 0]) (t:=76) ?hr ?_;(case hd => rfl);(case hg => rfl);(case hr => first | (go_simp;done) | (go_simp;rfl))
             intro gb149 hg w10 hbox hb
             have BK149:=Am (hbox);have GW149:=Am (gwA hg bA);have GE149:=Am (gwA hg bA);have NB142_149:=Am (neA (g:=gb142) hg kA);have NB149_142:=Am (neB (g:=gb142) hg kA);have NB143_149:=Am (neA (g:=gb143) hg kA);have NB149_143:=Am (neB (g:=gb143) hg kA);replace BK142:=Am (blk_below (g:=gb142) kA hb);replace BK143:=Am (blk_below (g:=gb143) kA hb);replace HB:=Am (below_step bA hb);clear hb hbox hg
             refine hK.out _ _ (q2 BK142.out) (fun hHeld => ?_)
             clear hK K
             refine nm_ ?_
             exact nj_ (hJ9 (gb149) _ ⟨hHeld,kA,kA,kA,GW149.out,GE149.out,NB142_149.out,NB149_142.out,NB143_149.out,NB149_143.out,bA⟩)
           ·skip
            rintro gb149 w11 ⟨hS_,h0_,h1_,h2_,h3_,h4_,h5_,h6_,h7_,h8_,h9_⟩
            replace BK142:=Am h0_;replace BK143:=Am h1_;have BK149:=Am h2_;have GW149:=Am h3_;have GE149:=Am h4_;have NB142_149:=Am h5_;have NB149_142:=Am h6_;have NB143_149:=Am h7_;have NB149_143:=Am h8_;replace HB:=Am h9_;clear h0_ h1_ h2_ h3_ h4_ h5_ h6_ h7_ h8_ h9_;have hHeld:=hS_
            refine norm_ (a':=?_) ?_ ?_
            rotate_left
            ·simp only [putAll,Act.put,List.setIfInBounds_toArray,List.set_cons_zero,List.set_cons_succ]
             rfl
            refine two_ (i:=3) (j:=8) (Ni:=some 11) (Nj:=some 6) #[yy,yy,yy,yy,yy,yy,yy,nn,nn,yy,nn,nn] #[yy,yy,yy,nn,yy,yy,yy,nn,yy,yy,nn,nn] rfl rfl rfl rfl (two_of HT_.out (by kernel_rfl)) (by decide) (by decide) (fun K hK => ?_) (fun K hK => ?_)
            ·skip
             refine goes_ Tryz.func46 (by kernel_rfl) rfl #[.int .u64 a0_1,.int .u64 a1] (by rfl) rfl rfl aA ?_
             with_reducible refine (wide_Mul.calls a0_1 a1 t144 t145 _ A3.out).mono ?_
             rintro e w12 ⟨rfl,hb⟩
             refine ⟨_,rfl,?_⟩;replace BK142:=Am (blk_below (g:=gb142) kA hb);replace BK143:=Am (blk_below (g:=gb143) kA hb);replace BK149:=Am (blk_below (g:=gb149) kA hb);replace HB:=Am (below_step bA hb);(try clear hb)
             refine hK.out _ _ (q2 BK142.out) (fun hHeld => ?_)
             clear hK K
             refine nm_ ?_
             exact nj_ (hJ3_9 (gb149) _ ⟨hHeld,kA,kA,kA,GW149.out,GE149.out,NB142_149.out,NB149_142.out,NB143_149.out,NB149_143.out,bA⟩)
            ·skip
             refine box_step ?hg (N:=6) ?hd (cs:=#[.int .u64 0,.int .u64 0]) (t:=76) ?hr ?_;(case hd => rfl);(case hg => rfl);(case hr => first | (go_simp;done) | (go_simp;rfl))
             intro gb148 hg w12 hbox hb
             have BK148:=Am (hbox);have GW148:=Am (gwA hg bA);have GE148:=Am (gwA hg bA);have NB142_148:=Am (neA (g:=gb142) hg kA);have NB148_142:=Am (neB (g:=gb142) hg kA);have NB143_148:=Am (neA (g:=gb143) hg kA);have NB148_143:=Am (neB (g:=gb143) hg kA);have NB149_148:=Am (neA (g:=gb149) hg kA);have NB148_149:=Am (neB (g:=gb149) hg kA);replace BK142:=Am (blk_below (g:=gb142) kA hb);replace BK143:=Am (blk_below (g:=gb143) kA hb);replace BK149:=Am (blk_below (g:=gb149) kA hb);replace HB:=Am (below_step bA hb);clear hb hbox hg
             refine hK.out _ _ (q2 BK142.out) (fun hHeld => ?_)
             clear hK K
             refine nm_ ?_
             exact nj_ (hJ8_9 (gb148,gb149) _ ⟨hHeld,kA,kA,kA,kA,GW148.out,GE148.out,NB142_148.out,NB148_142.out,NB143_148.out,NB148_143.out,NB149_148.out,NB148_149.out,GW149.out,GE149.out,NB142_149.out,NB149_142.out,NB143_149.out,NB149_143.out,bA⟩)
          ·skip
           rintro gb148 w11 ⟨hS_,h0_,h1_,h2_,h3_,h4_,h5_,h6_,h7_,h8_,h9_⟩
           replace BK142:=Am h0_;replace BK143:=Am h1_;have BK148:=Am h2_;have GW148:=Am h3_;have GE148:=Am h4_;have NB142_148:=Am h5_;have NB148_142:=Am h6_;have NB143_148:=Am h7_;have NB148_143:=Am h8_;replace HB:=Am h9_;clear h0_ h1_ h2_ h3_ h4_ h5_ h6_ h7_ h8_ h9_;have hHeld:=hS_
           refine norm_ (a':=?_) ?_ ?_
           rotate_left
           ·simp only [putAll,Act.put,List.setIfInBounds_toArray,List.set_cons_zero,List.set_cons_succ]
            rfl
           refine two_ (i:=3) (j:=9) (Ni:=some 11) (Nj:=some 7) #[yy,yy,yy,yy,yy,yy,yy,nn,yy,nn,nn,nn] #[yy,yy,yy,nn,yy,yy,yy,nn,yy,yy,nn,nn] rfl rfl rfl rfl (two_of HT_.out (by kernel_rfl)) (by decide) (by decide) (fun K hK => ?_) (fun K hK => ?_)
           ·skip
            refine goes_ Tryz.func46 (by kernel_rfl) rfl #[.int .u64 a0_1,.int .u64 a1] (by rfl) rfl rfl aA ?_
            with_reducible refine (wide_Mul.calls a0_1 a1 t144 t145 _ A3.out).mono ?_
            rintro e w12 ⟨rfl,hb⟩
            refine ⟨_,rfl,?_⟩;replace BK142:=Am (blk_below (g:=gb142) kA hb);replace BK143:=Am (blk_below (g:=gb143) kA hb);replace BK148:=Am (blk_below (g:=gb148) kA hb);replace HB:=Am (below_step bA hb);(try clear hb)
            refine hK.out _ _ (q2 BK142.out) (fun hHeld => ?_)
            clear hK K
            refine nm_ ?_
            exact nj_ (hJ3_8 (gb148) _ ⟨hHeld,kA,kA,kA,GW148.out,GE148.out,NB142_148.out,NB148_142.out,NB143_148.out,NB148_143.out,bA⟩)
           ·skip
            refine box_step ?hg (N:=7) ?hd (cs:=#[.int .u64 0,.int .u64 0]) (t:=76) ?hr ?_;(case hd => rfl);(case hg => rfl);(case hr => first | (go_simp;done) | (go_simp;rfl))
            intro gb149 hg w12 hbox hb
            have BK149:=Am (hbox);have GW149:=Am (gwA hg bA);have GE149:=Am (gwA hg bA);have NB142_149:=Am (neA (g:=gb142) hg kA);have NB149_142:=Am (neB (g:=gb142) hg kA);have NB143_149:=Am (neA (g:=gb143) hg kA);have NB149_143:=Am (neB (g:=gb143) hg kA);have NB148_149:=Am (neA (g:=gb148) hg kA);have NB149_148:=Am (neB (g:=gb148) hg kA);replace BK142:=Am (blk_below (g:=gb142) kA hb);replace BK143:=Am (blk_below (g:=gb143) kA hb);replace BK148:=Am (blk_below (g:=gb148) kA hb);replace HB:=Am (below_step bA hb);clear hb hbox hg
            refine hK.out _ _ (q2 BK142.out) (fun hHeld => ?_)
            clear hK K
            refine nm_ ?_
            exact nj_ (hJ8_9 (gb148,gb149) _ ⟨hHeld,kA,kA,kA,kA,GW148.out,GE148.out,NB142_148.out,NB148_142.out,NB143_148.out,NB148_143.out,NB149_148.out,NB148_149.out,GW149.out,GE149.out,NB142_149.out,NB149_142.out,NB143_149.out,NB149_143.out,bA⟩)
         ·skip
          rintro _ w11 ⟨hS_,h0_,h1_,h2_⟩
          replace BK142:=Am h0_;replace BK143:=Am h1_;replace HB:=Am h2_;clear h0_ h1_ h2_;have hHeld:=hS_
          refine norm_ (a':=?_) ?_ ?_
          rotate_left
          ·simp only [putAll,Act.put,List.setIfInBounds_toArray,List.set_cons_zero,List.set_cons_succ]
           rfl
          refine three_ (i:=7) (j:=8) (k:=9) (Ni:=some 15) (Nj:=some 6) (Nk:=some 7) #[yy,yy,yy,yy,yy,yy,yy,yy,nn,nn,nn,nn] #[yy,yy,yy,yy,yy,yy,yy,nn,yy,nn,nn,nn] #[yy,yy,yy,yy,yy,yy,yy,nn,nn,yy,nn,nn] rfl rfl rfl rfl rfl rfl (three_of HT_.out (by kernel_rfl)) (by decide) (by decide) (by decide) (fun K hK => ?_) (fun K hK => ?_) (fun K hK => ?_)
          ·skip
           refine goes_ Tryz.func46 (by kernel_rfl) rfl #[.int .u64 a0_0,.int .u64 a1] (by rfl) rfl rfl aA ?_
           with_reducible refine (wide_Mul.calls a0_0 a1 t146 t147 _ A4.out).mono ?_
           rintro e w12 ⟨rfl,hb⟩
           refine ⟨_,rfl,?_⟩;replace BK142:=Am (blk_below (g:=gb142) kA hb);replace BK143:=Am (blk_below (g:=gb143) kA hb);replace HB:=Am (below_step bA hb);(try clear hb)
           refine hK.out _ _ (q2 BK142.out) (fun hHeld => ?_)
           clear hK K
           refine nm_ ?_
           exact nj_ (hJ3_7 () _ ⟨hHeld,kA,kA,bA⟩)
          ·skip
           refine box_step ?hg (N:=6) ?hd (cs:=#[.int .u64 0,.int .u64 0]) (t:=76) ?hr ?_;(case hd => rfl);(case hg => rfl);(case hr => first | (go_simp;done) | (go_simp;rfl))
           intro gb148 hg w12 hbox hb
           have BK148:=Am (hbox);have GW148:=Am (gwA hg bA);have GE148:=Am (gwA hg bA);have NB142_148:=Am (neA (g:=gb142) hg kA);have NB148_142:=Am (neB (g:=gb142) hg kA);have NB143_148:=Am (neA (g:=gb143) hg kA);have NB148_143:=Am (neB (g:=gb143) hg kA);replace BK142:=Am (blk_below (g:=gb142) kA hb);replace BK143:=Am (blk_below (g:=gb143) kA hb);replace HB:=Am (below_step bA hb);clear hb hbox hg
           refine hK.out _ _ (q2 BK142.out) (fun hHeld => ?_)
           clear hK K
           refine nm_ ?_
           exact nj_ (hJ3_8 (gb148) _ ⟨hHeld,kA,kA,kA,GW148.out,GE148.out,NB142_148.out,NB148_142.out,NB143_148.out,NB148_143.out,bA⟩)
          ·skip
           refine box_step ?hg (N:=7) ?hd (cs:=#[.int .u64 0,.int .u64 0]) (t:=76) ?hr ?_;(case hd => rfl);(case hg => rfl);(case hr => first | (go_simp;done) | (go_simp;rfl))
           intro gb149 hg w12 hbox hb
           have BK149:=Am (hbox);have GW149:=Am (gwA hg bA);have GE149:=Am (gwA hg bA);have NB142_149:=Am (neA (g:=gb142) hg kA);have NB149_142:=Am (neB (g:=gb142) hg kA);have NB143_149:=Am (neA (g:=gb143) hg kA);have NB149_143:=Am (neB (g:=gb143) hg kA);replace BK142:=Am (blk_below (g:=gb142) kA hb);replace BK143:=Am (blk_below (g:=gb143) kA hb);replace HB:=Am (below_step bA hb);clear hb hbox hg
           refine hK.out _ _ (q2 BK142.out) (fun hHeld => ?_)
           clear hK K
           refine nm_ ?_
           exact nj_ (hJ3_9 (gb149) _ ⟨hHeld,kA,kA,kA,GW149.out,GE149.out,NB142_149.out,NB149_142.out,NB143_149.out,NB149_143.out,bA⟩)
        ·skip
         rintro ⟨gb148,gb149⟩ w12 ⟨hS_,h0_,h1_,h2_,h3_,h4_,h5_,h6_,h7_,h8_,h9_,h10_,h11_,h12_,h13_,h14_,h15_,h16_,h17_,h18_⟩
         dsimp only at hS_ h0_ h1_ h2_ h3_ h4_ h5_ h6_ h7_ h8_ h9_ h10_ h11_ h12_ h13_ h14_ h15_ h16_ h17_ h18_
         replace BK142:=Am h0_;replace BK143:=Am h1_;have BK148:=Am h2_;have BK149:=Am h3_;have GW148:=Am h4_;have GE148:=Am h5_;have NB142_148:=Am h6_;have NB148_142:=Am h7_;have NB143_148:=Am h8_;have NB148_143:=Am h9_;have NB149_148:=Am h10_;have NB148_149:=Am h11_;have GW149:=Am h12_;have GE149:=Am h13_;have NB142_149:=Am h14_;have NB149_142:=Am h15_;have NB143_149:=Am h16_;have NB149_143:=Am h17_;replace HB:=Am h18_;clear h0_ h1_ h2_ h3_ h4_ h5_ h6_ h7_ h8_ h9_ h10_ h11_ h12_ h13_ h14_ h15_ h16_ h17_ h18_;have hHeld:=hS_
         refine norm_ (a':=?_) ?_ ?_
         rotate_left
         ·simp only [putAll,Act.put,List.setIfInBounds_toArray,List.set_cons_zero,List.set_cons_succ]
          rfl
         refine one_ (i:=3) (N:=some 11) #[yy,yy,yy,yy,yy,yy,yy,nn,yy,yy,nn,nn] rfl rfl (one_of HT_.out (by kernel_rfl)) (by decide) (fun K hK => ?_)
         refine goes_ Tryz.func46 (by kernel_rfl) rfl #[.int .u64 a0_1,.int .u64 a1] (by rfl) rfl rfl aA ?_
         with_reducible refine (wide_Mul.calls a0_1 a1 t144 t145 _ A3.out).mono ?_
         rintro e w13 ⟨rfl,hb⟩
         refine ⟨_,rfl,?_⟩;replace BK142:=Am (blk_below (g:=gb142) kA hb);replace BK143:=Am (blk_below (g:=gb143) kA hb);replace BK148:=Am (blk_below (g:=gb148) kA hb);replace BK149:=Am (blk_below (g:=gb149) kA hb);replace HB:=Am (below_step bA hb);(try clear hb)
         refine hK.out _ _ (q2 BK142.out) (fun hHeld => ?_)
         clear hK K
         refine nm_ ?_
         exact nj_ (hJ3_8_9 (gb148,gb149) _ ⟨hHeld,kA,kA,kA,kA,GW148.out,GE148.out,NB142_148.out,NB148_142.out,NB143_148.out,NB148_143.out,NB149_148.out,NB148_149.out,GW149.out,GE149.out,NB142_149.out,NB149_142.out,NB143_149.out,NB149_143.out,bA⟩)
       ·skip
        rintro gb149 w12 ⟨hS_,h0_,h1_,h2_,h3_,h4_,h5_,h6_,h7_,h8_,h9_⟩
        replace BK142:=Am h0_;replace BK143:=Am h1_;have BK149:=Am h2_;have GW149:=Am h3_;have GE149:=Am h4_;have NB142_149:=Am h5_;have NB149_142:=Am h6_;have NB143_149:=Am h7_;have NB149_143:=Am h8_;replace HB:=Am h9_;clear h0_ h1_ h2_ h3_ h4_ h5_ h6_ h7_ h8_ h9_;have hHeld:=hS_
        refine norm_ (a':=?_) ?_ ?_
        rotate_left
        ·simp only [putAll,Act.put,List.setIfInBounds_toArray,List.set_cons_zero,List.set_cons_succ]
         rfl
        refine two_ (i:=7) (j:=8) (Ni:=some 15) (Nj:=some 6) #[yy,yy,yy,yy,yy,yy,yy,yy,nn,yy,nn,nn] #[yy,yy,yy,yy,yy,yy,yy,nn,yy,yy,nn,nn] rfl rfl rfl rfl (two_of HT_.out (by kernel_rfl)) (by decide) (by decide) (fun K hK => ?_) (fun K hK => ?_)
        ·skip
         refine goes_ Tryz.func46 (by kernel_rfl) rfl #[.int .u64 a0_0,.int .u64 a1] (by rfl) rfl rfl aA ?_
         with_reducible refine (wide_Mul.calls a0_0 a1 t146 t147 _ A4.out).mono ?_
         rintro e w13 ⟨rfl,hb⟩
         refine ⟨_,rfl,?_⟩;replace BK142:=Am (blk_below (g:=gb142) kA hb);replace BK143:=Am (blk_below (g:=gb143) kA hb);replace BK149:=Am (blk_below (g:=gb149) kA hb);replace HB:=Am (below_step bA hb);(try clear hb)
         refine hK.out _ _ (q2 BK142.out) (fun hHeld => ?_)
         clear hK K
         refine nm_ ?_
         exact nj_ (hJ3_7_9 (gb149) _ ⟨hHeld,kA,kA,kA,GW149.out,GE149.out,NB142_149.out,NB149_142.out,NB143_149.out,NB149_143.out,bA⟩)
        ·skip
         refine box_step ?hg (N:=6) ?hd (cs:=#[.int .u64 0,.int .u64 0]) (t:=76) ?hr ?_;(case hd => rfl);(case hg => rfl);(case hr => first | (go_simp;done) | (go_simp;rfl))
         intro gb148 hg w13 hbox hb
         have BK148:=Am (hbox);have GW148:=Am (gwA hg bA);have GE148:=Am (gwA hg bA);have NB142_148:=Am (neA (g:=gb142) hg kA);have NB148_142:=Am (neB (g:=gb142) hg kA);have NB143_148:=Am (neA (g:=gb143) hg kA);have NB148_143:=Am (neB (g:=gb143) hg kA);have NB149_148:=Am (neA (g:=gb149) hg kA);have NB148_149:=Am (neB (g:=gb149) hg kA);replace BK142:=Am (blk_below (g:=gb142) kA hb);replace BK143:=Am (blk_below (g:=gb143) kA hb);replace BK149:=Am (blk_below (g:=gb149) kA hb);replace HB:=Am (below_step bA hb);clear hb hbox hg
         refine hK.out _ _ (q2 BK142.out) (fun hHeld => ?_)
         clear hK K
         refine nm_ ?_
         exact nj_ (hJ3_8_9 (gb148,gb149) _ ⟨hHeld,kA,kA,kA,kA,GW148.out,GE148.out,NB142_148.out,NB148_142.out,NB143_148.out,NB148_143.out,NB149_148.out,NB148_149.out,GW149.out,GE149.out,NB142_149.out,NB149_142.out,NB143_149.out,NB149_143.out,bA⟩)
      ·skip
       rintro gb148 w12 ⟨hS_,h0_,h1_,h2_,h3_,h4_,h5_,h6_,h7_,h8_,h9_⟩
       replace BK142:=Am h0_;replace BK143:=Am h1_;have BK148:=Am h2_;have GW148:=Am h3_;have GE148:=Am h4_;have NB142_148:=Am h5_;have NB148_142:=Am h6_;have NB143_148:=Am h7_;have NB148_143:=Am h8_;replace HB:=Am h9_;clear h0_ h1_ h2_ h3_ h4_ h5_ h6_ h7_ h8_ h9_;have hHeld:=hS_
       refine norm_ (a':=?_) ?_ ?_
       rotate_left
       ·simp only [putAll,Act.put,List.setIfInBounds_toArray,List.set_cons_zero,List.set_cons_succ]
        rfl
       refine two_ (i:=7) (j:=9) (Ni:=some 15) (Nj:=some 7) #[yy,yy,yy,yy,yy,yy,yy,yy,yy,nn,nn,nn] #[yy,yy,yy,yy,yy,yy,yy,nn,yy,yy,nn,nn] rfl rfl rfl rfl (two_of HT_.out (by kernel_rfl)) (by decide) (by decide) (fun K hK => ?_) (fun K hK => ?_)
       ·skip
        refine goes_ Tryz.func46 (by kernel_rfl) rfl #[.int .u64 a0_0,.int .u64 a1] (by rfl) rfl rfl aA ?_
        with_reducible refine (wide_Mul.calls a0_0 a1 t146 t147 _ A4.out).mono ?_
        rintro e w13 ⟨rfl,hb⟩
        refine ⟨_,rfl,?_⟩;replace BK142:=Am (blk_below (g:=gb142) kA hb);replace BK143:=Am (blk_below (g:=gb143) kA hb);replace BK148:=Am (blk_below (g:=gb148) kA hb);replace HB:=Am (below_step bA hb);(try clear hb)
        refine hK.out _ _ (q2 BK142.out) (fun hHeld => ?_)
        clear hK K
        refine nm_ ?_
        exact nj_ (hJ3_7_8 (gb148) _ ⟨hHeld,kA,kA,kA,GW148.out,GE148.out,NB142_148.out,NB148_142.out,NB143_148.out,NB148_143.out,bA⟩)
       ·skip
        refine box_step ?hg (N:=7) ?hd (cs:=#[.int .u64 0,.int .u64 0]) (t:=76) ?hr ?_;(case hd => rfl);(case hg => rfl);(case hr => first | (go_simp;done) | (go_simp;rfl))
        intro gb149 hg w13 hbox hb
        have BK149:=Am (hbox);have GW149:=Am (gwA hg bA);have GE149:=Am (gwA hg bA);have NB142_149:=Am (neA (g:=gb142) hg kA);have NB149_142:=Am (neB (g:=gb142) hg kA);have NB143_149:=Am (neA (g:=gb143) hg kA);have NB149_143:=Am (neB (g:=gb143) hg kA);have NB148_149:=Am (neA (g:=gb148) hg kA);have NB149_148:=Am (neB (g:=gb148) hg kA);replace BK142:=Am (blk_below (g:=gb142) kA hb);replace BK143:=Am (blk_below (g:=gb143) kA hb);replace BK148:=Am (blk_below (g:=gb148) kA hb);replace HB:=Am (below_step bA hb);clear hb hbox hg
        refine hK.out _ _ (q2 BK142.out) (fun hHeld => ?_)
        clear hK K
        refine nm_ ?_
        exact nj_ (hJ3_8_9 (gb148,gb149) _ ⟨hHeld,kA,kA,kA,kA,GW148.out,GE148.out,NB142_148.out,NB148_142.out,NB143_148.out,NB148_143.out,NB149_148.out,NB148_149.out,GW149.out,GE149.out,NB142_149.out,NB149_142.out,NB143_149.out,NB149_143.out,bA⟩)
     ·skip
      rintro _ w12 ⟨hS_,h0_,h1_,h2_⟩
      replace BK142:=Am h0_;replace BK143:=Am h1_;replace HB:=Am h2_;clear h0_ h1_ h2_;have hHeld:=hS_
      refine norm_ (a':=?_) ?_ ?_
      rotate_left
      ·simp only [putAll,Act.put,List.setIfInBounds_toArray,List.set_cons_zero,List.set_cons_succ]
       rfl
      refine two_ (i:=8) (j:=9) (Ni:=some 6) (Nj:=some 7) #[yy,yy,yy,yy,yy,yy,yy,yy,yy,nn,nn,nn] #[yy,yy,yy,yy,yy,yy,yy,yy,nn,yy,nn,nn] rfl rfl rfl rfl (two_of HT_.out (by kernel_rfl)) (by decide) (by decide) (fun K hK => ?_) (fun K hK => ?_)
      ·skip
       refine box_step ?hg (N:=6) ?hd (cs:=#[.int .u64 0,.int .u64 0]) (t:=76) ?hr ?_;(case hd => rfl);(case hg => rfl);(case hr => first | (go_simp;done) | (go_simp;rfl))
       intro gb148 hg w13 hbox hb
       have BK148:=Am (hbox);have GW148:=Am (gwA hg bA);have GE148:=Am (gwA hg bA);have NB142_148:=Am (neA (g:=gb142) hg kA);have NB148_142:=Am (neB (g:=gb142) hg kA);have NB143_148:=Am (neA (g:=gb143) hg kA);have NB148_143:=Am (neB (g:=gb143) hg kA);replace BK142:=Am (blk_below (g:=gb142) kA hb);replace BK143:=Am (blk_below (g:=gb143) kA hb);replace HB:=Am (below_step bA hb);clear hb hbox hg
       refine hK.out _ _ (q2 BK142.out) (fun hHeld => ?_)
       clear hK K
       refine nm_ ?_
       exact nj_ (hJ3_7_8 (gb148) _ ⟨hHeld,kA,kA,kA,GW148.out,GE148.out,NB142_148.out,NB148_142.out,NB143_148.out,NB148_143.out,bA⟩)
      ·skip
       refine box_step ?hg (N:=7) ?hd (cs:=#[.int .u64 0,.int .u64 0]) (t:=76) ?hr ?_;(case hd => rfl);(case hg => rfl);(case hr => first | (go_simp;done) | (go_simp;rfl))
       intro gb149 hg w13 hbox hb
       have BK149:=Am (hbox);have GW149:=Am (gwA hg bA);have GE149:=Am (gwA hg bA);have NB142_149:=Am (neA (g:=gb142) hg kA);have NB149_142:=Am (neB (g:=gb142) hg kA);have NB143_149:=Am (neA (g:=gb143) hg kA);have NB149_143:=Am (neB (g:=gb143) hg kA);replace BK142:=Am (blk_below (g:=gb142) kA hb);replace BK143:=Am (blk_below (g:=gb143) kA hb);replace HB:=Am (below_step bA hb);clear hb hbox hg
       refine hK.out _ _ (q2 BK142.out) (fun hHeld => ?_)
       clear hK K
       refine nm_ ?_
       exact nj_ (hJ3_7_9 (gb149) _ ⟨hHeld,kA,kA,kA,GW149.out,GE149.out,NB142_149.out,NB149_142.out,NB143_149.out,NB149_143.out,bA⟩)
    ·skip
     rintro ⟨gb148,gb149⟩ w13 ⟨hS_,h0_,h1_,h2_,h3_,h4_,h5_,h6_,h7_,h8_,h9_,h10_,h11_,h12_,h13_,h14_,h15_,h16_,h17_,h18_⟩
     dsimp only at hS_ h0_ h1_ h2_ h3_ h4_ h5_ h6_ h7_ h8_ h9_ h10_ h11_ h12_ h13_ h14_ h15_ h16_ h17_ h18_
     replace BK142:=Am h0_;replace BK143:=Am h1_;have BK148:=Am h2_;have BK149:=Am h3_;have GW148:=Am h4_;have GE148:=Am h5_;have NB142_148:=Am h6_;have NB148_142:=Am h7_;have NB143_148:=Am h8_;have NB148_143:=Am h9_;have NB149_148:=Am h10_;have NB148_149:=Am h11_;have GW149:=Am h12_;have GE149:=Am h13_;have NB142_149:=Am h14_;have NB149_142:=Am h15_;have NB143_149:=Am h16_;have NB149_143:=Am h17_;replace HB:=Am h18_;clear h0_ h1_ h2_ h3_ h4_ h5_ h6_ h7_ h8_ h9_ h10_ h11_ h12_ h13_ h14_ h15_ h16_ h17_ h18_;have hHeld:=hS_
     refine norm_ (a':=?_) ?_ ?_
     rotate_left
     ·simp only [putAll,Act.put,List.setIfInBounds_toArray,List.set_cons_zero,List.set_cons_succ]
      rfl
     refine one_ (i:=7) (N:=some 15) #[yy,yy,yy,yy,yy,yy,yy,yy,yy,yy,nn,nn] rfl rfl (one_of HT_.out (by kernel_rfl)) (by decide) (fun K hK => ?_)
     refine goes_ Tryz.func46 (by kernel_rfl) rfl #[.int .u64 a0_0,.int .u64 a1] (by rfl) rfl rfl aA ?_
     with_reducible refine (wide_Mul.calls a0_0 a1 t146 t147 _ A4.out).mono ?_
     rintro e w14 ⟨rfl,hb⟩
     refine ⟨_,rfl,?_⟩;replace BK142:=Am (blk_below (g:=gb142) kA hb);replace BK143:=Am (blk_below (g:=gb143) kA hb);replace BK148:=Am (blk_below (g:=gb148) kA hb);replace BK149:=Am (blk_below (g:=gb149) kA hb);replace HB:=Am (below_step bA hb);(try clear hb)
     refine hK.out _ _ (q2 BK142.out) (fun hHeld => ?_)
     clear hK K
     refine nm_ ?_
     exact nj_ (hJ3_7_8_9 (gb148,gb149) _ ⟨hHeld,kA,kA,kA,kA,GW148.out,GE148.out,NB142_148.out,NB148_142.out,NB143_148.out,NB148_143.out,NB149_148.out,NB148_149.out,GW149.out,GE149.out,NB142_149.out,NB149_142.out,NB143_149.out,NB149_143.out,bA⟩)
   ·skip
    rintro gb149 w13 ⟨hS_,h0_,h1_,h2_,h3_,h4_,h5_,h6_,h7_,h8_,h9_⟩
    replace BK142:=Am h0_;replace BK143:=Am h1_;have BK149:=Am h2_;have GW149:=Am h3_;have GE149:=Am h4_;have NB142_149:=Am h5_;have NB149_142:=Am h6_;have NB143_149:=Am h7_;have NB149_143:=Am h8_;replace HB:=Am h9_;clear h0_ h1_ h2_ h3_ h4_ h5_ h6_ h7_ h8_ h9_;have hHeld:=hS_
    refine norm_ (a':=?_) ?_ ?_
    rotate_left
    ·simp only [putAll,Act.put,List.setIfInBounds_toArray,List.set_cons_zero,List.set_cons_succ]
     rfl
    refine one_ (i:=8) (N:=some 6) #[yy,yy,yy,yy,yy,yy,yy,yy,yy,yy,nn,nn] rfl rfl (one_of HT_.out (by kernel_rfl)) (by decide) (fun K hK => ?_)
    refine box_step ?hg (N:=6) ?hd (cs:=#[.int .u64 0,.int .u64 0]) (t:=76) ?hr ?_;(case hd => rfl);(case hg => rfl);(case hr => first | (go_simp;done) | (go_simp;rfl))
    intro gb148 hg w14 hbox hb
    have BK148:=Am (hbox);have GW148:=Am (gwA hg bA);have GE148:=Am (gwA hg bA);have NB142_148:=Am (neA (g:=gb142) hg kA);have NB148_142:=Am (neB (g:=gb142) hg kA);have NB143_148:=Am (neA (g:=gb143) hg kA);have NB148_143:=Am (neB (g:=gb143) hg kA);have NB149_148:=Am (neA (g:=gb149) hg kA);have NB148_149:=Am (neB (g:=gb149) hg kA);replace BK142:=Am (blk_below (g:=gb142) kA hb);replace BK143:=Am (blk_below (g:=gb143) kA hb);replace BK149:=Am (blk_below (g:=gb149) kA hb);replace HB:=Am (below_step bA hb);clear hb hbox hg
    refine hK.out _ _ (q2 BK142.out) (fun hHeld => ?_)
    clear hK K
    refine nm_ ?_
    exact nj_ (hJ3_7_8_9 (gb148,gb149) _ ⟨hHeld,kA,kA,kA,kA,GW148.out,GE148.out,NB142_148.out,NB148_142.out,NB143_148.out,NB148_143.out,NB149_148.out,NB148_149.out,GW149.out,GE149.out,NB142_149.out,NB149_142.out,NB143_149.out,NB149_143.out,bA⟩)
  ·skip
   rintro gb148 w13 ⟨hS_,h0_,h1_,h2_,h3_,h4_,h5_,h6_,h7_,h8_,h9_⟩
   replace BK142:=Am h0_;replace BK143:=Am h1_;have BK148:=Am h2_;have GW148:=Am h3_;have GE148:=Am h4_;have NB142_148:=Am h5_;have NB148_142:=Am h6_;have NB143_148:=Am h7_;have NB148_143:=Am h8_;replace HB:=Am h9_;clear h0_ h1_ h2_ h3_ h4_ h5_ h6_ h7_ h8_ h9_;have hHeld:=hS_
   refine norm_ (a':=?_) ?_ ?_
   rotate_left
   ·simp only [putAll,Act.put,List.setIfInBounds_toArray,List.set_cons_zero,List.set_cons_succ]
    rfl
   refine one_ (i:=9) (N:=some 7) #[yy,yy,yy,yy,yy,yy,yy,yy,yy,yy,nn,nn] rfl rfl (one_of HT_.out (by kernel_rfl)) (by decide) (fun K hK => ?_)
   refine box_step ?hg (N:=7) ?hd (cs:=#[.int .u64 0,.int .u64 0]) (t:=76) ?hr ?_;(case hd => rfl);(case hg => rfl);(case hr => first | (go_simp;done) | (go_simp;rfl))
   intro gb149 hg w14 hbox hb
   have BK149:=Am (hbox);have GW149:=Am (gwA hg bA);have GE149:=Am (gwA hg bA);have NB142_149:=Am (neA (g:=gb142) hg kA);have NB149_142:=Am (neB (g:=gb142) hg kA);have NB143_149:=Am (neA (g:=gb143) hg kA);have NB149_143:=Am (neB (g:=gb143) hg kA);have NB148_149:=Am (neA (g:=gb148) hg kA);have NB149_148:=Am (neB (g:=gb148) hg kA);replace BK142:=Am (blk_below (g:=gb142) kA hb);replace BK143:=Am (blk_below (g:=gb143) kA hb);replace BK148:=Am (blk_below (g:=gb148) kA hb);replace HB:=Am (below_step bA hb);clear hb hbox hg
   refine hK.out _ _ (q2 BK142.out) (fun hHeld => ?_)
   clear hK K
   refine nm_ ?_
   exact nj_ (hJ3_7_8_9 (gb148,gb149) _ ⟨hHeld,kA,kA,kA,kA,GW148.out,GE148.out,NB142_148.out,NB148_142.out,NB143_148.out,NB148_143.out,NB149_148.out,NB148_149.out,GW149.out,GE149.out,NB142_149.out,NB149_142.out,NB143_149.out,NB149_143.out,bA⟩)
 rintro ⟨gb148,gb149⟩ w14 ⟨hS_,h0_,h1_,h2_,h3_,h4_,h5_,h6_,h7_,h8_,h9_,h10_,h11_,h12_,h13_,h14_,h15_,h16_,h17_,h18_⟩
 dsimp only at hS_ h0_ h1_ h2_ h3_ h4_ h5_ h6_ h7_ h8_ h9_ h10_ h11_ h12_ h13_ h14_ h15_ h16_ h17_ h18_
 replace BK142:=Am h0_;replace BK143:=Am h1_;have BK148:=Am h2_;have BK149:=Am h3_;have GW148:=Am h4_;have GE148:=Am h5_;have NB142_148:=Am h6_;have NB148_142:=Am h7_;have NB143_148:=Am h8_;have NB148_143:=Am h9_;have NB149_148:=Am h10_;have NB148_149:=Am h11_;have GW149:=Am h12_;have GE149:=Am h13_;have NB142_149:=Am h14_;have NB149_142:=Am h15_;have NB143_149:=Am h16_;have NB149_143:=Am h17_;replace HB:=Am h18_;clear h0_ h1_ h2_ h3_ h4_ h5_ h6_ h7_ h8_ h9_ h10_ h11_ h12_ h13_ h14_ h15_ h16_ h17_ h18_;have hHeld:=hS_
 refine norm_ (a':=?_) ?_ ?_
 rotate_left
 ·simp only [putAll,Act.put,List.setIfInBounds_toArray,List.set_cons_zero,List.set_cons_succ]
  rfl
 refine one_ (i:=10) (N:=none) #[yy,yy,yy,yy,yy,yy,yy,yy,yy,yy,yy,nn] rfl rfl (one_of HT_.out (by kernel_rfl)) (by decide) (fun K hK => ?_)
 have hs15 : w14.cell? ⟨gb148,0,none⟩ = some (.int .u64 0):=(blk_cell BK148.out 0).trans rfl
 have hfs15:=blk_frozen BK148.out 0
 have hns15_0:=NB142_148.out
 have hns15_1:=NB143_148.out
 have hns15_3:=NB149_148.out
 have hms15_0:=NB148_142.out
 have hms15_1:=NB148_143.out
 have hms15_3:=NB148_149.out
 have hs16 : w14.cell? ⟨gb148,1,none⟩ = some (.int .u64 0):=(blk_cell BK148.out 1).trans rfl
 have hfs16:=blk_frozen BK148.out 1
 have hns16_0:=NB142_148.out
 have hns16_1:=NB143_148.out
 have hns16_3:=NB149_148.out
 have hms16_0:=NB148_142.out
 have hms16_1:=NB148_143.out
 have hms16_3:=NB148_149.out
 refine skip_ (w1:=?_) (by rfl) rfl ?_ ?_
 rotate_left
 ·go_simp
  rfl
 refine hK.out _ _ ⟨((cell_far (p:=⟨gb148,_,none⟩) NB142_148.out _).trans (((cell_far (p:=⟨gb148,_,none⟩) NB142_148.out _).trans (hHeld.1)))),((cell_far (p:=⟨gb148,_,none⟩) NB142_148.out _).trans (((cell_far (p:=⟨gb148,_,none⟩) NB142_148.out _).trans (hHeld.2))))⟩ (fun hHeld => ?_)
 clear hK K
 refine one_ (i:=11) (N:=none) #[yy,yy,yy,yy,yy,yy,yy,yy,yy,yy,yy,yy] rfl rfl (one_of HT_.out (by kernel_rfl)) (by decide) (fun K hK => ?_)
 have hs17 : w14.cell? ⟨gb149,0,none⟩ = some (.int .u64 0):=(blk_cell BK149.out 0).trans rfl
 have hfs17:=blk_frozen BK149.out 0
 have hns17_0:=NB142_149.out
 have hns17_1:=NB143_149.out
 have hns17_2:=NB148_149.out
 have hms17_0:=NB149_142.out
 have hms17_1:=NB149_143.out
 have hms17_2:=NB149_148.out
 have hs18 : w14.cell? ⟨gb149,1,none⟩ = some (.int .u64 0):=(blk_cell BK149.out 1).trans rfl
 have hfs18:=blk_frozen BK149.out 1
 have hns18_0:=NB142_149.out
 have hns18_1:=NB143_149.out
 have hns18_2:=NB148_149.out
 have hms18_0:=NB149_142.out
 have hms18_1:=NB149_143.out
 have hms18_2:=NB149_148.out
 refine skip_ (w1:=?_) (by rfl) rfl ?_ ?_
 rotate_left
 ·go_simp
  rfl
 refine hK.out _ _ ⟨((cell_far (p:=⟨gb149,_,none⟩) NB142_149.out _).trans (((cell_far (p:=⟨gb149,_,none⟩) NB142_149.out _).trans (hHeld.1)))),((cell_far (p:=⟨gb149,_,none⟩) NB142_149.out _).trans (((cell_far (p:=⟨gb149,_,none⟩) NB142_149.out _).trans (hHeld.2))))⟩ (fun hHeld => ?_)
 clear hK K
 refine done_ (done_of HT_.out (by kernel_rfl)) ?_
 have hnb19:=NB149_142.out
 have hnc19:=NB142_149.out
 have hnb20:=NB149_143.out
 have hnc20:=NB143_149.out
 have hnb21:=NB149_148.out
 have hnc21:=NB148_149.out
 obtain ⟨hcz22_0,hcz22_1,hfz22_0,hfz22_1⟩:=k2 BK149.out
 by_cases c5 : t146 > 0
 ·rw [if_pos c5] at H
  have c5b0 : decide (0 < t146) = true:=decide_eq_true c5
  clear c5;obtain ⟨⟨t150,t151⟩,A6,H⟩:=bnd H;(try dsimp only at H)
  simp only [Option.some.injEq,Prod.mk.injEq] at H
  obtain ⟨rfl,rfl,rfl⟩:=H
  try go_wp2_with (first | ((with_reducible refine gate_callee (f:=91) rfl ?_);refine goesL_ (some 19) rfl rfl Tryz.func91 (by kernel_rfl) rfl #[] rfl aA ?_;(with_reducible refine (wide_greatest.calls  t150 t151 _ A6.out).mono ?_);rintro e w23 ⟨rfl,hb⟩;refine ⟨_,rfl,?_⟩;replace BK142:=Am (blk_below (g:=gb142) (o:=.cells #[.int .u64 a0_0,.int .u64 a0_1] 76 (0,0)) kF hb);replace BK143:=Am (blk_below (g:=gb143) (o:=.cells #[.int .u64 0,.int .u64 0] 76 (0,0)) kF hb);replace BK148:=Am (blk_below (g:=gb148) (o:=.cells #[.int .u64 t144,.int .u64 t145] 76 (0,0)) (by (with_reducible repeat (first | refine b1 ?_ _ | refine b2 ?_ | refine b3 ?_ _));refine blk_far ?_ NB148_149.out _;(with_reducible repeat (first | refine b1 ?_ _ | refine b2 ?_ | refine b3 ?_ _));refine blk_far ?_ NB148_149.out _;(with_reducible repeat (first | refine b1 ?_ _ | refine b2 ?_ | refine b3 ?_ _));refine blk_put (cs:=#[.int .u64 t144,.int .u64 0]) ?_ 1 _ rfl;(with_reducible repeat (first | refine b1 ?_ _ | refine b2 ?_ | refine b3 ?_ _));refine blk_put (cs:=#[.int .u64 0,.int .u64 0]) ?_ 0 _ rfl;exact kA) hb);replace BK149:=Am (blk_below (g:=gb149) (o:=.cells #[.int .u64 t146,.int .u64 t147] 76 (0,0)) (by (with_reducible repeat (first | refine b1 ?_ _ | refine b2 ?_ | refine b3 ?_ _));refine blk_put (cs:=#[.int .u64 t146,.int .u64 0]) ?_ 1 _ rfl;(with_reducible repeat (first | refine b1 ?_ _ | refine b2 ?_ | refine b3 ?_ _));refine blk_put (cs:=#[.int .u64 0,.int .u64 0]) ?_ 0 _ rfl;(with_reducible repeat (first | refine b1 ?_ _ | refine b2 ?_ | refine b3 ?_ _));refine blk_far ?_ NB149_148.out _;(with_reducible repeat (first | refine b1 ?_ _ | refine b2 ?_ | refine b3 ?_ _));refine blk_far ?_ NB149_148.out _;exact kA) hb);replace HB:=Am (below_step bA hb);(try clear hb);have hnb24:=NB143_142.out;have hnc24:=NB142_143.out;have hnb25:=NB143_148.out;have hnc25:=NB148_143.out;obtain ⟨hcz26_0,hcz26_1,hfz26_0,hfz26_1⟩:=k2 BK143.out))
  refine bodyPost_ret (results_ct rfl _ _ gb143 76 #[.int .u64 t150,.int .u64 t151] (0,0) _ rfl (by (with_reducible repeat (first | refine b1 ?_ _ | refine b2 ?_ | refine b3 ?_ _));refine blk_put (cs:=#[.int .u64 t150,.int .u64 0]) ?_ 1 _ rfl;(with_reducible repeat (first | refine b1 ?_ _ | refine b2 ?_ | refine b3 ?_ _));refine blk_put (cs:=#[.int .u64 0,.int .u64 0]) ?_ 0 _ rfl;exact kA) Tryz.underlying76 rfl (by kernel_rfl)) rfl ?_
  exact eA
 ·rw [if_neg c5] at H
  have c5b0 : decide (0 < t146) = false:=decide_eq_false c5
  clear c5;obtain ⟨⟨t152,t153,t154⟩,A27,H⟩:=bnd H;(try dsimp only at H)
  simp only [Option.some.injEq,Prod.mk.injEq] at H
  obtain ⟨rfl,rfl,rfl⟩:=H
  have hnb44:=NB148_142.out
  have hnc44:=NB142_148.out
  have hnb45:=NB148_143.out
  have hnc45:=NB143_148.out
  obtain ⟨hcz46_0,hcz46_1,hfz46_0,hfz46_1⟩:=k2 BK148.out
  try go_wp2_with (first | ((with_reducible refine gate_callee (f:=61) rfl ?_);refine goesL_ (some 24) rfl rfl Tryz.func61 (by kernel_rfl) rfl #[.agg #[.int .u64 t144,.int .u64 t145],.agg #[.int .u64 t147,.int .u64 0]] rfl aA ?_;(with_reducible refine (wide_Add.calls t144 t145 t147 0 t152 t153 t154 _ A27.out).mono ?_);rintro e w47 ⟨rfl,hb⟩;refine ⟨_,rfl,?_⟩;replace BK142:=Am (blk_below (g:=gb142) (o:=.cells #[.int .u64 a0_0,.int .u64 a0_1] 76 (0,0)) kF hb);replace BK143:=Am (blk_below (g:=gb143) (o:=.cells #[.int .u64 0,.int .u64 0] 76 (0,0)) kF hb);replace BK148:=Am (blk_below (g:=gb148) (o:=.cells #[.int .u64 t144,.int .u64 t145] 76 (0,0)) (by (with_reducible repeat (first | refine b1 ?_ _ | refine b2 ?_ | refine b3 ?_ _));refine blk_far ?_ NB148_149.out _;(with_reducible repeat (first | refine b1 ?_ _ | refine b2 ?_ | refine b3 ?_ _));refine blk_far ?_ NB148_149.out _;(with_reducible repeat (first | refine b1 ?_ _ | refine b2 ?_ | refine b3 ?_ _));refine blk_put (cs:=#[.int .u64 t144,.int .u64 0]) ?_ 1 _ rfl;(with_reducible repeat (first | refine b1 ?_ _ | refine b2 ?_ | refine b3 ?_ _));refine blk_put (cs:=#[.int .u64 0,.int .u64 0]) ?_ 0 _ rfl;exact kA) hb);replace BK149:=Am (blk_below (g:=gb149) (o:=.cells #[.int .u64 t146,.int .u64 t147] 76 (0,0)) (by (with_reducible repeat (first | refine b1 ?_ _ | refine b2 ?_ | refine b3 ?_ _));refine blk_put (cs:=#[.int .u64 t146,.int .u64 0]) ?_ 1 _ rfl;(with_reducible repeat (first | refine b1 ?_ _ | refine b2 ?_ | refine b3 ?_ _));refine blk_put (cs:=#[.int .u64 0,.int .u64 0]) ?_ 0 _ rfl;(with_reducible repeat (first | refine b1 ?_ _ | refine b2 ?_ | refine b3 ?_ _));refine blk_far ?_ NB149_148.out _;(with_reducible repeat (first | refine b1 ?_ _ | refine b2 ?_ | refine b3 ?_ _));refine blk_far ?_ NB149_148.out _;exact kA) hb);replace HB:=Am (below_step bA hb);(try clear hb);have hnb48:=NB143_142.out;have hnc48:=NB142_143.out;obtain ⟨hcz49_0,hcz49_1,hfz49_0,hfz49_1⟩:=k2 BK143.out))
  refine bodyPost_ret (results_ct rfl _ _ gb143 76 #[.int .u64 t152,.int .u64 t153] (0,0) _ rfl (by (with_reducible repeat (first | refine b1 ?_ _ | refine b2 ?_ | refine b3 ?_ _));refine blk_put (cs:=#[.int .u64 t152,.int .u64 0]) ?_ 1 _ rfl;(with_reducible repeat (first | refine b1 ?_ _ | refine b2 ?_ | refine b3 ?_ _));refine blk_put (cs:=#[.int .u64 0,.int .u64 0]) ?_ 0 _ rfl;exact kA) Tryz.underlying76 rfl (by kernel_rfl)) rfl ?_
  exact eA

def wide_Shl.f (a0_0 : Int) (a0_1 : Int) (a1 : Int) : Option (Int × Int):=if a1 ≤ 0 then (some (a0_0,a0_1)) else (if a1 < 64 then (if 0 ≤ a1 then (if 0 ≤ (wrap64 (64 - a1)) then (some (Go.bits .or .u64 (shl .u64 a0_0 a1) (shr .u64 a0_1 (wrap64 (64 - a1))),shl .u64 a0_1 a1)) else (none)) else (none)) else (if a1 < 128 then (if 0 ≤ (wrap64 (a1 - 64)) then (some (shl .u64 a0_1 (wrap64 (a1 - 64)),0)) else (none)) else (some (0,0))))
def wide_Shl.T4 : Bool × List (List Nat × List Nat):=(true,[([],[]),([0],[0]),([],[]),([1,2],[1,2]),([],[]),([4],[4]),([],[]),([6],[6]),([5,7],[5,7]),([3,8],[3,8]),([],[]),([10],[10]),([],[]),([11,12],[11,12]),([9,13],[9,13]),([14,0,1,2,3,4,5,6,7,8,9,10,11,12,13,14],[14])])
def wide_Shl.B4 : List Nat:=[0,1,0,7,0,16,0,64,240,511,0,1024,0,7168,16383,32767]
theorem wide_Shl.tab4 : rtab .any (opsOf Tryz.f97 4) = wide_Shl.T4:=by kernel_rfl
theorem wide_Shl.bits4 : waitsOk wide_Shl.T4.2 wide_Shl.B4 = true:=by kernel_rfl
theorem wide_Shl.calls (a0_0 : Int) (a0_1 : Int) (a1 : Int) (r1 : Int) (r2 : Int) (w : World) (h : wide_Shl.f a0_0 a0_1 a1 = some (r1,r2)) :
  Calls Tryz.prog 97 #[.agg #[.int .u64 a0_0,.int .u64 a0_1],.int .i64 a1] w fun e w' => e = .returned (.agg #[.int .u64 r1,.int .u64 r2]) ∧ Below w.heap.size w w':=by
 have hu76:=Tryz.underlying76
 have HB:=Am (Below.refl w.heap.size w)
 have H : (if a1 ≤ 0 then (some (a0_0,a0_1)) else (if a1 < 64 then (if 0 ≤ a1 then (if 0 ≤ (wrap64 (64 - a1)) then (some (Go.bits .or .u64 (shl .u64 a0_0 a1) (shr .u64 a0_1 (wrap64 (64 - a1))),shl .u64 a0_1 a1)) else (none)) else (none)) else (if a1 < 128 then (if 0 ≤ (wrap64 (a1 - 64)) then (some (shl .u64 a0_1 (wrap64 (a1 - 64)),0)) else (none)) else (some (0,0))))) = some (r1,r2):=h
 clear h
 by_cases c3 : a1 ≤ 0
 ·rw [if_pos c3] at H
  have c3b0 : decide (a1 ≤ 0) = true:=decide_eq_true c3
  clear c3
  simp only [Option.some.injEq,Prod.mk.injEq] at H
  obtain ⟨rfl,rfl⟩:=H
  go_enter Tryz.func97,Tryz.ntmps97
  go_wp2_with (first | ((with_reducible refine gate_dst (N:=2) rfl ?_);refine bxA 2 #[.int .u64 a0_0,.int .u64 a0_1] 76 ?_;intro gb155 hg w4 hbox hb;have BK155:=Am (hbox);have GW155:=Am (gwA hg bA);have GE155:=Am (gwA hg bA);replace HB:=Am (below_step bA hb);clear hb hbox hg) | ((with_reducible refine gate_dst (N:=4) rfl ?_);refine bxA 4 #[.int .u64 0,.int .u64 0] 76 ?_;intro gb156 hg w5 hbox hb;have BK156:=Am (hbox);have GW156:=Am (gwA hg bA);have GE156:=Am (gwA hg bA);have NB155_156:=Am (neA (g:=gb155) hg kA);have NB156_155:=Am (neB (g:=gb155) hg kA);replace BK155:=Am (blk_below (g:=gb155) kA hb);replace HB:=Am (below_step bA hb);clear hb hbox hg;have hnb6:=NB155_156.out;have hnc6:=NB156_155.out;obtain ⟨hcz7_0,hcz7_1,hfz7_0,hfz7_1⟩:=k2 BK155.out;obtain ⟨hcz8_0,hcz8_1,hfz8_0,hfz8_1⟩:=k2 BK156.out))
  refine bodyPost_ret (results_cell_row rfl _ _ gb156 76 #[.int .u64 a0_0,.int .u64 a0_1] (0,0) _ rfl (by (with_reducible repeat (first | refine b1 ?_ _ | refine b2 ?_ | refine b3 ?_ _));refine blk_put (cs:=#[.int .u64 a0_0,.int .u64 0]) ?_ 1 _ rfl;(with_reducible repeat (first | refine b1 ?_ _ | refine b2 ?_ | refine b3 ?_ _));refine blk_put (cs:=#[.int .u64 0,.int .u64 0]) ?_ 0 _ rfl;exact kA) Tryz.underlying76 rfl (by kernel_rfl)) rfl ?_
  exact eA
 ·rw [if_neg c3] at H
  have c3b0 : decide (a1 ≤ 0) = false:=decide_eq_false c3
  clear c3
  by_cases c9 : a1 < 64
  ·rw [if_pos c9] at H
   have c9b0 : decide (a1 < 64) = true:=decide_eq_true c9
   clear c9
   by_cases c10 : 0 ≤ a1
   ·rw [if_pos c10] at H
    have c10b0:=eq_true c10
    have c10b1 : decide (0 ≤ a1) = true:=decide_eq_true c10
    clear c10
    obtain ⟨ji11,hji11⟩ : ∃ j_ : Int,(shl .u64 a0_0 a1) = j_:=⟨_,rfl⟩
    replace H : (if 0 ≤ (wrap64 (64 - a1)) then (some (Go.bits .or .u64 (ji11) (shr .u64 a0_1 (wrap64 (64 - a1))),shl .u64 a0_1 a1)) else (none)) = some (r1,r2):=by first | (rw [hji11] at H;exact H) | (simp only [hji11] at H ⊢;exact H)
    have hji11_ : (IntKind.u64.wrap (a0_0 * 2 ^ min a1.toNat 64)) = ji11:=hji11
    have hji11z : a1 ≤ 64 → (IntKind.u64.wrap (a0_0 * 2 ^ a1.toNat)) = ji11:=shl_small hji11
    obtain ⟨ji12,hji12⟩ : ∃ j_ : Int,(wrap64 (64 - a1)) = j_:=⟨_,rfl⟩
    replace H : (if 0 ≤ (ji12) then (some (Go.bits .or .u64 (ji11) (shr .u64 a0_1 (ji12)),shl .u64 a0_1 a1)) else (none)) = some (r1,r2):=by first | (rw [hji12] at H;exact H) | (simp only [hji12] at H ⊢;exact H)
    have hji12w : (IntKind.i64.wrap (64 - a1)) = ji12:=(i64_w _).trans hji12
    by_cases c13 : 0 ≤ (ji12)
    ·rw [if_pos c13] at H
     have c13b0:=eq_true c13
     have c13b1 : decide (0 ≤ (ji12)) = true:=decide_eq_true c13
     clear c13
     obtain ⟨ji14,hji14⟩ : ∃ j_ : Int,(shr .u64 a0_1 (ji12)) = j_:=⟨_,rfl⟩
     replace H : (some (Go.bits .or .u64 (ji11) (ji14),shl .u64 a0_1 a1)) = some (r1,r2):=by first | (rw [hji14] at H;exact H) | (simp only [hji14] at H ⊢;exact H)
     have hji14_ : (a0_1 / 2 ^ min (ji12).toNat 64) = ji14:=hji14
     have hji14z : (ji12) ≤ 64 → (a0_1 / 2 ^ (ji12).toNat) = ji14:=shr_small hji14
     have c15b0:=eq_true (of_decide_eq_true (by first | (with_reducible assumption) | assumption) : 0 ≤ a1)
     obtain ⟨ji16,hji16⟩ : ∃ j_ : Int,(shl .u64 a0_1 a1) = j_:=⟨_,rfl⟩
     replace H : (some (Go.bits .or .u64 (ji11) (ji14),ji16)) = some (r1,r2):=by first | (rw [hji16] at H;exact H) | (simp only [hji16] at H ⊢;exact H)
     have hji16_ : (IntKind.u64.wrap (a0_1 * 2 ^ min a1.toNat 64)) = ji16:=hji16
     have hji16z : a1 ≤ 64 → (IntKind.u64.wrap (a0_1 * 2 ^ a1.toNat)) = ji16:=shl_small hji16
     simp only [Option.some.injEq,Prod.mk.injEq] at H
     obtain ⟨rfl,rfl⟩:=H
     go_enter Tryz.func97,Tryz.ntmps97
     try go_wp2_with (first | ((with_reducible refine gate_dst (N:=2) rfl ?_);refine bxA 2 #[.int .u64 a0_0,.int .u64 a0_1] 76 ?_;intro gb155 hg w17 hbox hb;have BK155:=Am (hbox);have GW155:=Am (gwA hg bA);have GE155:=Am (gwA hg bA);replace HB:=Am (below_step bA hb);clear hb hbox hg) | ((with_reducible refine gate_dst (N:=4) rfl ?_);refine bxA 4 #[.int .u64 0,.int .u64 0] 76 ?_;intro gb156 hg w18 hbox hb;have BK156:=Am (hbox);have GW156:=Am (gwA hg bA);have GE156:=Am (gwA hg bA);have NB155_156:=Am (neA (g:=gb155) hg kA);have NB156_155:=Am (neB (g:=gb155) hg kA);replace BK155:=Am (blk_below (g:=gb155) kA hb);replace HB:=Am (below_step bA hb);clear hb hbox hg))
     replace BK155:=Am (blk_drew BK155.out);replace BK156:=Am (blk_drew BK156.out);replace HB:=Am (below_drew1 HB.out)
     refine start_ (n:=16) (S:=fun w' => w'.cell? ⟨gb155,0,none⟩ = some (.int .u64 a0_0) ∧ w'.cell? ⟨gb155,1,none⟩ = some (.int .u64 a0_1)) (ds:=[]) #[nn,nn,nn,nn,nn,nn,nn,nn,nn,nn,nn,nn,nn,nn,nn,nn] (by kernel_rfl) rfl rfl (q2 BK155.out) (fun hHeld => ?_);refine with_tabW wide_Shl.tab4 wide_Shl.bits4 (fun HT_ HW_ => ?_)
     generalize w18.drew = w19 at BK155 BK156 HB hHeld ⊢
     refine pu_ 0 (some 12) #[yy,nn,nn,nn,nn,nn,nn,nn,nn,nn,nn,nn,nn,nn,nn,nn] (any_of HT_.out (by kernel_rfl)) ?_
     refine pu_ 2 (some 14) #[yy,nn,yy,nn,nn,nn,nn,nn,nn,nn,nn,nn,nn,nn,nn,nn] (any_of HT_.out (by kernel_rfl)) ?_
     refine pu_ 4 (some 16) #[yy,nn,yy,nn,yy,nn,nn,nn,nn,nn,nn,nn,nn,nn,nn,nn] (any_of HT_.out (by kernel_rfl)) ?_
     refine pu_ 6 (some 18) #[yy,nn,yy,nn,yy,nn,yy,nn,nn,nn,nn,nn,nn,nn,nn,nn] (any_of HT_.out (by kernel_rfl)) ?_
     refine pu_ 7 (some 19) #[yy,nn,yy,nn,yy,nn,yy,yy,nn,nn,nn,nn,nn,nn,nn,nn] (any_of HT_.out (by kernel_rfl)) ?_
     refine pu_ 10 (some 22) #[yy,nn,yy,nn,yy,nn,yy,yy,nn,nn,yy,nn,nn,nn,nn,nn] (any_of HT_.out (by kernel_rfl)) ?_
     refine pu_ 12 (some 24) #[yy,nn,yy,nn,yy,nn,yy,yy,nn,nn,yy,nn,yy,nn,nn,nn] (any_of HT_.out (by kernel_rfl)) ?_
     refine tk_ 1 (some 13) #[yy,yy,yy,nn,yy,nn,yy,yy,nn,nn,yy,nn,yy,nn,nn,nn] (take_ofW HT_.out HW_.out (by kernel_rfl)) hHeld ?_
     refine pu_ 3 (some 15) #[yy,yy,yy,yy,yy,nn,yy,yy,nn,nn,yy,nn,yy,nn,nn,nn] (any_of HT_.out (by kernel_rfl)) ?_
     refine tk_ 5 (some 17) #[yy,yy,yy,yy,yy,yy,yy,yy,nn,nn,yy,nn,yy,nn,nn,nn] (take_ofW HT_.out HW_.out (by kernel_rfl)) hHeld ?_
     refine pu_ 8 (some 20) #[yy,yy,yy,yy,yy,yy,yy,yy,yy,nn,yy,nn,yy,nn,nn,nn] (any_of HT_.out (by kernel_rfl)) ?_
     refine pu_ 9 (some 21) #[yy,yy,yy,yy,yy,yy,yy,yy,yy,yy,yy,nn,yy,nn,nn,nn] (any_of HT_.out (by kernel_rfl)) ?_
     refine tk_ 11 (some 23) #[yy,yy,yy,yy,yy,yy,yy,yy,yy,yy,yy,yy,yy,nn,nn,nn] (take_ofW HT_.out HW_.out (by kernel_rfl)) hHeld ?_
     refine pu_ 13 (some 25) #[yy,yy,yy,yy,yy,yy,yy,yy,yy,yy,yy,yy,yy,yy,nn,nn] (any_of HT_.out (by kernel_rfl)) ?_
     refine pu_ 14 (some 26) #[yy,yy,yy,yy,yy,yy,yy,yy,yy,yy,yy,yy,yy,yy,yy,nn] (any_of HT_.out (by kernel_rfl)) ?_
     refine one_ (i:=15) (N:=none) #[yy,yy,yy,yy,yy,yy,yy,yy,yy,yy,yy,yy,yy,yy,yy,yy] rfl rfl (one_of HT_.out (by kernel_rfl)) (by decide) (fun K hK => ?_)
     have hs20 : w19.cell? ⟨gb156,0,none⟩ = some (.int .u64 0):=(blk_cell BK156.out 0).trans rfl
     have hfs20:=blk_frozen BK156.out 0
     have hns20_0:=NB155_156.out
     have hms20_0:=NB156_155.out
     have hs21 : w19.cell? ⟨gb156,1,none⟩ = some (.int .u64 0):=(blk_cell BK156.out 1).trans rfl
     have hfs21:=blk_frozen BK156.out 1
     have hns21_0:=NB155_156.out
     have hms21_0:=NB156_155.out
     refine skip_ (w1:=?_) (by rfl) rfl ?_ ?_
     rotate_left
     ·go_simp
      rfl
     refine hK.out _ _ ⟨((cell_far (p:=⟨gb156,_,none⟩) NB155_156.out _).trans (((cell_far (p:=⟨gb156,_,none⟩) NB155_156.out _).trans (hHeld.1)))),((cell_far (p:=⟨gb156,_,none⟩) NB155_156.out _).trans (((cell_far (p:=⟨gb156,_,none⟩) NB155_156.out _).trans (hHeld.2))))⟩ (fun hHeld => ?_)
     clear hK K
     refine done_ (done_of HT_.out (by kernel_rfl)) ?_
     try go_wp2
     refine bodyPost_ret (results_cell_row rfl _ _ gb156 76 #[.int .u64 (Go.bits .or .u64 (ji11) (ji14)),.int .u64 ji16] (0,0) _ rfl (by (with_reducible repeat (first | refine b1 ?_ _ | refine b2 ?_ | refine b3 ?_ _));refine blk_put (cs:=#[.int .u64 (Go.bits .or .u64 (ji11) (ji14)),.int .u64 0]) ?_ 1 _ rfl;(with_reducible repeat (first | refine b1 ?_ _ | refine b2 ?_ | refine b3 ?_ _));refine blk_put (cs:=#[.int .u64 0,.int .u64 0]) ?_ 0 _ rfl;exact kA) Tryz.underlying76 rfl (by kernel_rfl)) rfl ?_
     exact ⟨by first | rfl | (simp [errW_none,errW_some] <;> rfl) | (simp only [← hji11,← hji12,← hji14,← hji16];first | rfl | (simp [errW_none,errW_some] <;> rfl)) | (simp [*,errW_none,errW_some] <;> rfl),bA⟩
    ·rw [if_neg c13] at H
     exact absurd H (by simp)
   ·rw [if_neg c10] at H
    exact absurd H (by simp)
  ·rw [if_neg c9] at H
   have c9b0 : decide (a1 < 64) = false:=decide_eq_false c9
   clear c9
   by_cases c22 : a1 < 128
   ·rw [if_pos c22] at H
    have c22b0 : decide (a1 < 128) = true:=decide_eq_true c22
    clear c22
    obtain ⟨ji23,hji23⟩ : ∃ j_ : Int,(wrap64 (a1 - 64)) = j_:=⟨_,rfl⟩
    replace H : (if 0 ≤ (ji23) then (some (shl .u64 a0_1 (ji23),0)) else (none)) = some (r1,r2):=by first | (rw [hji23] at H;exact H) | (simp only [hji23] at H ⊢;exact H)
    have hji23w : (IntKind.i64.wrap (a1 - 64)) = ji23:=(i64_w _).trans hji23
    by_cases c24 : 0 ≤ (ji23)
    ·rw [if_pos c24] at H
     have c24b0:=eq_true c24
     have c24b1 : decide (0 ≤ (ji23)) = true:=decide_eq_true c24
     clear c24
     obtain ⟨ji25,hji25⟩ : ∃ j_ : Int,(shl .u64 a0_1 (ji23)) = j_:=⟨_,rfl⟩
     replace H : (some (ji25,0)) = some (r1,r2):=by first | (rw [hji25] at H;exact H) | (simp only [hji25] at H ⊢;exact H)
     have hji25_ : (IntKind.u64.wrap (a0_1 * 2 ^ min (ji23).toNat 64)) = ji25:=hji25
     have hji25z : (ji23) ≤ 64 → (IntKind.u64.wrap (a0_1 * 2 ^ (ji23).toNat)) = ji25:=shl_small hji25
     simp only [Option.some.injEq,Prod.mk.injEq] at H
     obtain ⟨rfl,rfl⟩:=H
     go_enter Tryz.func97,Tryz.ntmps97
     go_wp2_with (first | ((with_reducible refine gate_dst (N:=2) rfl ?_);refine bxA 2 #[.int .u64 a0_0,.int .u64 a0_1] 76 ?_;intro gb155 hg w26 hbox hb;have BK155:=Am (hbox);have GW155:=Am (gwA hg bA);have GE155:=Am (gwA hg bA);replace HB:=Am (below_step bA hb);clear hb hbox hg) | ((with_reducible refine gate_dst (N:=4) rfl ?_);refine bxA 4 #[.int .u64 0,.int .u64 0] 76 ?_;intro gb156 hg w27 hbox hb;have BK156:=Am (hbox);have GW156:=Am (gwA hg bA);have GE156:=Am (gwA hg bA);have NB155_156:=Am (neA (g:=gb155) hg kA);have NB156_155:=Am (neB (g:=gb155) hg kA);replace BK155:=Am (blk_below (g:=gb155) kA hb);replace HB:=Am (below_step bA hb);clear hb hbox hg;have hnb28:=NB155_156.out;have hnc28:=NB156_155.out;obtain ⟨hcz29_0,hcz29_1,hfz29_0,hfz29_1⟩:=k2 BK155.out;obtain ⟨hcz30_0,hcz30_1,hfz30_0,hfz30_1⟩:=k2 BK156.out))
     refine bodyPost_ret (results_cell_row rfl _ _ gb156 76 #[.int .u64 ji25,.int .u64 0] (0,0) _ rfl (by (with_reducible repeat (first | refine b1 ?_ _ | refine b2 ?_ | refine b3 ?_ _));refine blk_put (cs:=#[.int .u64 ji25,.int .u64 0]) ?_ 1 _ rfl;(with_reducible repeat (first | refine b1 ?_ _ | refine b2 ?_ | refine b3 ?_ _));refine blk_put (cs:=#[.int .u64 0,.int .u64 0]) ?_ 0 _ rfl;exact kA) Tryz.underlying76 rfl (by kernel_rfl)) rfl ?_
     exact ⟨by first | rfl | (simp [errW_none,errW_some] <;> rfl) | (simp only [← hji23,← hji25];first | rfl | (simp [errW_none,errW_some] <;> rfl)) | (simp [*,errW_none,errW_some] <;> rfl),bA⟩
    ·rw [if_neg c24] at H
     exact absurd H (by simp)
   ·rw [if_neg c22] at H
    have c22b0 : decide (a1 < 128) = false:=decide_eq_false c22
    clear c22
    simp only [Option.some.injEq,Prod.mk.injEq] at H
    obtain ⟨rfl,rfl⟩:=H
    go_enter Tryz.func97,Tryz.ntmps97
    go_wp2_with (first | ((with_reducible refine gate_dst (N:=2) rfl ?_);refine bxA 2 #[.int .u64 a0_0,.int .u64 a0_1] 76 ?_;intro gb155 hg w31 hbox hb;have BK155:=Am (hbox);have GW155:=Am (gwA hg bA);have GE155:=Am (gwA hg bA);replace HB:=Am (below_step bA hb);clear hb hbox hg) | ((with_reducible refine gate_dst (N:=4) rfl ?_);refine bxA 4 #[.int .u64 0,.int .u64 0] 76 ?_;intro gb156 hg w32 hbox hb;have BK156:=Am (hbox);have GW156:=Am (gwA hg bA);have GE156:=Am (gwA hg bA);have NB155_156:=Am (neA (g:=gb155) hg kA);have NB156_155:=Am (neB (g:=gb155) hg kA);replace BK155:=Am (blk_below (g:=gb155) kA hb);replace HB:=Am (below_step bA hb);clear hb hbox hg;have hnb33:=NB156_155.out;have hnc33:=NB155_156.out;obtain ⟨hcz34_0,hcz34_1,hfz34_0,hfz34_1⟩:=k2 BK156.out))
    refine bodyPost_ret (results_cell_row rfl _ _ gb156 76 #[.int .u64 0,.int .u64 0] (0,0) _ rfl (by (with_reducible repeat (first | refine b1 ?_ _ | refine b2 ?_ | refine b3 ?_ _));refine blk_put (cs:=#[.int .u64 0,.int .u64 0]) ?_ 1 _ rfl;(with_reducible repeat (first | refine b1 ?_ _ | refine b2 ?_ | refine b3 ?_ _));refine blk_put (cs:=#[.int .u64 0,.int .u64 0]) ?_ 0 _ rfl;exact kA) Tryz.underlying76 rfl (by kernel_rfl)) rfl ?_
    exact eA

def config_asked_bounds.f (a0_0 : Int) (a0_1 : Int) (a0_2 : Int) (a0_3 : Int) (a0_4 : Int) (a0_5 : Int) (a0_6 : Int) (a0_7 : Int) : Option (Int × Int × Int × Int):=if a0_4 = 0 then ((wide_Of.f 0).bind fun bt160 => ((wide_Of.f 1).bind fun bt162 => (some (bt160.1,bt160.2,bt162.1,bt162.2)))) else ((config_asked_keeps.f a0_0 a0_1 a0_2 a0_3 a0_4 a0_5 a0_6 a0_7).bind fun t164 => ((config_asked_most.f a0_0 a0_1 a0_2 a0_3 a0_4 a0_5 a0_6 a0_7).bind fun t165 => ((config_up.f (wrap64 (t165 * 81)) 2147483648).bind fun t166 => ((config_asked_area.f a0_0 a0_1 a0_2 a0_3 a0_4 a0_5 a0_6 a0_7).bind fun t167 => ((wide_Of.f (IntKind.u64.wrap (t167))).bind fun bt168 => ((wide_Shl.f bt168.1 bt168.2 32).bind fun bt170 => ((wide_Of.f (IntKind.u64.wrap (a0_4))).bind fun bt172 => ((config_asked_area.f a0_0 a0_1 a0_2 a0_3 a0_4 a0_5 a0_6 a0_7).bind fun t174 => ((wide_Times.f bt172.1 bt172.2 (IntKind.u64.wrap (wrap64 ((wrap64 (258048 * (wrap64 (t164 * (wrap64 (1 + t166)))))) + (wrap64 (2 * t174)))))).bind fun bt175 => ((wide_Add.f bt175.1 bt175.2.1 bt170.1 bt170.2).bind fun bt178 => (some (bt178.1,bt178.2.1,bt170.1,bt170.2))))))))))))
def config_asked_bounds.T3 : Bool × List (List Nat × List Nat):=(true,[([],[]),([0],[0]),([],[]),([2,1],[2]),([3],[3]),([4,3],[4]),([5],[5]),([1,6],[1,6]),([7,5,0,1,2,3,4,5,6,7],[7])])
def config_asked_bounds.B3 : List Nat:=[0,1,0,7,15,31,63,127,255]
theorem config_asked_bounds.tab3 : rtab .any (opsOf Tryz.f76 3) = config_asked_bounds.T3:=by kernel_rfl
theorem config_asked_bounds.bits3 : waitsOk config_asked_bounds.T3.2 config_asked_bounds.B3 = true:=by kernel_rfl
def config_asked_bounds.T5 : Bool × List (List Nat × List Nat):=(true,[([],[]),([0],[0]),([1],[1]),([2],[2]),([3],[3]),([],[]),([5],[5]),([],[]),([7,4],[7]),([8],[8]),([6,9],[6,9]),([10],[10]),([4,11,8],[4,11]),([12],[12]),([13],[13]),([13],[13]),([14,12,0,1,2,3,4,5,6,7,8,9,10,11,12,13,14],[14])])
def config_asked_bounds.B5 : List Nat:=[0,1,3,7,15,0,32,0,159,415,1023,2047,4095,8191,16383,16383,32767]
theorem config_asked_bounds.tab5 : rtab .any (opsOf Tryz.f76 5) = config_asked_bounds.T5:=by kernel_rfl
theorem config_asked_bounds.bits5 : waitsOk config_asked_bounds.T5.2 config_asked_bounds.B5 = true:=by kernel_rfl
theorem config_asked_bounds.calls (a0_0 : Int) (a0_1 : Int) (a0_2 : Int) (a0_3 : Int) (a0_4 : Int) (a0_5 : Int) (a0_6 : Int) (a0_7 : Int) (r1 : Int) (r2 : Int) (r3 : Int) (r4 : Int) (w : World) (h : config_asked_bounds.f a0_0 a0_1 a0_2 a0_3 a0_4 a0_5 a0_6 a0_7 = some (r1,r2,r3,r4)) :
  Calls Tryz.prog 76 #[.agg #[.int .i64 a0_0,.int .i64 a0_1,.int .i64 a0_2,.int .i64 a0_3,.int .i64 a0_4,.int .i64 a0_5,.int .i64 a0_6,.int .i64 a0_7]] w fun e w' => e = .returned (.tuple #[.agg #[.int .u64 r1,.int .u64 r2],.agg #[.int .u64 r3,.int .u64 r4]]) ∧ Below w.heap.size w w':=by
 have hu67:=Tryz.underlying67
 have hu76:=Tryz.underlying76
 have HB:=Am (Below.refl w.heap.size w)
 have H : (if a0_4 = 0 then ((wide_Of.f 0).bind fun bt160 => ((wide_Of.f 1).bind fun bt162 => (some (bt160.1,bt160.2,bt162.1,bt162.2)))) else ((config_asked_keeps.f a0_0 a0_1 a0_2 a0_3 a0_4 a0_5 a0_6 a0_7).bind fun t164 => ((config_asked_most.f a0_0 a0_1 a0_2 a0_3 a0_4 a0_5 a0_6 a0_7).bind fun t165 => ((config_up.f (wrap64 (t165 * 81)) 2147483648).bind fun t166 => ((config_asked_area.f a0_0 a0_1 a0_2 a0_3 a0_4 a0_5 a0_6 a0_7).bind fun t167 => ((wide_Of.f (IntKind.u64.wrap (t167))).bind fun bt168 => ((wide_Shl.f bt168.1 bt168.2 32).bind fun bt170 => ((wide_Of.f (IntKind.u64.wrap (a0_4))).bind fun bt172 => ((config_asked_area.f a0_0 a0_1 a0_2 a0_3 a0_4 a0_5 a0_6 a0_7).bind fun t174 => ((wide_Times.f bt172.1 bt172.2 (IntKind.u64.wrap (wrap64 ((wrap64 (258048 * (wrap64 (t164 * (wrap64 (1 + t166)))))) + (wrap64 (2 * t174)))))).bind fun bt175 => ((wide_Add.f bt175.1 bt175.2.1 bt170.1 bt170.2).bind fun bt178 => (some (bt178.1,bt178.2.1,bt170.1,bt170.2))))))))))))) = some (r1,r2,r3,r4):=h
 clear h
 by_cases c2 : a0_4 = 0
 ·rw [if_pos c2] at H
  have c2b0 : (a0_4 == 0) = true:=beq_iff_eq.mpr c2
  have c2b1 : (a0_4 != 0) = false:=bne_eq_false_iff_eq.mpr c2
  clear c2;obtain ⟨⟨t160,t161⟩,A3,H⟩:=bnd H;(try dsimp only at H);obtain ⟨⟨t162,t163⟩,A4,H⟩:=bnd H;(try dsimp only at H)
  simp only [Option.some.injEq,Prod.mk.injEq] at H
  obtain ⟨rfl,rfl,rfl,rfl⟩:=H
  go_enter Tryz.func76,Tryz.ntmps76
  go_wp2_with (first | ((with_reducible refine gate_dst (N:=1) rfl ?_);refine bxA 1 #[.int .i64 a0_0,.int .i64 a0_1,.int .i64 a0_2,.int .i64 a0_3,.int .i64 a0_4,.int .i64 a0_5,.int .i64 a0_6,.int .i64 a0_7] 67 ?_;intro gb157 hg w5 hbox hb;have BK157:=Am (hbox);have GW157:=Am (gwA hg bA);have GE157:=Am (gwA hg bA);replace HB:=Am (below_step bA hb);clear hb hbox hg) | ((with_reducible refine gate_dst (N:=2) rfl ?_);refine bxA 2 #[.int .u64 0,.int .u64 0] 76 ?_;intro gb158 hg w6 hbox hb;have BK158:=Am (hbox);have GW158:=Am (gwA hg bA);have GE158:=Am (gwA hg bA);have NB157_158:=Am (neA (g:=gb157) hg kA);have NB158_157:=Am (neB (g:=gb157) hg kA);replace BK157:=Am (blk_below (g:=gb157) kA hb);replace HB:=Am (below_step bA hb);clear hb hbox hg) | ((with_reducible refine gate_dst (N:=3) rfl ?_);refine bxA 3 #[.int .u64 0,.int .u64 0] 76 ?_;intro gb159 hg w7 hbox hb;have BK159:=Am (hbox);have GW159:=Am (gwA hg bA);have GE159:=Am (gwA hg bA);have NB157_159:=Am (neA (g:=gb157) hg kA);have NB159_157:=Am (neB (g:=gb157) hg kA);have NB158_159:=Am (neA (g:=gb158) hg kA);have NB159_158:=Am (neB (g:=gb158) hg kA);replace BK157:=Am (blk_below (g:=gb157) kA hb);replace BK158:=Am (blk_below (g:=gb158) kA hb);replace HB:=Am (below_step bA hb);clear hb hbox hg;have hnb8:=NB157_158.out;have hnc8:=NB158_157.out;have hnb9:=NB157_159.out;have hnc9:=NB159_157.out;obtain ⟨hcz10_0,hcz10_1,hcz10_2,hcz10_3,hcz10_4,hcz10_5,hcz10_6,hcz10_7,hfz10_0,hfz10_1,hfz10_2,hfz10_3,hfz10_4,hfz10_5,hfz10_6,hfz10_7⟩:=k8 BK157.out) | ((with_reducible refine gate_callee (f:=59) rfl ?_);refine goesL_ (some 9) rfl rfl Tryz.func59 (by kernel_rfl) rfl #[.int .u64 0] rfl aA ?_;(with_reducible refine (wide_Of.calls 0 t160 t161 _ A3.out).mono ?_);rintro e w11 ⟨rfl,hb⟩;refine ⟨_,rfl,?_⟩;replace BK157:=Am (blk_below (g:=gb157) kA hb);replace BK158:=Am (blk_below (g:=gb158) kA hb);replace BK159:=Am (blk_below (g:=gb159) kA hb);replace HB:=Am (below_step bA hb);(try clear hb)) | ((with_reducible refine gate_callee (f:=59) rfl ?_);refine goesL_ (some 10) rfl rfl Tryz.func59 (by kernel_rfl) rfl #[.int .u64 1] rfl aA ?_;(with_reducible refine (wide_Of.calls 1 t162 t163 _ A4.out).mono ?_);rintro e w12 ⟨rfl,hb⟩;refine ⟨_,rfl,?_⟩;replace BK157:=Am (blk_below (g:=gb157) kA hb);replace BK158:=Am (blk_below (g:=gb158) kA hb);replace BK159:=Am (blk_below (g:=gb159) kA hb);replace HB:=Am (below_step bA hb);(try clear hb);have hnb13:=NB158_159.out;have hnc13:=NB159_158.out;obtain ⟨hcz14_0,hcz14_1,hfz14_0,hfz14_1⟩:=k2 BK158.out;obtain ⟨hcz15_0,hcz15_1,hfz15_0,hfz15_1⟩:=k2 BK159.out))
  refine bodyPost_ret (results_cc rfl _ _ gb158 gb159 76 76 #[.int .u64 t160,.int .u64 t161] #[.int .u64 t162,.int .u64 t163] (0,0) (0,0) _ _ rfl (by (with_reducible repeat (first | refine b1 ?_ _ | refine b2 ?_ | refine b3 ?_ _));refine blk_far ?_ NB158_159.out _;(with_reducible repeat (first | refine b1 ?_ _ | refine b2 ?_ | refine b3 ?_ _));refine blk_far ?_ NB158_159.out _;(with_reducible repeat (first | refine b1 ?_ _ | refine b2 ?_ | refine b3 ?_ _));refine blk_put (cs:=#[.int .u64 t160,.int .u64 0]) ?_ 1 _ rfl;(with_reducible repeat (first | refine b1 ?_ _ | refine b2 ?_ | refine b3 ?_ _));refine blk_put (cs:=#[.int .u64 0,.int .u64 0]) ?_ 0 _ rfl;exact kA) Tryz.underlying76 rfl (by kernel_rfl) rfl (by (with_reducible repeat (first | refine b1 ?_ _ | refine b2 ?_ | refine b3 ?_ _));refine blk_put (cs:=#[.int .u64 t162,.int .u64 0]) ?_ 1 _ rfl;(with_reducible repeat (first | refine b1 ?_ _ | refine b2 ?_ | refine b3 ?_ _));refine blk_put (cs:=#[.int .u64 0,.int .u64 0]) ?_ 0 _ rfl;(with_reducible repeat (first | refine b1 ?_ _ | refine b2 ?_ | refine b3 ?_ _));refine blk_far ?_ NB159_158.out _;(with_reducible repeat (first | refine b1 ?_ _ | refine b2 ?_ | refine b3 ?_ _));refine blk_far ?_ NB159_158.out _;exact kA) Tryz.underlying76 rfl (by kernel_rfl)) rfl ?_
  exact eA
 ·rw [if_neg c2] at H
  have c2b0 : (a0_4 == 0) = false:=beq_eq_false_iff_ne.mpr c2
  have c2b1 : (a0_4 != 0) = true:=bne_iff_ne.mpr c2
  obtain ⟨t164,A16,H⟩:=bnd H;(try dsimp only at H);obtain ⟨t165,A17,H⟩:=bnd H;(try dsimp only at H);obtain ⟨t166,A18,H⟩:=bnd H;(try dsimp only at H);obtain ⟨t167,A19,H⟩:=bnd H;(try dsimp only at H);obtain ⟨⟨t168,t169⟩,A20,H⟩:=bnd H;(try dsimp only at H);replace H:=Option.bind_eq_some_iff.mp H;obtain ⟨⟨t170,t171⟩,A210,H⟩:=H;replace H : ((wide_Of.f (IntKind.u64.wrap (a0_4))).bind fun bt172 => ((config_asked_area.f a0_0 a0_1 a0_2 a0_3 a0_4 a0_5 a0_6 a0_7).bind fun t174 => ((wide_Times.f bt172.1 bt172.2 (IntKind.u64.wrap (wrap64 ((wrap64 (258048 * (wrap64 (t164 * (wrap64 (1 + t166)))))) + (wrap64 (2 * t174)))))).bind fun bt175 => ((wide_Add.f bt175.1 bt175.2.1 t170 t171).bind fun bt178 => (some (bt178.1,bt178.2.1,t170,t171)))))) = some (r1,r2,r3,r4):=H
  have A21:=Aside0.mk A210;clear A210;obtain ⟨⟨t172,t173⟩,A22,H⟩:=bnd H;(try dsimp only at H);obtain ⟨t174,A23,H⟩:=bnd H;(try dsimp only at H);obtain ⟨⟨t175,t176,t177⟩,A24,H⟩:=bnd H;(try dsimp only at H);obtain ⟨⟨t178,t179,t180⟩,A25,H⟩:=bnd H;(try dsimp only at H)
  simp only [Option.some.injEq,Prod.mk.injEq] at H
  obtain ⟨rfl,rfl,rfl,rfl⟩:=H
  go_enter Tryz.func76,Tryz.ntmps76
  try go_wp2_with (first | ((with_reducible refine gate_dst (N:=1) rfl ?_);refine bxA 1 #[.int .i64 a0_0,.int .i64 a0_1,.int .i64 a0_2,.int .i64 a0_3,.int .i64 a0_4,.int .i64 a0_5,.int .i64 a0_6,.int .i64 a0_7] 67 ?_;intro gb157 hg w26 hbox hb;have BK157:=Am (hbox);have GW157:=Am (gwA hg bA);have GE157:=Am (gwA hg bA);replace HB:=Am (below_step bA hb);clear hb hbox hg) | ((with_reducible refine gate_dst (N:=2) rfl ?_);refine bxA 2 #[.int .u64 0,.int .u64 0] 76 ?_;intro gb158 hg w27 hbox hb;have BK158:=Am (hbox);have GW158:=Am (gwA hg bA);have GE158:=Am (gwA hg bA);have NB157_158:=Am (neA (g:=gb157) hg kA);have NB158_157:=Am (neB (g:=gb157) hg kA);replace BK157:=Am (blk_below (g:=gb157) kA hb);replace HB:=Am (below_step bA hb);clear hb hbox hg) | ((with_reducible refine gate_dst (N:=3) rfl ?_);refine bxA 3 #[.int .u64 0,.int .u64 0] 76 ?_;intro gb159 hg w28 hbox hb;have BK159:=Am (hbox);have GW159:=Am (gwA hg bA);have GE159:=Am (gwA hg bA);have NB157_159:=Am (neA (g:=gb157) hg kA);have NB159_157:=Am (neB (g:=gb157) hg kA);have NB158_159:=Am (neA (g:=gb158) hg kA);have NB159_158:=Am (neB (g:=gb158) hg kA);replace BK157:=Am (blk_below (g:=gb157) kA hb);replace BK158:=Am (blk_below (g:=gb158) kA hb);replace HB:=Am (below_step bA hb);clear hb hbox hg;have hnb29:=NB157_158.out;have hnc29:=NB158_157.out;have hnb30:=NB157_159.out;have hnc30:=NB159_157.out;obtain ⟨hcz31_0,hcz31_1,hcz31_2,hcz31_3,hcz31_4,hcz31_5,hcz31_6,hcz31_7,hfz31_0,hfz31_1,hfz31_2,hfz31_3,hfz31_4,hfz31_5,hfz31_6,hfz31_7⟩:=k8 BK157.out))
  replace BK157:=Am (blk_drew BK157.out);replace BK158:=Am (blk_drew BK158.out);replace BK159:=Am (blk_drew BK159.out);replace HB:=Am (below_drew1 HB.out)
  refine start_ (n:=9) (S:=fun w' => w'.cell? ⟨gb157,0,none⟩ = some (.int .i64 a0_0) ∧ w'.cell? ⟨gb157,1,none⟩ = some (.int .i64 a0_1) ∧ w'.cell? ⟨gb157,2,none⟩ = some (.int .i64 a0_2) ∧ w'.cell? ⟨gb157,3,none⟩ = some (.int .i64 a0_3) ∧ w'.cell? ⟨gb157,4,none⟩ = some (.int .i64 a0_4) ∧ w'.cell? ⟨gb157,5,none⟩ = some (.int .i64 a0_5) ∧ w'.cell? ⟨gb157,6,none⟩ = some (.int .i64 a0_6) ∧ w'.cell? ⟨gb157,7,none⟩ = some (.int .i64 a0_7)) (ds:=[]) #[nn,nn,nn,nn,nn,nn,nn,nn,nn] (by kernel_rfl) rfl rfl (q8 BK157.out) (fun hHeld => ?_);refine with_tabW config_asked_bounds.tab3 config_asked_bounds.bits3 (fun HT_ HW_ => ?_)
  generalize w28.drew = w32 at BK157 BK158 BK159 HB hHeld ⊢
  refine tk_ 0 (some 11) #[yy,nn,nn,nn,nn,nn,nn,nn,nn] (take_ofW HT_.out HW_.out (by kernel_rfl)) hHeld ?_
  refine tk_ 2 (some 13) #[yy,nn,yy,nn,nn,nn,nn,nn,nn] (take_ofW HT_.out HW_.out (by kernel_rfl)) hHeld ?_
  refine one_ (i:=1) (N:=some 12) #[yy,yy,yy,nn,nn,nn,nn,nn,nn] rfl rfl (one_of HT_.out (by kernel_rfl)) (by decide) (fun K hK => ?_)
  refine goes_ Tryz.func95 (by kernel_rfl) rfl #[.agg #[.int .i64 a0_0,.int .i64 a0_1,.int .i64 a0_2,.int .i64 a0_3,.int .i64 a0_4,.int .i64 a0_5,.int .i64 a0_6,.int .i64 a0_7]] (by rfl) rfl rfl aA ?_
  with_reducible refine (config_asked_keeps.calls a0_0 a0_1 a0_2 a0_3 a0_4 a0_5 a0_6 a0_7 t164 _ A16.out).mono ?_
  rintro e w33 ⟨rfl,hb⟩
  refine ⟨_,rfl,?_⟩;replace BK157:=Am (blk_below (g:=gb157) kA hb);replace BK158:=Am (blk_below (g:=gb158) kA hb);replace BK159:=Am (blk_below (g:=gb159) kA hb);replace HB:=Am (below_step bA hb);(try clear hb)
  refine hK.out _ _ (q8 BK157.out) (fun hHeld => ?_)
  clear hK K
  refine nm_ ?_
  refine one_ (i:=3) (N:=some 14) #[yy,yy,yy,yy,nn,nn,nn,nn,nn] rfl rfl (one_of HT_.out (by kernel_rfl)) (by decide) (fun K hK => ?_)
  refine goes_ Tryz.func74 (by kernel_rfl) rfl #[.agg #[.int .i64 a0_0,.int .i64 a0_1,.int .i64 a0_2,.int .i64 a0_3,.int .i64 a0_4,.int .i64 a0_5,.int .i64 a0_6,.int .i64 a0_7]] (by rfl) rfl rfl aA ?_
  with_reducible refine (config_asked_most.calls a0_0 a0_1 a0_2 a0_3 a0_4 a0_5 a0_6 a0_7 t165 _ A17.out).mono ?_
  rintro e w34 ⟨rfl,hb⟩
  refine ⟨_,rfl,?_⟩;replace BK157:=Am (blk_below (g:=gb157) kA hb);replace BK158:=Am (blk_below (g:=gb158) kA hb);replace BK159:=Am (blk_below (g:=gb159) kA hb);replace HB:=Am (below_step bA hb);(try clear hb)
  refine hK.out _ _ (q8 BK157.out) (fun hHeld => ?_)
  clear hK K
  refine nm_ ?_
  refine pu_ 4 (some 15) #[yy,yy,yy,yy,yy,nn,nn,nn,nn] (any_of HT_.out (by kernel_rfl)) ?_
  refine one_ (i:=5) (N:=some 16) #[yy,yy,yy,yy,yy,yy,nn,nn,nn] rfl rfl (one_of HT_.out (by kernel_rfl)) (by decide) (fun K hK => ?_)
  refine goes_ Tryz.func96 (by kernel_rfl) rfl #[.int .i64 (wrap64 (t165 * 81)),.int .i64 2147483648] (by rfl) rfl rfl aA ?_
  with_reducible refine (config_up.calls (wrap64 (t165 * 81)) 2147483648 t166 _ A18.out).mono ?_
  rintro e w' ⟨rfl,⟨nd,rfl⟩⟩
  refine ⟨_,rfl,?_⟩
  refine hK.out _ _ (q8 BK157.out) (fun hHeld => ?_)
  clear hK K
  refine nm_ ?_
  refine pu_ 6 (some 17) #[yy,yy,yy,yy,yy,yy,yy,nn,nn] (any_of HT_.out (by kernel_rfl)) ?_
  refine pu_ 7 (some 18) #[yy,yy,yy,yy,yy,yy,yy,yy,nn] (any_of HT_.out (by kernel_rfl)) ?_
  refine pu_ 8 (some 4) #[yy,yy,yy,yy,yy,yy,yy,yy,yy] (any_of HT_.out (by kernel_rfl)) ?_
  refine done_ (done_of HT_.out (by kernel_rfl)) ?_
  obtain ⟨hcz35_0,hcz35_1,hcz35_2,hcz35_3,hcz35_4,hcz35_5,hcz35_6,hcz35_7,hfz35_0,hfz35_1,hfz35_2,hfz35_3,hfz35_4,hfz35_5,hfz35_6,hfz35_7⟩:=k8 BK157.out
  try go_wp2_with (first | ((with_reducible refine gate_callee (f:=44) rfl ?_);refine goesL_ (some 20) rfl rfl Tryz.func44 (by kernel_rfl) rfl #[.agg #[.int .i64 a0_0,.int .i64 a0_1,.int .i64 a0_2,.int .i64 a0_3,.int .i64 a0_4,.int .i64 a0_5,.int .i64 a0_6,.int .i64 a0_7]] rfl aA ?_;(with_reducible refine (config_asked_area.calls a0_0 a0_1 a0_2 a0_3 a0_4 a0_5 a0_6 a0_7 t167 _ A19.out).mono ?_);rintro e w36 ⟨rfl,hb⟩;refine ⟨_,rfl,?_⟩;replace BK157:=Am (blk_below (g:=gb157) kA hb);replace BK158:=Am (blk_below (g:=gb158) kA hb);replace BK159:=Am (blk_below (g:=gb159) kA hb);replace HB:=Am (below_step bA hb);(try clear hb)) | ((with_reducible refine gate_callee (f:=59) rfl ?_);refine goesL_ (some 22) rfl rfl Tryz.func59 (by kernel_rfl) rfl #[.int .u64 (IntKind.u64.wrap (t167))] rfl aA ?_;(with_reducible refine (wide_Of.calls (IntKind.u64.wrap (t167)) t168 t169 _ A20.out).mono ?_);rintro e w37 ⟨rfl,hb⟩;refine ⟨_,rfl,?_⟩;replace BK157:=Am (blk_below (g:=gb157) kA hb);replace BK158:=Am (blk_below (g:=gb158) kA hb);replace BK159:=Am (blk_below (g:=gb159) kA hb);replace HB:=Am (below_step bA hb);(try clear hb)) | ((with_reducible refine gate_callee (f:=97) rfl ?_);refine goesL_ (some 23) rfl rfl Tryz.func97 (by kernel_rfl) rfl #[.agg #[.int .u64 t168,.int .u64 t169],.int .i64 32] rfl aA ?_;(with_reducible refine (wide_Shl.calls t168 t169 32 t170 t171 _ A21.out).mono ?_);rintro e w38 ⟨rfl,hb⟩;refine ⟨_,rfl,?_⟩;replace BK157:=Am (blk_below (g:=gb157) kA hb);replace BK158:=Am (blk_below (g:=gb158) kA hb);replace BK159:=Am (blk_below (g:=gb159) kA hb);replace HB:=Am (below_step bA hb);(try clear hb);have hnb39:=NB159_158.out;have hnc39:=NB158_159.out;obtain ⟨hcz40_0,hcz40_1,hfz40_0,hfz40_1⟩:=k2 BK159.out))
  have n0_ : Aside0 (((w38.setCell ⟨gb159,0,none⟩ (.int .u64 t170)).setCell ⟨gb159,1,none⟩ (.int .u64 t171)).heap[gb157]? = some (.cells #[.int .i64 a0_0,.int .i64 a0_1,.int .i64 a0_2,.int .i64 a0_3,.int .i64 a0_4,.int .i64 a0_5,.int .i64 a0_6,.int .i64 a0_7] 67 (0,0))):=⟨kF⟩
  have n1_ : Aside0 (((w38.setCell ⟨gb159,0,none⟩ (.int .u64 t170)).setCell ⟨gb159,1,none⟩ (.int .u64 t171)).heap[gb158]? = some (.cells #[.int .u64 0,.int .u64 0] 76 (0,0))):=⟨kF⟩
  have n2_ : Aside0 (((w38.setCell ⟨gb159,0,none⟩ (.int .u64 t170)).setCell ⟨gb159,1,none⟩ (.int .u64 t171)).heap[gb159]? = some (.cells #[.int .u64 t170,.int .u64 t171] 76 (0,0))):=⟨by (with_reducible repeat (first | refine b1 ?_ _ | refine b2 ?_ | refine b3 ?_ _));refine blk_put (cs:=#[.int .u64 t170,.int .u64 0]) ?_ 1 _ rfl;(with_reducible repeat (first | refine b1 ?_ _ | refine b2 ?_ | refine b3 ?_ _));refine blk_put (cs:=#[.int .u64 0,.int .u64 0]) ?_ 0 _ rfl;exact kA⟩
  have n3_ : Aside0 (Below w.heap.size w ((w38.setCell ⟨gb159,0,none⟩ (.int .u64 t170)).setCell ⟨gb159,1,none⟩ (.int .u64 t171))):=⟨bA⟩
  (try clear BK157);(try clear BK158);(try clear BK159);(try clear HB)
  generalize ((w38.setCell ⟨gb159,0,none⟩ (.int .u64 t170)).setCell ⟨gb159,1,none⟩ (.int .u64 t171)) = w41 at n0_ n1_ n2_ n3_ ⊢
  have BK157:=n0_;have BK158:=n1_;have BK159:=n2_;have HB:=n3_;clear n0_ n1_ n2_ n3_;replace BK157:=Am (blk_drew BK157.out);replace BK158:=Am (blk_drew BK158.out);replace BK159:=Am (blk_drew BK159.out);replace HB:=Am (below_drew1 HB.out)
  refine start_ (n:=17) (S:=fun w' => w'.cell? ⟨gb157,0,none⟩ = some (.int .i64 a0_0) ∧ w'.cell? ⟨gb157,1,none⟩ = some (.int .i64 a0_1) ∧ w'.cell? ⟨gb157,2,none⟩ = some (.int .i64 a0_2) ∧ w'.cell? ⟨gb157,3,none⟩ = some (.int .i64 a0_3) ∧ w'.cell? ⟨gb157,4,none⟩ = some (.int .i64 a0_4) ∧ w'.cell? ⟨gb157,5,none⟩ = some (.int .i64 a0_5) ∧ w'.cell? ⟨gb157,6,none⟩ = some (.int .i64 a0_6) ∧ w'.cell? ⟨gb157,7,none⟩ = some (.int .i64 a0_7)) (ds:=[]) #[nn,nn,nn,nn,nn,nn,nn,nn,nn,nn,nn,nn,nn,nn,nn,nn,nn] (by kernel_rfl) rfl rfl (q8 BK157.out) (fun hHeld => ?_);refine with_tabW config_asked_bounds.tab5 config_asked_bounds.bits5 (fun HT_ HW_ => ?_)
  generalize w41.drew = w42 at BK157 BK158 BK159 HB hHeld ⊢
  refine pu_ 0 (some 25) #[yy,nn,nn,nn,nn,nn,nn,nn,nn,nn,nn,nn,nn,nn,nn,nn,nn] (any_of HT_.out (by kernel_rfl)) ?_
  refine pu_ 1 (some 26) #[yy,yy,nn,nn,nn,nn,nn,nn,nn,nn,nn,nn,nn,nn,nn,nn,nn] (any_of HT_.out (by kernel_rfl)) ?_
  refine pu_ 5 (some 30) #[yy,yy,nn,nn,nn,yy,nn,nn,nn,nn,nn,nn,nn,nn,nn,nn,nn] (any_of HT_.out (by kernel_rfl)) ?_
  refine pu_ 6 (some 31) #[yy,yy,nn,nn,nn,yy,yy,nn,nn,nn,nn,nn,nn,nn,nn,nn,nn] (any_of HT_.out (by kernel_rfl)) ?_
  refine tk_ 2 (some 27) #[yy,yy,yy,nn,nn,yy,yy,nn,nn,nn,nn,nn,nn,nn,nn,nn,nn] (take_ofW HT_.out HW_.out (by kernel_rfl)) hHeld ?_
  refine pu_ 3 (some 28) #[yy,yy,yy,yy,nn,yy,yy,nn,nn,nn,nn,nn,nn,nn,nn,nn,nn] (any_of HT_.out (by kernel_rfl)) ?_
  refine tk_ 7 (some 32) #[yy,yy,yy,yy,nn,yy,yy,yy,nn,nn,nn,nn,nn,nn,nn,nn,nn] (take_ofW HT_.out HW_.out (by kernel_rfl)) hHeld ?_
  refine one_ (i:=4) (N:=some 29) #[yy,yy,yy,yy,yy,yy,yy,yy,nn,nn,nn,nn,nn,nn,nn,nn,nn] rfl rfl (one_of HT_.out (by kernel_rfl)) (by decide) (fun K hK => ?_)
  refine goes_ Tryz.func59 (by kernel_rfl) rfl #[.int .u64 (IntKind.u64.wrap (a0_4))] (by rfl) rfl rfl aA ?_
  with_reducible refine (wide_Of.calls (IntKind.u64.wrap (a0_4)) t172 t173 _ A22.out).mono ?_
  rintro e w43 ⟨rfl,hb⟩
  refine ⟨_,rfl,?_⟩;replace BK157:=Am (blk_below (g:=gb157) kA hb);replace BK158:=Am (blk_below (g:=gb158) kA hb);replace BK159:=Am (blk_below (g:=gb159) kA hb);replace HB:=Am (below_step bA hb);(try clear hb)
  refine hK.out _ _ (q8 BK157.out) (fun hHeld => ?_)
  clear hK K
  refine nm_ ?_
  refine one_ (i:=8) (N:=some 33) #[yy,yy,yy,yy,yy,yy,yy,yy,yy,nn,nn,nn,nn,nn,nn,nn,nn] rfl rfl (one_of HT_.out (by kernel_rfl)) (by decide) (fun K hK => ?_)
  refine goes_ Tryz.func44 (by kernel_rfl) rfl #[.agg #[.int .i64 a0_0,.int .i64 a0_1,.int .i64 a0_2,.int .i64 a0_3,.int .i64 a0_4,.int .i64 a0_5,.int .i64 a0_6,.int .i64 a0_7]] (by rfl) rfl rfl aA ?_
  with_reducible refine (config_asked_area.calls a0_0 a0_1 a0_2 a0_3 a0_4 a0_5 a0_6 a0_7 t174 _ A23.out).mono ?_
  rintro e w44 ⟨rfl,hb⟩
  refine ⟨_,rfl,?_⟩;replace BK157:=Am (blk_below (g:=gb157) kA hb);replace BK158:=Am (blk_below (g:=gb158) kA hb);replace BK159:=Am (blk_below (g:=gb159) kA hb);replace HB:=Am (below_step bA hb);(try clear hb)
  refine hK.out _ _ (q8 BK157.out) (fun hHeld => ?_)
  clear hK K
  refine nm_ ?_
  refine pu_ 9 (some 34) #[yy,yy,yy,yy,yy,yy,yy,yy,yy,yy,nn,nn,nn,nn,nn,nn,nn] (any_of HT_.out (by kernel_rfl)) ?_
  refine pu_ 10 (some 35) #[yy,yy,yy,yy,yy,yy,yy,yy,yy,yy,yy,nn,nn,nn,nn,nn,nn] (any_of HT_.out (by kernel_rfl)) ?_
  refine pu_ 11 (some 36) #[yy,yy,yy,yy,yy,yy,yy,yy,yy,yy,yy,yy,nn,nn,nn,nn,nn] (any_of HT_.out (by kernel_rfl)) ?_
  refine one_ (i:=12) (N:=some 37) #[yy,yy,yy,yy,yy,yy,yy,yy,yy,yy,yy,yy,yy,nn,nn,nn,nn] rfl rfl (one_of HT_.out (by kernel_rfl)) (by decide) (fun K hK => ?_)
  refine goes_ Tryz.func77 (by kernel_rfl) rfl #[.agg #[.int .u64 t172,.int .u64 t173],.int .u64 (IntKind.u64.wrap (wrap64 ((wrap64 (258048 * (wrap64 (t164 * (wrap64 (1 + t166)))))) + (wrap64 (2 * t174)))))] (by rfl) rfl rfl aA ?_
  with_reducible refine (wide_Times.calls t172 t173 (IntKind.u64.wrap (wrap64 ((wrap64 (258048 * (wrap64 (t164 * (wrap64 (1 + t166)))))) + (wrap64 (2 * t174))))) t175 t176 t177 _ A24.out).mono ?_
  rintro e w45 ⟨rfl,hb⟩
  refine ⟨_,rfl,?_⟩;replace BK157:=Am (blk_below (g:=gb157) kA hb);replace BK158:=Am (blk_below (g:=gb158) kA hb);replace BK159:=Am (blk_below (g:=gb159) kA hb);replace HB:=Am (below_step bA hb);(try clear hb)
  refine hK.out _ _ (q8 BK157.out) (fun hHeld => ?_)
  clear hK K
  refine nm_ ?_
  refine pu_ 13 (some 24) #[yy,yy,yy,yy,yy,yy,yy,yy,yy,yy,yy,yy,yy,yy,nn,nn,nn] (any_of HT_.out (by kernel_rfl)) ?_
  refine pu_ 14 (some 38) #[yy,yy,yy,yy,yy,yy,yy,yy,yy,yy,yy,yy,yy,yy,yy,nn,nn] (any_of HT_.out (by kernel_rfl)) ?_
  refine pu_ 15 (some 39) #[yy,yy,yy,yy,yy,yy,yy,yy,yy,yy,yy,yy,yy,yy,yy,yy,nn] (any_of HT_.out (by kernel_rfl)) ?_
  refine one_ (i:=16) (N:=none) #[yy,yy,yy,yy,yy,yy,yy,yy,yy,yy,yy,yy,yy,yy,yy,yy,yy] rfl rfl (one_of HT_.out (by kernel_rfl)) (by decide) (fun K hK => ?_)
  have hs46 : w45.cell? ⟨gb158,0,none⟩ = some (.int .u64 0):=(blk_cell BK158.out 0).trans rfl
  have hfs46:=blk_frozen BK158.out 0
  have hns46_0:=NB157_158.out
  have hns46_2:=NB159_158.out
  have hms46_0:=NB158_157.out
  have hms46_2:=NB158_159.out
  have hs47 : w45.cell? ⟨gb158,1,none⟩ = some (.int .u64 0):=(blk_cell BK158.out 1).trans rfl
  have hfs47:=blk_frozen BK158.out 1
  have hns47_0:=NB157_158.out
  have hns47_2:=NB159_158.out
  have hms47_0:=NB158_157.out
  have hms47_2:=NB158_159.out
  refine skip_ (w1:=?_) (by rfl) rfl ?_ ?_
  rotate_left
  ·go_simp
   rfl
  refine hK.out _ _ ⟨((cell_far (p:=⟨gb158,_,none⟩) NB157_158.out _).trans (((cell_far (p:=⟨gb158,_,none⟩) NB157_158.out _).trans (hHeld.1)))),((cell_far (p:=⟨gb158,_,none⟩) NB157_158.out _).trans (((cell_far (p:=⟨gb158,_,none⟩) NB157_158.out _).trans (hHeld.2.1)))),((cell_far (p:=⟨gb158,_,none⟩) NB157_158.out _).trans (((cell_far (p:=⟨gb158,_,none⟩) NB157_158.out _).trans (hHeld.2.2.1)))),((cell_far (p:=⟨gb158,_,none⟩) NB157_158.out _).trans (((cell_far (p:=⟨gb158,_,none⟩) NB157_158.out _).trans (hHeld.2.2.2.1)))),((cell_far (p:=⟨gb158,_,none⟩) NB157_158.out _).trans (((cell_far (p:=⟨gb158,_,none⟩) NB157_158.out _).trans (hHeld.2.2.2.2.1)))),((cell_far (p:=⟨gb158,_,none⟩) NB157_158.out _).trans (((cell_far (p:=⟨gb158,_,none⟩) NB157_158.out _).trans (hHeld.2.2.2.2.2.1)))),((cell_far (p:=⟨gb158,_,none⟩) NB157_158.out _).trans (((cell_far (p:=⟨gb158,_,none⟩) NB157_158.out _).trans (hHeld.2.2.2.2.2.2.1)))),((cell_far (p:=⟨gb158,_,none⟩) NB157_158.out _).trans (((cell_far (p:=⟨gb158,_,none⟩) NB157_158.out _).trans (hHeld.2.2.2.2.2.2.2))))⟩ (fun hHeld => ?_)
  clear hK K
  refine done_ (done_of HT_.out (by kernel_rfl)) ?_
  obtain ⟨hcz48_0,hcz48_1,hfz48_0,hfz48_1⟩:=k2 BK158.out
  obtain ⟨hcz49_0,hcz49_1,hfz49_0,hfz49_1⟩:=k2 BK159.out
  try go_wp2_with (first | ((with_reducible refine gate_callee (f:=61) rfl ?_);refine goesL_ (some 43) rfl rfl Tryz.func61 (by kernel_rfl) rfl #[.agg #[.int .u64 t175,.int .u64 t176],.agg #[.int .u64 t170,.int .u64 t171]] rfl aA ?_;(with_reducible refine (wide_Add.calls t175 t176 t170 t171 t178 t179 t180 _ A25.out).mono ?_);rintro e w50 ⟨rfl,hb⟩;refine ⟨_,rfl,?_⟩;replace BK157:=Am (blk_below (g:=gb157) (o:=.cells #[.int .i64 a0_0,.int .i64 a0_1,.int .i64 a0_2,.int .i64 a0_3,.int .i64 a0_4,.int .i64 a0_5,.int .i64 a0_6,.int .i64 a0_7] 67 (0,0)) kF hb);replace BK158:=Am (blk_below (g:=gb158) (o:=.cells #[.int .u64 t175,.int .u64 t176] 76 (0,0)) (by (with_reducible repeat (first | refine b1 ?_ _ | refine b2 ?_ | refine b3 ?_ _));refine blk_put (cs:=#[.int .u64 t175,.int .u64 0]) ?_ 1 _ rfl;(with_reducible repeat (first | refine b1 ?_ _ | refine b2 ?_ | refine b3 ?_ _));refine blk_put (cs:=#[.int .u64 0,.int .u64 0]) ?_ 0 _ rfl;exact kA) hb);replace BK159:=Am (blk_below (g:=gb159) (o:=.cells #[.int .u64 t170,.int .u64 t171] 76 (0,0)) kF hb);replace HB:=Am (below_step bA hb);(try clear hb);obtain ⟨hcz51_0,hcz51_1,hfz51_0,hfz51_1⟩:=k2 BK158.out))
  have n1_ : Aside0 (((w50.setCell ⟨gb158,0,none⟩ (.int .u64 t178)).setCell ⟨gb158,1,none⟩ (.int .u64 t179)).heap[gb158]? = some (.cells #[.int .u64 t178,.int .u64 t179] 76 (0,0))):=⟨by (with_reducible repeat (first | refine b1 ?_ _ | refine b2 ?_ | refine b3 ?_ _));refine blk_put (cs:=#[.int .u64 t178,.int .u64 t176]) ?_ 1 _ rfl;(with_reducible repeat (first | refine b1 ?_ _ | refine b2 ?_ | refine b3 ?_ _));refine blk_put (cs:=#[.int .u64 t175,.int .u64 t176]) ?_ 0 _ rfl;(with_reducible repeat (first | refine b1 ?_ _ | refine b2 ?_ | refine b3 ?_ _));exact BK158.out⟩
  have n2_ : Aside0 (((w50.setCell ⟨gb158,0,none⟩ (.int .u64 t178)).setCell ⟨gb158,1,none⟩ (.int .u64 t179)).heap[gb159]? = some (.cells #[.int .u64 t170,.int .u64 t171] 76 (0,0))):=⟨by (with_reducible repeat (first | refine b1 ?_ _ | refine b2 ?_ | refine b3 ?_ _));refine blk_far ?_ NB159_158.out _;(with_reducible repeat (first | refine b1 ?_ _ | refine b2 ?_ | refine b3 ?_ _));refine blk_far ?_ NB159_158.out _;(with_reducible repeat (first | refine b1 ?_ _ | refine b2 ?_ | refine b3 ?_ _));exact BK159.out⟩
  have n3_ : Aside0 (Below w.heap.size w ((w50.setCell ⟨gb158,0,none⟩ (.int .u64 t178)).setCell ⟨gb158,1,none⟩ (.int .u64 t179))):=⟨bA⟩
  clear BK158 BK159 HB
  generalize ((w50.setCell ⟨gb158,0,none⟩ (.int .u64 t178)).setCell ⟨gb158,1,none⟩ (.int .u64 t179)) = wq1 at n1_ n2_ n3_ ⊢
  have BK158:=Am (blk_drew n1_.out)
  have BK159:=Am (blk_drew n2_.out)
  have HB:=Am (below_drew1 n3_.out)
  clear n1_ n2_ n3_
  refine start_ (n:=4) (S:=fun w' => w'.cell? ⟨gb158,0,none⟩ = some (.int .u64 t178) ∧ w'.cell? ⟨gb158,1,none⟩ = some (.int .u64 t179) ∧ w'.cell? ⟨gb159,0,none⟩ = some (.int .u64 t170) ∧ w'.cell? ⟨gb159,1,none⟩ = some (.int .u64 t171)) (ds:=[]) #[nn,nn,nn,nn] (by kernel_rfl) rfl rfl ⟨cl BK158.out 0,cl BK158.out 1,cl BK159.out 0,cl BK159.out 1⟩ (fun hHeld => ?_)
  generalize wq1.drew = wq2 at BK158 BK159 HB hHeld ⊢
  refine tk_ 0 (some 46) #[yy,nn,nn,nn] (by kernel_rfl) hHeld ?_
  refine tk_ 1 (some 47) #[yy,yy,nn,nn] (by kernel_rfl) hHeld ?_
  refine one_ (i:=2) (N:=none) #[yy,yy,yy,nn] rfl rfl (by kernel_rfl) (by decide) (fun K hK => ?_)
  have hs0_2 : wq2.cell? ⟨gb158,0,none⟩ = some (.int .u64 t178):=(blk_cell BK158.out 0).trans rfl
  have hf0_2:=blk_frozen BK158.out 0
  have hs1_2 : wq2.cell? ⟨gb158,1,none⟩ = some (.int .u64 t179):=(blk_cell BK158.out 1).trans rfl
  have hf1_2:=blk_frozen BK158.out 1
  refine skip_ (w1:=?_) (by rfl) rfl ?_ ?_
  rotate_left
  ·go_simp
   rfl
  have n1_ : Aside0 (((wq2.setCell ⟨gb158,0,none⟩ (.int .u64 t178)).setCell ⟨gb158,1,none⟩ (.int .u64 t179)).heap[gb158]? = some (.cells #[.int .u64 t178,.int .u64 t179] 76 (0,0))):=⟨by (with_reducible repeat (first | refine b1 ?_ _ | refine b2 ?_ | refine b3 ?_ _));refine blk_put (cs:=#[.int .u64 t178,.int .u64 t179]) ?_ 1 _ rfl;(with_reducible repeat (first | refine b1 ?_ _ | refine b2 ?_ | refine b3 ?_ _));refine blk_put (cs:=#[.int .u64 t178,.int .u64 t179]) ?_ 0 _ rfl;(with_reducible repeat (first | refine b1 ?_ _ | refine b2 ?_ | refine b3 ?_ _));exact BK158.out⟩
  have n2_ : Aside0 (((wq2.setCell ⟨gb158,0,none⟩ (.int .u64 t178)).setCell ⟨gb158,1,none⟩ (.int .u64 t179)).heap[gb159]? = some (.cells #[.int .u64 t170,.int .u64 t171] 76 (0,0))):=⟨by (with_reducible repeat (first | refine b1 ?_ _ | refine b2 ?_ | refine b3 ?_ _));refine blk_far ?_ NB159_158.out _;(with_reducible repeat (first | refine b1 ?_ _ | refine b2 ?_ | refine b3 ?_ _));refine blk_far ?_ NB159_158.out _;(with_reducible repeat (first | refine b1 ?_ _ | refine b2 ?_ | refine b3 ?_ _));exact BK159.out⟩
  have n3_ : Aside0 (Below w.heap.size w ((wq2.setCell ⟨gb158,0,none⟩ (.int .u64 t178)).setCell ⟨gb158,1,none⟩ (.int .u64 t179))):=⟨bA⟩
  clear hHeld hs0_2 hf0_2 hs1_2 hf1_2 BK158 BK159 HB
  have BK158:=n1_
  have BK159:=n2_
  have HB:=n3_
  clear n1_ n2_ n3_
  generalize ((wq2.setCell ⟨gb158,0,none⟩ (.int .u64 t178)).setCell ⟨gb158,1,none⟩ (.int .u64 t179)) = wq3 at BK158 BK159 HB ⊢
  refine hK.out _ _ ⟨cl BK158.out 0,cl BK158.out 1,cl BK159.out 0,cl BK159.out 1⟩ (fun hHeld => ?_)
  clear hK K
  refine one_ (i:=3) (N:=none) #[yy,yy,yy,yy] rfl rfl (by kernel_rfl) (by decide) (fun K hK => ?_)
  have hs0_3 : wq3.cell? ⟨gb159,0,none⟩ = some (.int .u64 t170):=(blk_cell BK159.out 0).trans rfl
  have hf0_3:=blk_frozen BK159.out 0
  have hs1_3 : wq3.cell? ⟨gb159,1,none⟩ = some (.int .u64 t171):=(blk_cell BK159.out 1).trans rfl
  have hf1_3:=blk_frozen BK159.out 1
  refine skip_ (w1:=?_) (by rfl) rfl ?_ ?_
  rotate_left
  ·go_simp
   rfl
  have n1_ : Aside0 (((wq3.setCell ⟨gb159,0,none⟩ (.int .u64 t170)).setCell ⟨gb159,1,none⟩ (.int .u64 t171)).heap[gb159]? = some (.cells #[.int .u64 t170,.int .u64 t171] 76 (0,0))):=⟨by (with_reducible repeat (first | refine b1 ?_ _ | refine b2 ?_ | refine b3 ?_ _));refine blk_put (cs:=#[.int .u64 t170,.int .u64 t171]) ?_ 1 _ rfl;(with_reducible repeat (first | refine b1 ?_ _ | refine b2 ?_ | refine b3 ?_ _));refine blk_put (cs:=#[.int .u64 t170,.int .u64 t171]) ?_ 0 _ rfl;(with_reducible repeat (first | refine b1 ?_ _ | refine b2 ?_ | refine b3 ?_ _));exact BK159.out⟩
  have n2_ : Aside0 (((wq3.setCell ⟨gb159,0,none⟩ (.int .u64 t170)).setCell ⟨gb159,1,none⟩ (.int .u64 t171)).heap[gb158]? = some (.cells #[.int .u64 t178,.int .u64 t179] 76 (0,0))):=⟨by (with_reducible repeat (first | refine b1 ?_ _ | refine b2 ?_ | refine b3 ?_ _));refine blk_far ?_ NB158_159.out _;(with_reducible repeat (first | refine b1 ?_ _ | refine b2 ?_ | refine b3 ?_ _));refine blk_far ?_ NB158_159.out _;(with_reducible repeat (first | refine b1 ?_ _ | refine b2 ?_ | refine b3 ?_ _));exact BK158.out⟩
  have n3_ : Aside0 (Below w.heap.size w ((wq3.setCell ⟨gb159,0,none⟩ (.int .u64 t170)).setCell ⟨gb159,1,none⟩ (.int .u64 t171))):=⟨bA⟩
  clear hHeld hs0_3 hf0_3 hs1_3 hf1_3 BK159 BK158 HB
  have BK159:=n1_
  have BK158:=n2_
  have HB:=n3_
  clear n1_ n2_ n3_
  generalize ((wq3.setCell ⟨gb159,0,none⟩ (.int .u64 t170)).setCell ⟨gb159,1,none⟩ (.int .u64 t171)) = wq4 at BK159 BK158 HB ⊢
  refine hK.out _ _ ⟨cl BK158.out 0,cl BK158.out 1,cl BK159.out 0,cl BK159.out 1⟩ (fun hHeld => ?_)
  clear hK K
  refine done_ (by kernel_rfl) ?_
  try go_wp2
  refine bodyPost_ret (results_cc rfl _ _ gb158 gb159 76 76 #[.int .u64 t178,.int .u64 t179] #[.int .u64 t170,.int .u64 t171] (0,0) (0,0) _ _ rfl kA Tryz.underlying76 rfl (by kernel_rfl) rfl kA Tryz.underlying76 rfl (by kernel_rfl)) rfl ?_
  exact eA

def config_asked_lead.f (a0_0 : Int) (a0_1 : Int) (a0_2 : Int) (a0_3 : Int) (a0_4 : Int) (a0_5 : Int) (a0_6 : Int) (a0_7 : Int) : Option (Int):=(config_asked_fairSize.f a0_0 a0_1 a0_2 a0_3 a0_4 a0_5 a0_6 a0_7).bind fun t182 => (if a0_3 = 0 then (none) else (some (wrap64 (Int.tdiv t182 a0_3))))
theorem config_asked_lead.calls (a0_0 : Int) (a0_1 : Int) (a0_2 : Int) (a0_3 : Int) (a0_4 : Int) (a0_5 : Int) (a0_6 : Int) (a0_7 : Int) (r : Int) (w : World) (h : config_asked_lead.f a0_0 a0_1 a0_2 a0_3 a0_4 a0_5 a0_6 a0_7 = some r) :
  Calls Tryz.prog 98 #[.agg #[.int .i64 a0_0,.int .i64 a0_1,.int .i64 a0_2,.int .i64 a0_3,.int .i64 a0_4,.int .i64 a0_5,.int .i64 a0_6,.int .i64 a0_7]] w fun e w' => e = .returned (.int .i64 r) ∧ Below w.heap.size w w':=by
 have hu67:=Tryz.underlying67
 have HB:=Am (Below.refl w.heap.size w)
 have H : ((config_asked_fairSize.f a0_0 a0_1 a0_2 a0_3 a0_4 a0_5 a0_6 a0_7).bind fun t182 => (if a0_3 = 0 then (none) else (some (wrap64 (Int.tdiv t182 a0_3))))) = some r:=h
 clear h;obtain ⟨t182,A2,H⟩:=bnd H;(try dsimp only at H)
 by_cases c3 : a0_3 = 0
 ·rw [if_pos c3] at H
  exact absurd H (by simp)
 ·rw [if_neg c3] at H
  have c3b0 : (a0_3 == 0) = false:=beq_eq_false_iff_ne.mpr c3
  have c3b1 : (a0_3 != 0) = true:=bne_iff_ne.mpr c3
  obtain rfl:=Option.some.inj H
  go_enter Tryz.func98,Tryz.ntmps98
  try go_wp2_with (first | ((with_reducible refine gate_dst (N:=1) rfl ?_);refine bxA 1 #[.int .i64 a0_0,.int .i64 a0_1,.int .i64 a0_2,.int .i64 a0_3,.int .i64 a0_4,.int .i64 a0_5,.int .i64 a0_6,.int .i64 a0_7] 67 ?_;intro gb181 hg w4 hbox hb;have BK181:=Am (hbox);have GW181:=Am (gwA hg bA);have GE181:=Am (gwA hg bA);replace HB:=Am (below_step bA hb);clear hb hbox hg))
  replace BK181:=Am (blk_drew BK181.out);replace HB:=Am (below_drew1 HB.out)
  refine start_ (n:=7) (S:=fun w' => w'.cell? ⟨gb181,0,none⟩ = some (.int .i64 a0_0) ∧ w'.cell? ⟨gb181,1,none⟩ = some (.int .i64 a0_1) ∧ w'.cell? ⟨gb181,2,none⟩ = some (.int .i64 a0_2) ∧ w'.cell? ⟨gb181,3,none⟩ = some (.int .i64 a0_3) ∧ w'.cell? ⟨gb181,4,none⟩ = some (.int .i64 a0_4) ∧ w'.cell? ⟨gb181,5,none⟩ = some (.int .i64 a0_5) ∧ w'.cell? ⟨gb181,6,none⟩ = some (.int .i64 a0_6) ∧ w'.cell? ⟨gb181,7,none⟩ = some (.int .i64 a0_7)) (ds:=[]) #[nn,nn,nn,nn,nn,nn,nn] (by kernel_rfl) rfl rfl (q8 BK181.out) (fun hHeld => ?_)
  generalize w4.drew = w5 at BK181 HB hHeld ⊢
  refine pu_ 2 (some 5) #[nn,nn,yy,nn,nn,nn,nn] (by kernel_rfl) ?_
  refine pu_ 3 (some 6) #[nn,nn,yy,yy,nn,nn,nn] (by kernel_rfl) ?_
  refine tk_ 0 (some 3) #[yy,nn,yy,yy,nn,nn,nn] (by kernel_rfl) hHeld ?_
  refine tk_ 4 (some 7) #[yy,nn,yy,yy,yy,nn,nn] (by kernel_rfl) hHeld ?_
  refine one_ (i:=1) (N:=some 4) #[yy,yy,yy,yy,yy,nn,nn] rfl rfl (by kernel_rfl) (by decide) (fun K hK => ?_)
  refine goes_ Tryz.func75 (by kernel_rfl) rfl #[.agg #[.int .i64 a0_0,.int .i64 a0_1,.int .i64 a0_2,.int .i64 a0_3,.int .i64 a0_4,.int .i64 a0_5,.int .i64 a0_6,.int .i64 a0_7]] (by rfl) rfl rfl aA ?_
  with_reducible refine (config_asked_fairSize.calls a0_0 a0_1 a0_2 a0_3 a0_4 a0_5 a0_6 a0_7 t182 _ A2.out).mono ?_
  rintro e w6 ⟨rfl,hb⟩
  refine ⟨_,rfl,?_⟩;replace BK181:=Am (blk_below (g:=gb181) kA hb);replace HB:=Am (below_step bA hb);(try clear hb)
  refine hK.out _ _ (q8 BK181.out) (fun hHeld => ?_)
  clear hK K
  refine nm_ ?_
  refine pu_ 5 (some 8) #[yy,yy,yy,yy,yy,yy,nn] (by kernel_rfl) ?_
  refine pu_ 6 (some 2) #[yy,yy,yy,yy,yy,yy,yy] (by kernel_rfl) ?_
  refine done_ (by kernel_rfl) ?_
  try go_wp2
  go_ret
  exact eA

def config_asked_bound.f (a0_0 : Int) (a0_1 : Int) (a0_2 : Int) (a0_3 : Int) (a0_4 : Int) (a0_5 : Int) (a0_6 : Int) (a0_7 : Int) : Option (Int):=(config_asked_lead.f a0_0 a0_1 a0_2 a0_3 a0_4 a0_5 a0_6 a0_7).bind fun t184 => (some (wrap64 ((wrap64 (t184 + 1)) + (wrap64 (a0_1 * a0_2)))))
def config_asked_bound.T1 : Bool × List (List Nat × List Nat):=(true,[([],[]),([0],[0]),([1],[1]),([],[]),([3],[3]),([4],[4]),([],[]),([6],[6]),([7],[7]),([5,8],[5,8]),([2,9],[2,9]),([10,1,0,1,2,3,4,5,6,7,8,9,10],[10])])
def config_asked_bound.B1 : List Nat:=[0,1,3,0,8,24,0,64,192,504,1023,2047]
theorem config_asked_bound.tab1 : rtab .any (opsOf Tryz.f78 1) = config_asked_bound.T1:=by kernel_rfl
theorem config_asked_bound.bits1 : waitsOk config_asked_bound.T1.2 config_asked_bound.B1 = true:=by kernel_rfl
theorem config_asked_bound.calls (a0_0 : Int) (a0_1 : Int) (a0_2 : Int) (a0_3 : Int) (a0_4 : Int) (a0_5 : Int) (a0_6 : Int) (a0_7 : Int) (r : Int) (w : World) (h : config_asked_bound.f a0_0 a0_1 a0_2 a0_3 a0_4 a0_5 a0_6 a0_7 = some r) :
  Calls Tryz.prog 78 #[.agg #[.int .i64 a0_0,.int .i64 a0_1,.int .i64 a0_2,.int .i64 a0_3,.int .i64 a0_4,.int .i64 a0_5,.int .i64 a0_6,.int .i64 a0_7]] w fun e w' => e = .returned (.int .i64 r) ∧ Below w.heap.size w w':=by
 have hu67:=Tryz.underlying67
 have HB:=Am (Below.refl w.heap.size w)
 have H : ((config_asked_lead.f a0_0 a0_1 a0_2 a0_3 a0_4 a0_5 a0_6 a0_7).bind fun t184 => (some (wrap64 ((wrap64 (t184 + 1)) + (wrap64 (a0_1 * a0_2)))))) = some r:=h
 clear h;obtain ⟨t184,A2,H⟩:=bnd H;(try dsimp only at H)
 obtain rfl:=Option.some.inj H
 go_enter Tryz.func78,Tryz.ntmps78
 try go_wp2_with (first | ((with_reducible refine gate_dst (N:=1) rfl ?_);refine bxA 1 #[.int .i64 a0_0,.int .i64 a0_1,.int .i64 a0_2,.int .i64 a0_3,.int .i64 a0_4,.int .i64 a0_5,.int .i64 a0_6,.int .i64 a0_7] 67 ?_;intro gb183 hg w3 hbox hb;have BK183:=Am (hbox);have GW183:=Am (gwA hg bA);have GE183:=Am (gwA hg bA);replace HB:=Am (below_step bA hb);clear hb hbox hg))
 replace BK183:=Am (blk_drew BK183.out);replace HB:=Am (below_drew1 HB.out)
 refine start_ (n:=12) (S:=fun w' => w'.cell? ⟨gb183,0,none⟩ = some (.int .i64 a0_0) ∧ w'.cell? ⟨gb183,1,none⟩ = some (.int .i64 a0_1) ∧ w'.cell? ⟨gb183,2,none⟩ = some (.int .i64 a0_2) ∧ w'.cell? ⟨gb183,3,none⟩ = some (.int .i64 a0_3) ∧ w'.cell? ⟨gb183,4,none⟩ = some (.int .i64 a0_4) ∧ w'.cell? ⟨gb183,5,none⟩ = some (.int .i64 a0_5) ∧ w'.cell? ⟨gb183,6,none⟩ = some (.int .i64 a0_6) ∧ w'.cell? ⟨gb183,7,none⟩ = some (.int .i64 a0_7)) (ds:=[]) #[nn,nn,nn,nn,nn,nn,nn,nn,nn,nn,nn,nn] (by kernel_rfl) rfl rfl (q8 BK183.out) (fun hHeld => ?_);refine with_tabW config_asked_bound.tab1 config_asked_bound.bits1 (fun HT_ HW_ => ?_)
 generalize w3.drew = w4 at BK183 HB hHeld ⊢
 refine pu_ 3 (some 6) #[nn,nn,nn,yy,nn,nn,nn,nn,nn,nn,nn,nn] (any_of HT_.out (by kernel_rfl)) ?_
 refine pu_ 4 (some 7) #[nn,nn,nn,yy,yy,nn,nn,nn,nn,nn,nn,nn] (any_of HT_.out (by kernel_rfl)) ?_
 refine pu_ 6 (some 9) #[nn,nn,nn,yy,yy,nn,yy,nn,nn,nn,nn,nn] (any_of HT_.out (by kernel_rfl)) ?_
 refine pu_ 7 (some 10) #[nn,nn,nn,yy,yy,nn,yy,yy,nn,nn,nn,nn] (any_of HT_.out (by kernel_rfl)) ?_
 refine tk_ 0 (some 3) #[yy,nn,nn,yy,yy,nn,yy,yy,nn,nn,nn,nn] (take_ofW HT_.out HW_.out (by kernel_rfl)) hHeld ?_
 refine tk_ 5 (some 8) #[yy,nn,nn,yy,yy,yy,yy,yy,nn,nn,nn,nn] (take_ofW HT_.out HW_.out (by kernel_rfl)) hHeld ?_
 refine tk_ 8 (some 11) #[yy,nn,nn,yy,yy,yy,yy,yy,yy,nn,nn,nn] (take_ofW HT_.out HW_.out (by kernel_rfl)) hHeld ?_
 refine pu_ 9 (some 12) #[yy,nn,nn,yy,yy,yy,yy,yy,yy,yy,nn,nn] (any_of HT_.out (by kernel_rfl)) ?_
 refine one_ (i:=1) (N:=some 4) #[yy,yy,nn,yy,yy,yy,yy,yy,yy,yy,nn,nn] rfl rfl (one_of HT_.out (by kernel_rfl)) (by decide) (fun K hK => ?_)
 refine goes_ Tryz.func98 (by kernel_rfl) rfl #[.agg #[.int .i64 a0_0,.int .i64 a0_1,.int .i64 a0_2,.int .i64 a0_3,.int .i64 a0_4,.int .i64 a0_5,.int .i64 a0_6,.int .i64 a0_7]] (by rfl) rfl rfl aA ?_
 with_reducible refine (config_asked_lead.calls a0_0 a0_1 a0_2 a0_3 a0_4 a0_5 a0_6 a0_7 t184 _ A2.out).mono ?_
 rintro e w5 ⟨rfl,hb⟩
 refine ⟨_,rfl,?_⟩;replace BK183:=Am (blk_below (g:=gb183) kA hb);replace HB:=Am (below_step bA hb);(try clear hb)
 refine hK.out _ _ (q8 BK183.out) (fun hHeld => ?_)
 clear hK K
 refine nm_ ?_
 refine pu_ 2 (some 5) #[yy,yy,yy,yy,yy,yy,yy,yy,yy,yy,nn,nn] (any_of HT_.out (by kernel_rfl)) ?_
 refine pu_ 10 (some 13) #[yy,yy,yy,yy,yy,yy,yy,yy,yy,yy,yy,nn] (any_of HT_.out (by kernel_rfl)) ?_
 refine pu_ 11 (some 2) #[yy,yy,yy,yy,yy,yy,yy,yy,yy,yy,yy,yy] (any_of HT_.out (by kernel_rfl)) ?_
 refine done_ (done_of HT_.out (by kernel_rfl)) ?_
 try go_wp2
 go_ret
 exact eA

end Go.Proofs.YtbhijfbjdbjpbaaGreatDoor.GSH
