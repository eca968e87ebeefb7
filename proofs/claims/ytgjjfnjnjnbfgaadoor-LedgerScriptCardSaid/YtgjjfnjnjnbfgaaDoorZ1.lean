/- The texts of this claim, put together by program, what it does not name left out: part 1. Conditions: each theorem's own. -/
import Derived.Test.YtgjjfnjnjnbfgaaDoorZ0
namespace Go.Proofs.YtgjjfnjnjnbfgaaDoor.GLG
open Go.RowKit Go.Proofs.YtgjjfnjnjnbfgaaDoorW.PrintWords Go.Proofs.YtgjjfnjnjnbfgaaDoorW.PrintLast Go.Proofs.YtgjjfnjnjnbfgaaDoorW.PrintMore
attribute [local go_sem] max2_int min2_int max_two min_two max_three min_three max_four min_four   -- for this text's walks alone
set_option linter.unusedVariables false
set_option linter.unusedSimpArgs false
def wide_Times.f (a0_0 : Int) (a0_1 : Int) (a1 : Int) : Option (Int × Int × Bool):=(wide_Mul.f a0_1 a1).bind fun bt139 => ((wide_Mul.f a0_0 a1).bind fun bt141 => (if bt141.1 > 0 then ((wide_greatest.f).bind fun bt145 => (some (bt145.1,bt145.2,false))) else ((wide_Add.f bt139.1 bt139.2 bt141.2 0).bind fun bt147 => (some (bt147.1,bt147.2.1,bt147.2.2)))))
def wide_Times.T1 : Bool × List (List Nat × List Nat):=(true,[([],[]),([0],[0]),([],[]),([1,2],[1,2]),([],[]),([4],[4]),([],[]),([5,6,3],[5,6]),([],[]),([],[]),([8,3,7,0,1,2,3,8,9],[3,8]),([9,7,10,0,1,2,3,4,5,6,7,8,9,10],[7,9])])
def wide_Times.B1 : List Nat:=[0,1,0,7,0,16,0,127,0,0,1023,2047]
theorem wide_Times.tab1 : rtab .any (opsOf Tryd.f67 1) = wide_Times.T1:=by kernel_rfl
theorem wide_Times.bits1 : waitsOk wide_Times.T1.2 wide_Times.B1 = true:=by kernel_rfl
set_option maxHeartbeats 8000000 in
set_option maxRecDepth 100000 in
theorem wide_Times.calls (a0_0 : Int) (a0_1 : Int) (a1 : Int) (r1 : Int) (r2 : Int) (r3 : Bool) (w : World) (h : wide_Times.f a0_0 a0_1 a1 = some (r1,r2,r3)) :
  Calls Tryd.prog 67 #[.agg #[.int .u64 a0_0,.int .u64 a0_1],.int .u64 a1] w fun e w' => e = .returned (.tuple #[.agg #[.int .u64 r1,.int .u64 r2],.bool r3]) ∧ Below w.heap.size w w':=by
 have hu87:=Tryd.underlying87
 have HB:=Aside0.mk (Below.refl w.heap.size w)
 have H : ((wide_Mul.f a0_1 a1).bind fun bt139 => ((wide_Mul.f a0_0 a1).bind fun bt141 => (if bt141.1 > 0 then ((wide_greatest.f).bind fun bt145 => (some (bt145.1,bt145.2,false))) else ((wide_Add.f bt139.1 bt139.2 bt141.2 0).bind fun bt147 => (some (bt147.1,bt147.2.1,bt147.2.2)))))) = some (r1,r2,r3):=h
 clear h;replace H:=Option.bind_eq_some_iff.mp H;obtain ⟨⟨t139,t140⟩,A30,H⟩:=H;replace H : ((wide_Mul.f a0_0 a1).bind fun bt141 => (if bt141.1 > 0 then ((wide_greatest.f).bind fun bt145 => (some (bt145.1,bt145.2,false))) else ((wide_Add.f t139 t140 bt141.2 0).bind fun bt147 => (some (bt147.1,bt147.2.1,bt147.2.2))))) = some (r1,r2,r3):=H;have A3:=Aside0.mk A30;clear A30;replace H:=Option.bind_eq_some_iff.mp H;obtain ⟨⟨t141,t142⟩,A40,H⟩:=H;replace H : (if t141 > 0 then ((wide_greatest.f).bind fun bt145 => (some (bt145.1,bt145.2,false))) else ((wide_Add.f t139 t140 t142 0).bind fun bt147 => (some (bt147.1,bt147.2.1,bt147.2.2)))) = some (r1,r2,r3):=H;have A4:=Aside0.mk A40;clear A40
 go_enter Tryd.func67,Tryd.ntmps67
 try go_wp2_with (first | ((with_reducible refine gate_dst (N:=2) rfl ?_);refine bxA 2 #[.int .u64 a0_0,.int .u64 a0_1] 87 ?_;intro gb137 hg w7 hbox hb;have n0_:=Aside0.mk (below_step bA hb);have n1_:=Aside0.mk (hbox);have n2_:=Aside0.mk (gwA hg bA);have n3_:=Aside0.mk (gwA hg bA);clear HB;have HB:=n0_;have BK137:=n1_;have GW137:=n2_;have GE137:=n3_;clear n0_ n1_ n2_ n3_ hb hbox hg) | ((with_reducible refine gate_dst (N:=4) rfl ?_);refine bxA 4 #[.int .u64 0,.int .u64 0] 87 ?_;intro gb138 hg w8 hbox hb;have n0_:=Aside0.mk (blk_below (g:=gb137) kA hb);have n1_:=Aside0.mk (below_step bA hb);have n2_:=Aside0.mk (hbox);have n3_:=Aside0.mk (gwA hg bA);have n4_:=Aside0.mk (gwA hg bA);have n5_:=Aside0.mk (neA (g:=gb137) hg kA);have n6_:=Aside0.mk (neB (g:=gb137) hg kA);clear BK137 HB;have BK137:=n0_;have HB:=n1_;have BK138:=n2_;have GW138:=n3_;have GE138:=n4_;have NB137_138:=n5_;have NB138_137:=n6_;clear n0_ n1_ n2_ n3_ n4_ n5_ n6_ hb hbox hg))
 have n0_:=Aside0.mk (blk_drew BK137.out);have n1_:=Aside0.mk (blk_drew BK138.out);have n2_:=Aside0.mk (below_drew1 HB.out);clear BK137 BK138 HB;have BK137:=n0_;have BK138:=n1_;have HB:=n2_;clear n0_ n1_ n2_
 refine start_ (n:=12) (S:=fun w' => w'.cell? ⟨gb137,0,none⟩ = some (.int .u64 a0_0) ∧ w'.cell? ⟨gb137,1,none⟩ = some (.int .u64 a0_1)) (ds:=[]) #[false,false,false,false,false,false,false,false,false,false,false,false] (by kernel_rfl) rfl rfl ⟨(blk_cell BK137.out 0).trans rfl,(blk_cell BK137.out 1).trans rfl⟩ (fun hHeld => ?_);refine with_tabW wide_Times.tab1 wide_Times.bits1 (fun HT_ HW_ => ?_)
 generalize w8.drew = w9 at BK137 BK138 HB hHeld ⊢
 refine pure_ (i:=0) (N:=some 8) (v:=?_) (a':=?_) #[true,false,false,false,false,false,false,false,false,false,false,false] rfl rfl (any_of HT_.out (by kernel_rfl)) (fun _ _ _ h => h) (Or.inl ⟨by rfl,?_⟩) ?_ ?_
 rotate_left
 ·intro w'
  go_simp;with_reducible rfl
 rotate_left
 ·simp only [Act.put,List.setIfInBounds_toArray,List.set_cons_zero,List.set_cons_succ,i64_w,i32_w]
  rfl
 refine pure_ (i:=2) (N:=some 10) (v:=?_) (a':=?_) #[true,false,true,false,false,false,false,false,false,false,false,false] rfl rfl (any_of HT_.out (by kernel_rfl)) (fun _ _ _ h => h) (Or.inl ⟨by rfl,?_⟩) ?_ ?_
 rotate_left
 ·intro w'
  go_simp;with_reducible rfl
 rotate_left
 ·simp only [Act.put,List.setIfInBounds_toArray,List.set_cons_zero,List.set_cons_succ,i64_w,i32_w]
  rfl
 refine pure_ (i:=4) (N:=some 12) (v:=?_) (a':=?_) #[true,false,true,false,true,false,false,false,false,false,false,false] rfl rfl (any_of HT_.out (by kernel_rfl)) (fun _ _ _ h => h) (Or.inl ⟨by rfl,?_⟩) ?_ ?_
 rotate_left
 ·intro w'
  go_simp;with_reducible rfl
 rotate_left
 ·simp only [Act.put,List.setIfInBounds_toArray,List.set_cons_zero,List.set_cons_succ,i64_w,i32_w]
  rfl
 refine pure_ (i:=6) (N:=some 14) (v:=?_) (a':=?_) #[true,false,true,false,true,false,true,false,false,false,false,false] rfl rfl (any_of HT_.out (by kernel_rfl)) (fun _ _ _ h => h) (Or.inl ⟨by rfl,?_⟩) ?_ ?_
 rotate_left
 ·intro w'
  go_simp;with_reducible rfl
 rotate_left
 ·simp only [Act.put,List.setIfInBounds_toArray,List.set_cons_zero,List.set_cons_succ,i64_w,i32_w]
  rfl
 refine take_ (i:=1) (N:=some 9) (v:=?_) (a':=?_) #[true,true,true,false,true,false,true,false,false,false,false,false] rfl rfl (take_ofW HT_.out HW_.out (by kernel_rfl)) (fun _ _ _ h => h) (Or.inl ⟨by rfl,?_⟩) hHeld ?_ ?_
 rotate_left
 ·rintro w' ⟨s0,s1⟩
  go_simp;with_reducible rfl
 rotate_left
 ·simp only [Act.put,List.setIfInBounds_toArray,List.set_cons_zero,List.set_cons_succ,i64_w,i32_w]
  rfl
 refine take_ (i:=5) (N:=some 13) (v:=?_) (a':=?_) #[true,true,true,false,true,true,true,false,false,false,false,false] rfl rfl (take_ofW HT_.out HW_.out (by kernel_rfl)) (fun _ _ _ h => h) (Or.inl ⟨by rfl,?_⟩) hHeld ?_ ?_
 rotate_left
 ·rintro w' ⟨s0,s1⟩
  go_simp;with_reducible rfl
 rotate_left
 ·simp only [Act.put,List.setIfInBounds_toArray,List.set_cons_zero,List.set_cons_succ,i64_w,i32_w]
  rfl
 refine join_ (σ:=Nat × Nat) 2 #[true,true,true,true,true,true,true,true,true,true,false,false] (fun s_ => [(11,.agg #[.int .u64 t139,.int .u64 t140]),(15,.agg #[.int .u64 t141,.int .u64 t142]),(6,.pointer (some ⟨s_.1,0,none⟩)),(7,.pointer (some ⟨s_.2,0,none⟩))]) (fun s_ w' => (w'.cell? ⟨gb137,0,none⟩ = some (.int .u64 a0_0) ∧ w'.cell? ⟨gb137,1,none⟩ = some (.int .u64 a0_1)) ∧ (w'.heap[gb137]? = some (.cells #[.int .u64 a0_0,.int .u64 a0_1] 87 (0,0))) ∧ (w'.heap[gb138]? = some (.cells #[.int .u64 0,.int .u64 0] 87 (0,0))) ∧ (w'.heap[s_.1]? = some (.cells #[.int .u64 0,.int .u64 0] 87 (0,0))) ∧ (w'.heap[s_.2]? = some (.cells #[.int .u64 0,.int .u64 0] 87 (0,0))) ∧ (w.heap.size ≤ s_.1) ∧ (w.heap.size ≤ s_.1) ∧ (gb137 ≠ s_.1) ∧ (s_.1 ≠ gb137) ∧ (gb138 ≠ s_.1) ∧ (s_.1 ≠ gb138) ∧ (s_.2 ≠ s_.1) ∧ (s_.1 ≠ s_.2) ∧ (w.heap.size ≤ s_.2) ∧ (w.heap.size ≤ s_.2) ∧ (gb137 ≠ s_.2) ∧ (s_.2 ≠ gb137) ∧ (gb138 ≠ s_.2) ∧ (s_.2 ≠ gb138) ∧ (Below w.heap.size w w')) ?_ ?_
 rotate_left
 ·intro hJ3_7_8_9
  refine join_ (σ:=Nat) 3 #[true,true,true,true,true,true,true,true,true,false,false,false] (fun s_ => [(11,.agg #[.int .u64 t139,.int .u64 t140]),(15,.agg #[.int .u64 t141,.int .u64 t142]),(6,.pointer (some ⟨s_,0,none⟩))]) (fun s_ w' => (w'.cell? ⟨gb137,0,none⟩ = some (.int .u64 a0_0) ∧ w'.cell? ⟨gb137,1,none⟩ = some (.int .u64 a0_1)) ∧ (w'.heap[gb137]? = some (.cells #[.int .u64 a0_0,.int .u64 a0_1] 87 (0,0))) ∧ (w'.heap[gb138]? = some (.cells #[.int .u64 0,.int .u64 0] 87 (0,0))) ∧ (w'.heap[s_]? = some (.cells #[.int .u64 0,.int .u64 0] 87 (0,0))) ∧ (w.heap.size ≤ s_) ∧ (w.heap.size ≤ s_) ∧ (gb137 ≠ s_) ∧ (s_ ≠ gb137) ∧ (gb138 ≠ s_) ∧ (s_ ≠ gb138) ∧ (Below w.heap.size w w')) ?_ ?_
  rotate_left
  ·intro hJ3_7_8
   refine join_ (σ:=Nat) 3 #[true,true,true,true,true,true,true,true,false,true,false,false] (fun s_ => [(11,.agg #[.int .u64 t139,.int .u64 t140]),(15,.agg #[.int .u64 t141,.int .u64 t142]),(7,.pointer (some ⟨s_,0,none⟩))]) (fun s_ w' => (w'.cell? ⟨gb137,0,none⟩ = some (.int .u64 a0_0) ∧ w'.cell? ⟨gb137,1,none⟩ = some (.int .u64 a0_1)) ∧ (w'.heap[gb137]? = some (.cells #[.int .u64 a0_0,.int .u64 a0_1] 87 (0,0))) ∧ (w'.heap[gb138]? = some (.cells #[.int .u64 0,.int .u64 0] 87 (0,0))) ∧ (w'.heap[s_]? = some (.cells #[.int .u64 0,.int .u64 0] 87 (0,0))) ∧ (w.heap.size ≤ s_) ∧ (w.heap.size ≤ s_) ∧ (gb137 ≠ s_) ∧ (s_ ≠ gb137) ∧ (gb138 ≠ s_) ∧ (s_ ≠ gb138) ∧ (Below w.heap.size w w')) ?_ ?_
   rotate_left
   ·intro hJ3_7_9
    refine join_ (σ:=Nat × Nat) 3 #[true,true,true,true,true,true,true,false,true,true,false,false] (fun s_ => [(11,.agg #[.int .u64 t139,.int .u64 t140]),(6,.pointer (some ⟨s_.1,0,none⟩)),(7,.pointer (some ⟨s_.2,0,none⟩))]) (fun s_ w' => (w'.cell? ⟨gb137,0,none⟩ = some (.int .u64 a0_0) ∧ w'.cell? ⟨gb137,1,none⟩ = some (.int .u64 a0_1)) ∧ (w'.heap[gb137]? = some (.cells #[.int .u64 a0_0,.int .u64 a0_1] 87 (0,0))) ∧ (w'.heap[gb138]? = some (.cells #[.int .u64 0,.int .u64 0] 87 (0,0))) ∧ (w'.heap[s_.1]? = some (.cells #[.int .u64 0,.int .u64 0] 87 (0,0))) ∧ (w'.heap[s_.2]? = some (.cells #[.int .u64 0,.int .u64 0] 87 (0,0))) ∧ (w.heap.size ≤ s_.1) ∧ (w.heap.size ≤ s_.1) ∧ (gb137 ≠ s_.1) ∧ (s_.1 ≠ gb137) ∧ (gb138 ≠ s_.1) ∧ (s_.1 ≠ gb138) ∧ (s_.2 ≠ s_.1) ∧ (s_.1 ≠ s_.2) ∧ (w.heap.size ≤ s_.2) ∧ (w.heap.size ≤ s_.2) ∧ (gb137 ≠ s_.2) ∧ (s_.2 ≠ gb137) ∧ (gb138 ≠ s_.2) ∧ (s_.2 ≠ gb138) ∧ (Below w.heap.size w w')) ?_ ?_
    rotate_left
    ·intro hJ3_8_9
     refine join_ (σ:=Unit) 4 #[true,true,true,true,true,true,true,true,false,false,false,false] (fun s_ => [(11,.agg #[.int .u64 t139,.int .u64 t140]),(15,.agg #[.int .u64 t141,.int .u64 t142])]) (fun s_ w' => (w'.cell? ⟨gb137,0,none⟩ = some (.int .u64 a0_0) ∧ w'.cell? ⟨gb137,1,none⟩ = some (.int .u64 a0_1)) ∧ (w'.heap[gb137]? = some (.cells #[.int .u64 a0_0,.int .u64 a0_1] 87 (0,0))) ∧ (w'.heap[gb138]? = some (.cells #[.int .u64 0,.int .u64 0] 87 (0,0))) ∧ (Below w.heap.size w w')) ?_ ?_
     rotate_left
     ·intro hJ3_7
      refine join_ (σ:=Nat) 4 #[true,true,true,true,true,true,true,false,true,false,false,false] (fun s_ => [(11,.agg #[.int .u64 t139,.int .u64 t140]),(6,.pointer (some ⟨s_,0,none⟩))]) (fun s_ w' => (w'.cell? ⟨gb137,0,none⟩ = some (.int .u64 a0_0) ∧ w'.cell? ⟨gb137,1,none⟩ = some (.int .u64 a0_1)) ∧ (w'.heap[gb137]? = some (.cells #[.int .u64 a0_0,.int .u64 a0_1] 87 (0,0))) ∧ (w'.heap[gb138]? = some (.cells #[.int .u64 0,.int .u64 0] 87 (0,0))) ∧ (w'.heap[s_]? = some (.cells #[.int .u64 0,.int .u64 0] 87 (0,0))) ∧ (w.heap.size ≤ s_) ∧ (w.heap.size ≤ s_) ∧ (gb137 ≠ s_) ∧ (s_ ≠ gb137) ∧ (gb138 ≠ s_) ∧ (s_ ≠ gb138) ∧ (Below w.heap.size w w')) ?_ ?_
      rotate_left
      ·intro hJ3_8
       refine join_ (σ:=Nat) 4 #[true,true,true,true,true,true,true,false,false,true,false,false] (fun s_ => [(11,.agg #[.int .u64 t139,.int .u64 t140]),(7,.pointer (some ⟨s_,0,none⟩))]) (fun s_ w' => (w'.cell? ⟨gb137,0,none⟩ = some (.int .u64 a0_0) ∧ w'.cell? ⟨gb137,1,none⟩ = some (.int .u64 a0_1)) ∧ (w'.heap[gb137]? = some (.cells #[.int .u64 a0_0,.int .u64 a0_1] 87 (0,0))) ∧ (w'.heap[gb138]? = some (.cells #[.int .u64 0,.int .u64 0] 87 (0,0))) ∧ (w'.heap[s_]? = some (.cells #[.int .u64 0,.int .u64 0] 87 (0,0))) ∧ (w.heap.size ≤ s_) ∧ (w.heap.size ≤ s_) ∧ (gb137 ≠ s_) ∧ (s_ ≠ gb137) ∧ (gb138 ≠ s_) ∧ (s_ ≠ gb138) ∧ (Below w.heap.size w w')) ?_ ?_
       rotate_left
       ·intro hJ3_9
        refine join_ (σ:=Nat × Nat) 4 #[true,true,true,false,true,true,true,false,true,true,false,false] (fun s_ => [(6,.pointer (some ⟨s_.1,0,none⟩)),(7,.pointer (some ⟨s_.2,0,none⟩))]) (fun s_ w' => (w'.cell? ⟨gb137,0,none⟩ = some (.int .u64 a0_0) ∧ w'.cell? ⟨gb137,1,none⟩ = some (.int .u64 a0_1)) ∧ (w'.heap[gb137]? = some (.cells #[.int .u64 a0_0,.int .u64 a0_1] 87 (0,0))) ∧ (w'.heap[gb138]? = some (.cells #[.int .u64 0,.int .u64 0] 87 (0,0))) ∧ (w'.heap[s_.1]? = some (.cells #[.int .u64 0,.int .u64 0] 87 (0,0))) ∧ (w'.heap[s_.2]? = some (.cells #[.int .u64 0,.int .u64 0] 87 (0,0))) ∧ (w.heap.size ≤ s_.1) ∧ (w.heap.size ≤ s_.1) ∧ (gb137 ≠ s_.1) ∧ (s_.1 ≠ gb137) ∧ (gb138 ≠ s_.1) ∧ (s_.1 ≠ gb138) ∧ (s_.2 ≠ s_.1) ∧ (s_.1 ≠ s_.2) ∧ (w.heap.size ≤ s_.2) ∧ (w.heap.size ≤ s_.2) ∧ (gb137 ≠ s_.2) ∧ (s_.2 ≠ gb137) ∧ (gb138 ≠ s_.2) ∧ (s_.2 ≠ gb138) ∧ (Below w.heap.size w w')) ?_ ?_
        rotate_left
        ·intro hJ8_9
         refine join_ (σ:=Unit) 5 #[true,true,true,true,true,true,true,false,false,false,false,false] (fun s_ => [(11,.agg #[.int .u64 t139,.int .u64 t140])]) (fun s_ w' => (w'.cell? ⟨gb137,0,none⟩ = some (.int .u64 a0_0) ∧ w'.cell? ⟨gb137,1,none⟩ = some (.int .u64 a0_1)) ∧ (w'.heap[gb137]? = some (.cells #[.int .u64 a0_0,.int .u64 a0_1] 87 (0,0))) ∧ (w'.heap[gb138]? = some (.cells #[.int .u64 0,.int .u64 0] 87 (0,0))) ∧ (Below w.heap.size w w')) ?_ ?_
         rotate_left
         ·intro hJ3
          refine join_ (σ:=Nat) 5 #[true,true,true,false,true,true,true,false,true,false,false,false] (fun s_ => [(6,.pointer (some ⟨s_,0,none⟩))]) (fun s_ w' => (w'.cell? ⟨gb137,0,none⟩ = some (.int .u64 a0_0) ∧ w'.cell? ⟨gb137,1,none⟩ = some (.int .u64 a0_1)) ∧ (w'.heap[gb137]? = some (.cells #[.int .u64 a0_0,.int .u64 a0_1] 87 (0,0))) ∧ (w'.heap[gb138]? = some (.cells #[.int .u64 0,.int .u64 0] 87 (0,0))) ∧ (w'.heap[s_]? = some (.cells #[.int .u64 0,.int .u64 0] 87 (0,0))) ∧ (w.heap.size ≤ s_) ∧ (w.heap.size ≤ s_) ∧ (gb137 ≠ s_) ∧ (s_ ≠ gb137) ∧ (gb138 ≠ s_) ∧ (s_ ≠ gb138) ∧ (Below w.heap.size w w')) ?_ ?_
          rotate_left
          ·intro hJ8
           refine join_ (σ:=Nat) 5 #[true,true,true,false,true,true,true,false,false,true,false,false] (fun s_ => [(7,.pointer (some ⟨s_,0,none⟩))]) (fun s_ w' => (w'.cell? ⟨gb137,0,none⟩ = some (.int .u64 a0_0) ∧ w'.cell? ⟨gb137,1,none⟩ = some (.int .u64 a0_1)) ∧ (w'.heap[gb137]? = some (.cells #[.int .u64 a0_0,.int .u64 a0_1] 87 (0,0))) ∧ (w'.heap[gb138]? = some (.cells #[.int .u64 0,.int .u64 0] 87 (0,0))) ∧ (w'.heap[s_]? = some (.cells #[.int .u64 0,.int .u64 0] 87 (0,0))) ∧ (w.heap.size ≤ s_) ∧ (w.heap.size ≤ s_) ∧ (gb137 ≠ s_) ∧ (s_ ≠ gb137) ∧ (gb138 ≠ s_) ∧ (s_ ≠ gb138) ∧ (Below w.heap.size w w')) ?_ ?_
           rotate_left
           ·intro hJ9
            refine three_ (i:=3) (j:=8) (k:=9) (Ni:=some 11) (Nj:=some 6) (Nk:=some 7) #[true,true,true,true,true,true,true,false,false,false,false,false] #[true,true,true,false,true,true,true,false,true,false,false,false] #[true,true,true,false,true,true,true,false,false,true,false,false] rfl rfl rfl rfl rfl rfl (three_of HT_.out (by kernel_rfl)) (by decide) (by decide) (by decide) (fun K hK => ?_) (fun K hK => ?_) (fun K hK => ?_)
            ·skip
             refine goes_ Tryd.func73 (by kernel_rfl) rfl #[.int .u64 a0_1,.int .u64 a1] (by rfl) rfl rfl aA ?_
             with_reducible refine (wide_Mul.calls a0_1 a1 t139 t140 _ A3.out).mono ?_
             rintro e w10 ⟨rfl,hb⟩
             refine ⟨_,rfl,?_⟩;have n0_:=Aside0.mk (blk_below (g:=gb137) kA hb);have n1_:=Aside0.mk (blk_below (g:=gb138) kA hb);have n2_:=Aside0.mk (below_step bA hb);clear BK137 BK138 HB;have BK137:=n0_;have BK138:=n1_;have HB:=n2_;clear n0_ n1_ n2_;(try clear hb)
             refine hK.out _ _ ⟨(blk_cell BK137.out 0).trans rfl,(blk_cell BK137.out 1).trans rfl⟩ (fun hHeld => ?_)
             clear hK K
             refine norm_ (a':=?_) ?_ ?_
             rotate_left
             ·show Act.put _ (some 11) _ = _
              simp only [Act.put,List.setIfInBounds_toArray,List.set_cons_zero,List.set_cons_succ,i64_w,i32_w]
              rfl
             exact norm_ (by first | (simp only [putAll,Act.put,List.setIfInBounds_toArray,List.set_cons_zero,List.set_cons_succ];done) | (simp only [putAll,Act.put,List.setIfInBounds_toArray,List.set_cons_zero,List.set_cons_succ];rfl)) (hJ3 () _ ⟨hHeld,kA,kA,bA⟩)
            ·skip
             refine box_step ?hg (N:=6) ?hd (cs:=#[.int .u64 0,.int .u64 0]) (t:=87) ?hr ?_;(case hd => rfl);(case hg => rfl);(case hr => first | (go_simp;done) | (go_simp;rfl))
             intro gb143 hg w10 hbox hb
             have n0_:=Aside0.mk (blk_below (g:=gb137) kA hb);have n1_:=Aside0.mk (blk_below (g:=gb138) kA hb);have n2_:=Aside0.mk (below_step bA hb);have n3_:=Aside0.mk (hbox);have n4_:=Aside0.mk (gwA hg bA);have n5_:=Aside0.mk (gwA hg bA);have n6_:=Aside0.mk (neA (g:=gb137) hg kA);have n7_:=Aside0.mk (neB (g:=gb137) hg kA);have n8_:=Aside0.mk (neA (g:=gb138) hg kA);have n9_:=Aside0.mk (neB (g:=gb138) hg kA);clear BK137 BK138 HB;have BK137:=n0_;have BK138:=n1_;have HB:=n2_;have BK143:=n3_;have GW143:=n4_;have GE143:=n5_;have NB137_143:=n6_;have NB143_137:=n7_;have NB138_143:=n8_;have NB143_138:=n9_;clear n0_ n1_ n2_ n3_ n4_ n5_ n6_ n7_ n8_ n9_ hb hbox hg
             refine hK.out _ _ ⟨(blk_cell BK137.out 0).trans rfl,(blk_cell BK137.out 1).trans rfl⟩ (fun hHeld => ?_)
             clear hK K
             refine norm_ (a':=?_) ?_ ?_
             rotate_left
             ·show Act.put _ (some 6) _ = _
              simp only [Act.put,List.setIfInBounds_toArray,List.set_cons_zero,List.set_cons_succ,i64_w,i32_w]
              rfl
             exact norm_ (by first | (simp only [putAll,Act.put,List.setIfInBounds_toArray,List.set_cons_zero,List.set_cons_succ];done) | (simp only [putAll,Act.put,List.setIfInBounds_toArray,List.set_cons_zero,List.set_cons_succ];rfl)) (hJ8 (gb143) _ ⟨hHeld,kA,kA,kA,GW143.out,GE143.out,NB137_143.out,NB143_137.out,NB138_143.out,NB143_138.out,bA⟩)
            ·skip
             refine box_step ?hg (N:=7) ?hd (cs:=#[.int .u64 0,.int .u64 0]) (t:=87) ?hr ?_;(case hd => rfl);(case hg => rfl);(case hr => first | (go_simp;done) | (go_simp;rfl))
             intro gb144 hg w10 hbox hb
             have n0_:=Aside0.mk (blk_below (g:=gb137) kA hb);have n1_:=Aside0.mk (blk_below (g:=gb138) kA hb);have n2_:=Aside0.mk (below_step bA hb);have n3_:=Aside0.mk (hbox);have n4_:=Aside0.mk (gwA hg bA);have n5_:=Aside0.mk (gwA hg bA);have n6_:=Aside0.mk (neA (g:=gb137) hg kA);have n7_:=Aside0.mk (neB (g:=gb137) hg kA);have n8_:=Aside0.mk (neA (g:=gb138) hg kA);have n9_:=Aside0.mk (neB (g:=gb138) hg kA);clear BK137 BK138 HB;have BK137:=n0_;have BK138:=n1_;have HB:=n2_;have BK144:=n3_;have GW144:=n4_;have GE144:=n5_;have NB137_144:=n6_;have NB144_137:=n7_;have NB138_144:=n8_;have NB144_138:=n9_;clear n0_ n1_ n2_ n3_ n4_ n5_ n6_ n7_ n8_ n9_ hb hbox hg
             refine hK.out _ _ ⟨(blk_cell BK137.out 0).trans rfl,(blk_cell BK137.out 1).trans rfl⟩ (fun hHeld => ?_)
             clear hK K
             refine norm_ (a':=?_) ?_ ?_
             rotate_left
             ·show Act.put _ (some 7) _ = _
              simp only [Act.put,List.setIfInBounds_toArray,List.set_cons_zero,List.set_cons_succ,i64_w,i32_w]
              rfl
             exact norm_ (by first | (simp only [putAll,Act.put,List.setIfInBounds_toArray,List.set_cons_zero,List.set_cons_succ];done) | (simp only [putAll,Act.put,List.setIfInBounds_toArray,List.set_cons_zero,List.set_cons_succ];rfl)) (hJ9 (gb144) _ ⟨hHeld,kA,kA,kA,GW144.out,GE144.out,NB137_144.out,NB144_137.out,NB138_144.out,NB144_138.out,bA⟩)
           ·skip
            rintro gb144 w11 ⟨hS_,h0_,h1_,h2_,h3_,h4_,h5_,h6_,h7_,h8_,h9_⟩
            have n0_ : Aside0 (w11.heap[gb137]? = some (.cells #[.int .u64 a0_0,.int .u64 a0_1] 87 (0,0))):=⟨h0_⟩
            have n1_ : Aside0 (w11.heap[gb138]? = some (.cells #[.int .u64 0,.int .u64 0] 87 (0,0))):=⟨h1_⟩
            have n2_ : Aside0 (w11.heap[gb144]? = some (.cells #[.int .u64 0,.int .u64 0] 87 (0,0))):=⟨h2_⟩
            have n3_ : Aside0 (w.heap.size ≤ gb144):=⟨h3_⟩
            have n4_ : Aside0 (w.heap.size ≤ gb144):=⟨h4_⟩
            have n5_ : Aside0 (gb137 ≠ gb144):=⟨h5_⟩
            have n6_ : Aside0 (gb144 ≠ gb137):=⟨h6_⟩
            have n7_ : Aside0 (gb138 ≠ gb144):=⟨h7_⟩
            have n8_ : Aside0 (gb144 ≠ gb138):=⟨h8_⟩
            have n9_ : Aside0 (Below w.heap.size w w11):=⟨h9_⟩
            clear BK137 BK138 HB h0_ h1_ h2_ h3_ h4_ h5_ h6_ h7_ h8_ h9_;have BK137:=n0_;have BK138:=n1_;have BK144:=n2_;have GW144:=n3_;have GE144:=n4_;have NB137_144:=n5_;have NB144_137:=n6_;have NB138_144:=n7_;have NB144_138:=n8_;have HB:=n9_;clear n0_ n1_ n2_ n3_ n4_ n5_ n6_ n7_ n8_ n9_
            have hHeld : w11.cell? ⟨gb137,0,none⟩ = some (.int .u64 a0_0) ∧ w11.cell? ⟨gb137,1,none⟩ = some (.int .u64 a0_1):=hS_
            refine norm_ (a':=?_) ?_ ?_
            rotate_left
            ·simp only [putAll,Act.put,List.setIfInBounds_toArray,List.set_cons_zero,List.set_cons_succ]
             rfl
            refine two_ (i:=3) (j:=8) (Ni:=some 11) (Nj:=some 6) #[true,true,true,true,true,true,true,false,false,true,false,false] #[true,true,true,false,true,true,true,false,true,true,false,false] rfl rfl rfl rfl (two_of HT_.out (by kernel_rfl)) (by decide) (by decide) (fun K hK => ?_) (fun K hK => ?_)
            ·skip
             refine goes_ Tryd.func73 (by kernel_rfl) rfl #[.int .u64 a0_1,.int .u64 a1] (by rfl) rfl rfl aA ?_
             with_reducible refine (wide_Mul.calls a0_1 a1 t139 t140 _ A3.out).mono ?_
             rintro e w12 ⟨rfl,hb⟩
             refine ⟨_,rfl,?_⟩;have n0_:=Aside0.mk (blk_below (g:=gb137) kA hb);have n1_:=Aside0.mk (blk_below (g:=gb138) kA hb);have n2_:=Aside0.mk (blk_below (g:=gb144) kA hb);have n3_:=Aside0.mk (below_step bA hb);clear BK137 BK138 BK144 HB;have BK137:=n0_;have BK138:=n1_;have BK144:=n2_;have HB:=n3_;clear n0_ n1_ n2_ n3_;(try clear hb)
             refine hK.out _ _ ⟨(blk_cell BK137.out 0).trans rfl,(blk_cell BK137.out 1).trans rfl⟩ (fun hHeld => ?_)
             clear hK K
             refine norm_ (a':=?_) ?_ ?_
             rotate_left
             ·show Act.put _ (some 11) _ = _
              simp only [Act.put,List.setIfInBounds_toArray,List.set_cons_zero,List.set_cons_succ,i64_w,i32_w]
              rfl
             exact norm_ (by first | (simp only [putAll,Act.put,List.setIfInBounds_toArray,List.set_cons_zero,List.set_cons_succ];done) | (simp only [putAll,Act.put,List.setIfInBounds_toArray,List.set_cons_zero,List.set_cons_succ];rfl)) (hJ3_9 (gb144) _ ⟨hHeld,kA,kA,kA,GW144.out,GE144.out,NB137_144.out,NB144_137.out,NB138_144.out,NB144_138.out,bA⟩)
            ·skip
             refine box_step ?hg (N:=6) ?hd (cs:=#[.int .u64 0,.int .u64 0]) (t:=87) ?hr ?_;(case hd => rfl);(case hg => rfl);(case hr => first | (go_simp;done) | (go_simp;rfl))
             intro gb143 hg w12 hbox hb
             have n0_:=Aside0.mk (blk_below (g:=gb137) kA hb);have n1_:=Aside0.mk (blk_below (g:=gb138) kA hb);have n2_:=Aside0.mk (blk_below (g:=gb144) kA hb);have n3_:=Aside0.mk (below_step bA hb);have n4_:=Aside0.mk (hbox);have n5_:=Aside0.mk (gwA hg bA);have n6_:=Aside0.mk (gwA hg bA);have n7_:=Aside0.mk (neA (g:=gb137) hg kA);have n8_:=Aside0.mk (neB (g:=gb137) hg kA);have n9_:=Aside0.mk (neA (g:=gb138) hg kA);have n10_:=Aside0.mk (neB (g:=gb138) hg kA);have n11_:=Aside0.mk (neA (g:=gb144) hg kA);have n12_:=Aside0.mk (neB (g:=gb144) hg kA);clear BK137 BK138 BK144 HB;have BK137:=n0_;have BK138:=n1_;have BK144:=n2_;have HB:=n3_;have BK143:=n4_;have GW143:=n5_;have GE143:=n6_;have NB137_143:=n7_;have NB143_137:=n8_;have NB138_143:=n9_;have NB143_138:=n10_;have NB144_143:=n11_;have NB143_144:=n12_;clear n0_ n1_ n2_ n3_ n4_ n5_ n6_ n7_ n8_ n9_ n10_ n11_ n12_ hb hbox hg
             refine hK.out _ _ ⟨(blk_cell BK137.out 0).trans rfl,(blk_cell BK137.out 1).trans rfl⟩ (fun hHeld => ?_)
             clear hK K
             refine norm_ (a':=?_) ?_ ?_
             rotate_left
             ·show Act.put _ (some 6) _ = _
              simp only [Act.put,List.setIfInBounds_toArray,List.set_cons_zero,List.set_cons_succ,i64_w,i32_w]
              rfl
             exact norm_ (by first | (simp only [putAll,Act.put,List.setIfInBounds_toArray,List.set_cons_zero,List.set_cons_succ];done) | (simp only [putAll,Act.put,List.setIfInBounds_toArray,List.set_cons_zero,List.set_cons_succ];rfl)) (hJ8_9 (gb143,gb144) _ ⟨hHeld,kA,kA,kA,kA,GW143.out,GE143.out,NB137_143.out,NB143_137.out,NB138_143.out,NB143_138.out,NB144_143.out,NB143_144.out,GW144.out,GE144.out,NB137_144.out,NB144_137.out,NB138_144.out,NB144_138.out,bA⟩)
          ·skip
           rintro gb143 w11 ⟨hS_,h0_,h1_,h2_,h3_,h4_,h5_,h6_,h7_,h8_,h9_⟩
           have n0_ : Aside0 (w11.heap[gb137]? = some (.cells #[.int .u64 a0_0,.int .u64 a0_1] 87 (0,0))):=⟨h0_⟩
           have n1_ : Aside0 (w11.heap[gb138]? = some (.cells #[.int .u64 0,.int .u64 0] 87 (0,0))):=⟨h1_⟩
           have n2_ : Aside0 (w11.heap[gb143]? = some (.cells #[.int .u64 0,.int .u64 0] 87 (0,0))):=⟨h2_⟩
           have n3_ : Aside0 (w.heap.size ≤ gb143):=⟨h3_⟩
           have n4_ : Aside0 (w.heap.size ≤ gb143):=⟨h4_⟩
           have n5_ : Aside0 (gb137 ≠ gb143):=⟨h5_⟩
           have n6_ : Aside0 (gb143 ≠ gb137):=⟨h6_⟩
           have n7_ : Aside0 (gb138 ≠ gb143):=⟨h7_⟩
           have n8_ : Aside0 (gb143 ≠ gb138):=⟨h8_⟩
           have n9_ : Aside0 (Below w.heap.size w w11):=⟨h9_⟩
           clear BK137 BK138 HB h0_ h1_ h2_ h3_ h4_ h5_ h6_ h7_ h8_ h9_;have BK137:=n0_;have BK138:=n1_;have BK143:=n2_;have GW143:=n3_;have GE143:=n4_;have NB137_143:=n5_;have NB143_137:=n6_;have NB138_143:=n7_;have NB143_138:=n8_;have HB:=n9_;clear n0_ n1_ n2_ n3_ n4_ n5_ n6_ n7_ n8_ n9_
           have hHeld : w11.cell? ⟨gb137,0,none⟩ = some (.int .u64 a0_0) ∧ w11.cell? ⟨gb137,1,none⟩ = some (.int .u64 a0_1):=hS_
           refine norm_ (a':=?_) ?_ ?_
           rotate_left
           ·simp only [putAll,Act.put,List.setIfInBounds_toArray,List.set_cons_zero,List.set_cons_succ]
            rfl
           refine two_ (i:=3) (j:=9) (Ni:=some 11) (Nj:=some 7) #[true,true,true,true,true,true,true,false,true,false,false,false] #[true,true,true,false,true,true,true,false,true,true,false,false] rfl rfl rfl rfl (two_of HT_.out (by kernel_rfl)) (by decide) (by decide) (fun K hK => ?_) (fun K hK => ?_)
           ·skip
            refine goes_ Tryd.func73 (by kernel_rfl) rfl #[.int .u64 a0_1,.int .u64 a1] (by rfl) rfl rfl aA ?_
            with_reducible refine (wide_Mul.calls a0_1 a1 t139 t140 _ A3.out).mono ?_
            rintro e w12 ⟨rfl,hb⟩
            refine ⟨_,rfl,?_⟩;have n0_:=Aside0.mk (blk_below (g:=gb137) kA hb);have n1_:=Aside0.mk (blk_below (g:=gb138) kA hb);have n2_:=Aside0.mk (blk_below (g:=gb143) kA hb);have n3_:=Aside0.mk (below_step bA hb);clear BK137 BK138 BK143 HB;have BK137:=n0_;have BK138:=n1_;have BK143:=n2_;have HB:=n3_;clear n0_ n1_ n2_ n3_;(try clear hb)
            refine hK.out _ _ ⟨(blk_cell BK137.out 0).trans rfl,(blk_cell BK137.out 1).trans rfl⟩ (fun hHeld => ?_)
            clear hK K
            refine norm_ (a':=?_) ?_ ?_
            rotate_left
            ·show Act.put _ (some 11) _ = _
             simp only [Act.put,List.setIfInBounds_toArray,List.set_cons_zero,List.set_cons_succ,i64_w,i32_w]
             rfl
            exact norm_ (by first | (simp only [putAll,Act.put,List.setIfInBounds_toArray,List.set_cons_zero,List.set_cons_succ];done) | (simp only [putAll,Act.put,List.setIfInBounds_toArray,List.set_cons_zero,List.set_cons_succ];rfl)) (hJ3_8 (gb143) _ ⟨hHeld,kA,kA,kA,GW143.out,GE143.out,NB137_143.out,NB143_137.out,NB138_143.out,NB143_138.out,bA⟩)
           ·skip
            refine box_step ?hg (N:=7) ?hd (cs:=#[.int .u64 0,.int .u64 0]) (t:=87) ?hr ?_;(case hd => rfl);(case hg => rfl);(case hr => first | (go_simp;done) | (go_simp;rfl))
            intro gb144 hg w12 hbox hb
            have n0_:=Aside0.mk (blk_below (g:=gb137) kA hb);have n1_:=Aside0.mk (blk_below (g:=gb138) kA hb);have n2_:=Aside0.mk (blk_below (g:=gb143) kA hb);have n3_:=Aside0.mk (below_step bA hb);have n4_:=Aside0.mk (hbox);have n5_:=Aside0.mk (gwA hg bA);have n6_:=Aside0.mk (gwA hg bA);have n7_:=Aside0.mk (neA (g:=gb137) hg kA);have n8_:=Aside0.mk (neB (g:=gb137) hg kA);have n9_:=Aside0.mk (neA (g:=gb138) hg kA);have n10_:=Aside0.mk (neB (g:=gb138) hg kA);have n11_:=Aside0.mk (neA (g:=gb143) hg kA);have n12_:=Aside0.mk (neB (g:=gb143) hg kA);clear BK137 BK138 BK143 HB;have BK137:=n0_;have BK138:=n1_;have BK143:=n2_;have HB:=n3_;have BK144:=n4_;have GW144:=n5_;have GE144:=n6_;have NB137_144:=n7_;have NB144_137:=n8_;have NB138_144:=n9_;have NB144_138:=n10_;have NB143_144:=n11_;have NB144_143:=n12_;clear n0_ n1_ n2_ n3_ n4_ n5_ n6_ n7_ n8_ n9_ n10_ n11_ n12_ hb hbox hg
            refine hK.out _ _ ⟨(blk_cell BK137.out 0).trans rfl,(blk_cell BK137.out 1).trans rfl⟩ (fun hHeld => ?_)
            clear hK K
            refine norm_ (a':=?_) ?_ ?_
            rotate_left
            ·show Act.put _ (some 7) _ = _
             simp only [Act.put,List.setIfInBounds_toArray,List.set_cons_zero,List.set_cons_succ,i64_w,i32_w]
             rfl
            exact norm_ (by first | (simp only [putAll,Act.put,List.setIfInBounds_toArray,List.set_cons_zero,List.set_cons_succ];done) | (simp only [putAll,Act.put,List.setIfInBounds_toArray,List.set_cons_zero,List.set_cons_succ];rfl)) (hJ8_9 (gb143,gb144) _ ⟨hHeld,kA,kA,kA,kA,GW143.out,GE143.out,NB137_143.out,NB143_137.out,NB138_143.out,NB143_138.out,NB144_143.out,NB143_144.out,GW144.out,GE144.out,NB137_144.out,NB144_137.out,NB138_144.out,NB144_138.out,bA⟩)
         ·skip
          rintro _ w11 ⟨hS_,h0_,h1_,h2_⟩
          have n0_ : Aside0 (w11.heap[gb137]? = some (.cells #[.int .u64 a0_0,.int .u64 a0_1] 87 (0,0))):=⟨h0_⟩
          have n1_ : Aside0 (w11.heap[gb138]? = some (.cells #[.int .u64 0,.int .u64 0] 87 (0,0))):=⟨h1_⟩
          have n2_ : Aside0 (Below w.heap.size w w11):=⟨h2_⟩
          clear BK137 BK138 HB h0_ h1_ h2_;have BK137:=n0_;have BK138:=n1_;have HB:=n2_;clear n0_ n1_ n2_
          have hHeld : w11.cell? ⟨gb137,0,none⟩ = some (.int .u64 a0_0) ∧ w11.cell? ⟨gb137,1,none⟩ = some (.int .u64 a0_1):=hS_
          refine norm_ (a':=?_) ?_ ?_
          rotate_left
          ·simp only [putAll,Act.put,List.setIfInBounds_toArray,List.set_cons_zero,List.set_cons_succ]
           rfl
          refine three_ (i:=7) (j:=8) (k:=9) (Ni:=some 15) (Nj:=some 6) (Nk:=some 7) #[true,true,true,true,true,true,true,true,false,false,false,false] #[true,true,true,true,true,true,true,false,true,false,false,false] #[true,true,true,true,true,true,true,false,false,true,false,false] rfl rfl rfl rfl rfl rfl (three_of HT_.out (by kernel_rfl)) (by decide) (by decide) (by decide) (fun K hK => ?_) (fun K hK => ?_) (fun K hK => ?_)
          ·skip
           refine goes_ Tryd.func73 (by kernel_rfl) rfl #[.int .u64 a0_0,.int .u64 a1] (by rfl) rfl rfl aA ?_
           with_reducible refine (wide_Mul.calls a0_0 a1 t141 t142 _ A4.out).mono ?_
           rintro e w12 ⟨rfl,hb⟩
           refine ⟨_,rfl,?_⟩;have n0_:=Aside0.mk (blk_below (g:=gb137) kA hb);have n1_:=Aside0.mk (blk_below (g:=gb138) kA hb);have n2_:=Aside0.mk (below_step bA hb);clear BK137 BK138 HB;have BK137:=n0_;have BK138:=n1_;have HB:=n2_;clear n0_ n1_ n2_;(try clear hb)
           refine hK.out _ _ ⟨(blk_cell BK137.out 0).trans rfl,(blk_cell BK137.out 1).trans rfl⟩ (fun hHeld => ?_)
           clear hK K
           refine norm_ (a':=?_) ?_ ?_
           rotate_left
           ·show Act.put _ (some 15) _ = _
            simp only [Act.put,List.setIfInBounds_toArray,List.set_cons_zero,List.set_cons_succ,i64_w,i32_w]
            rfl
           exact norm_ (by first | (simp only [putAll,Act.put,List.setIfInBounds_toArray,List.set_cons_zero,List.set_cons_succ];done) | (simp only [putAll,Act.put,List.setIfInBounds_toArray,List.set_cons_zero,List.set_cons_succ];rfl)) (hJ3_7 () _ ⟨hHeld,kA,kA,bA⟩)
          ·skip
           refine box_step ?hg (N:=6) ?hd (cs:=#[.int .u64 0,.int .u64 0]) (t:=87) ?hr ?_;(case hd => rfl);(case hg => rfl);(case hr => first | (go_simp;done) | (go_simp;rfl))
           intro gb143 hg w12 hbox hb
           have n0_:=Aside0.mk (blk_below (g:=gb137) kA hb);have n1_:=Aside0.mk (blk_below (g:=gb138) kA hb);have n2_:=Aside0.mk (below_step bA hb);have n3_:=Aside0.mk (hbox);have n4_:=Aside0.mk (gwA hg bA);have n5_:=Aside0.mk (gwA hg bA);have n6_:=Aside0.mk (neA (g:=gb137) hg kA);have n7_:=Aside0.mk (neB (g:=gb137) hg kA);have n8_:=Aside0.mk (neA (g:=gb138) hg kA);have n9_:=Aside0.mk (neB (g:=gb138) hg kA);clear BK137 BK138 HB;have BK137:=n0_;have BK138:=n1_;have HB:=n2_;have BK143:=n3_;have GW143:=n4_;have GE143:=n5_;have NB137_143:=n6_;have NB143_137:=n7_;have NB138_143:=n8_;have NB143_138:=n9_;clear n0_ n1_ n2_ n3_ n4_ n5_ n6_ n7_ n8_ n9_ hb hbox hg
           refine hK.out _ _ ⟨(blk_cell BK137.out 0).trans rfl,(blk_cell BK137.out 1).trans rfl⟩ (fun hHeld => ?_)
           clear hK K
           refine norm_ (a':=?_) ?_ ?_
           rotate_left
           ·show Act.put _ (some 6) _ = _
            simp only [Act.put,List.setIfInBounds_toArray,List.set_cons_zero,List.set_cons_succ,i64_w,i32_w]
            rfl
           exact norm_ (by first | (simp only [putAll,Act.put,List.setIfInBounds_toArray,List.set_cons_zero,List.set_cons_succ];done) | (simp only [putAll,Act.put,List.setIfInBounds_toArray,List.set_cons_zero,List.set_cons_succ];rfl)) (hJ3_8 (gb143) _ ⟨hHeld,kA,kA,kA,GW143.out,GE143.out,NB137_143.out,NB143_137.out,NB138_143.out,NB143_138.out,bA⟩)
          ·skip
           refine box_step ?hg (N:=7) ?hd (cs:=#[.int .u64 0,.int .u64 0]) (t:=87) ?hr ?_;(case hd => rfl);(case hg => rfl);(case hr => first | (go_simp;done) | (go_simp;rfl))
           intro gb144 hg w12 hbox hb
           have n0_:=Aside0.mk (blk_below (g:=gb137) kA hb);have n1_:=Aside0.mk (blk_below (g:=gb138) kA hb);have n2_:=Aside0.mk (below_step bA hb);have n3_:=Aside0.mk (hbox);have n4_:=Aside0.mk (gwA hg bA);have n5_:=Aside0.mk (gwA hg bA);have n6_:=Aside0.mk (neA (g:=gb137) hg kA);have n7_:=Aside0.mk (neB (g:=gb137) hg kA);have n8_:=Aside0.mk (neA (g:=gb138) hg kA);have n9_:=Aside0.mk (neB (g:=gb138) hg kA);clear BK137 BK138 HB;have BK137:=n0_;have BK138:=n1_;have HB:=n2_;have BK144:=n3_;have GW144:=n4_;have GE144:=n5_;have NB137_144:=n6_;have NB144_137:=n7_;have NB138_144:=n8_;have NB144_138:=n9_;clear n0_ n1_ n2_ n3_ n4_ n5_ n6_ n7_ n8_ n9_ hb hbox hg
           refine hK.out _ _ ⟨(blk_cell BK137.out 0).trans rfl,(blk_cell BK137.out 1).trans rfl⟩ (fun hHeld => ?_)
           clear hK K
           refine norm_ (a':=?_) ?_ ?_
           rotate_left
           ·show Act.put _ (some 7) _ = _
            simp only [Act.put,List.setIfInBounds_toArray,List.set_cons_zero,List.set_cons_succ,i64_w,i32_w]
            rfl
           exact norm_ (by first | (simp only [putAll,Act.put,List.setIfInBounds_toArray,List.set_cons_zero,List.set_cons_succ];done) | (simp only [putAll,Act.put,List.setIfInBounds_toArray,List.set_cons_zero,List.set_cons_succ];rfl)) (hJ3_9 (gb144) _ ⟨hHeld,kA,kA,kA,GW144.out,GE144.out,NB137_144.out,NB144_137.out,NB138_144.out,NB144_138.out,bA⟩)
        ·skip
         rintro ⟨gb143,gb144⟩ w12 ⟨hS_,h0_,h1_,h2_,h3_,h4_,h5_,h6_,h7_,h8_,h9_,h10_,h11_,h12_,h13_,h14_,h15_,h16_,h17_,h18_⟩
         have n0_ : Aside0 (w12.heap[gb137]? = some (.cells #[.int .u64 a0_0,.int .u64 a0_1] 87 (0,0))):=⟨h0_⟩
         have n1_ : Aside0 (w12.heap[gb138]? = some (.cells #[.int .u64 0,.int .u64 0] 87 (0,0))):=⟨h1_⟩
         have n2_ : Aside0 (w12.heap[gb143]? = some (.cells #[.int .u64 0,.int .u64 0] 87 (0,0))):=⟨h2_⟩
         have n3_ : Aside0 (w12.heap[gb144]? = some (.cells #[.int .u64 0,.int .u64 0] 87 (0,0))):=⟨h3_⟩
         have n4_ : Aside0 (w.heap.size ≤ gb143):=⟨h4_⟩
         have n5_ : Aside0 (w.heap.size ≤ gb143):=⟨h5_⟩
         have n6_ : Aside0 (gb137 ≠ gb143):=⟨h6_⟩
         have n7_ : Aside0 (gb143 ≠ gb137):=⟨h7_⟩
         have n8_ : Aside0 (gb138 ≠ gb143):=⟨h8_⟩
         have n9_ : Aside0 (gb143 ≠ gb138):=⟨h9_⟩
         have n10_ : Aside0 (gb144 ≠ gb143):=⟨h10_⟩
         have n11_ : Aside0 (gb143 ≠ gb144):=⟨h11_⟩
         have n12_ : Aside0 (w.heap.size ≤ gb144):=⟨h12_⟩
         have n13_ : Aside0 (w.heap.size ≤ gb144):=⟨h13_⟩
         have n14_ : Aside0 (gb137 ≠ gb144):=⟨h14_⟩
         have n15_ : Aside0 (gb144 ≠ gb137):=⟨h15_⟩
         have n16_ : Aside0 (gb138 ≠ gb144):=⟨h16_⟩
         have n17_ : Aside0 (gb144 ≠ gb138):=⟨h17_⟩
         have n18_ : Aside0 (Below w.heap.size w w12):=⟨h18_⟩
         clear BK137 BK138 HB h0_ h1_ h2_ h3_ h4_ h5_ h6_ h7_ h8_ h9_ h10_ h11_ h12_ h13_ h14_ h15_ h16_ h17_ h18_;have BK137:=n0_;have BK138:=n1_;have BK143:=n2_;have BK144:=n3_;have GW143:=n4_;have GE143:=n5_;have NB137_143:=n6_;have NB143_137:=n7_;have NB138_143:=n8_;have NB143_138:=n9_;have NB144_143:=n10_;have NB143_144:=n11_;have GW144:=n12_;have GE144:=n13_;have NB137_144:=n14_;have NB144_137:=n15_;have NB138_144:=n16_;have NB144_138:=n17_;have HB:=n18_;clear n0_ n1_ n2_ n3_ n4_ n5_ n6_ n7_ n8_ n9_ n10_ n11_ n12_ n13_ n14_ n15_ n16_ n17_ n18_
         have hHeld : w12.cell? ⟨gb137,0,none⟩ = some (.int .u64 a0_0) ∧ w12.cell? ⟨gb137,1,none⟩ = some (.int .u64 a0_1):=hS_
         refine norm_ (a':=?_) ?_ ?_
         rotate_left
         ·simp only [putAll,Act.put,List.setIfInBounds_toArray,List.set_cons_zero,List.set_cons_succ]
          rfl
         refine one_ (i:=3) (N:=some 11) #[true,true,true,true,true,true,true,false,true,true,false,false] rfl rfl (one_of HT_.out (by kernel_rfl)) (by decide) (fun K hK => ?_)
         refine goes_ Tryd.func73 (by kernel_rfl) rfl #[.int .u64 a0_1,.int .u64 a1] (by rfl) rfl rfl aA ?_
         with_reducible refine (wide_Mul.calls a0_1 a1 t139 t140 _ A3.out).mono ?_
         rintro e w13 ⟨rfl,hb⟩
         refine ⟨_,rfl,?_⟩;have n0_:=Aside0.mk (blk_below (g:=gb137) kA hb);have n1_:=Aside0.mk (blk_below (g:=gb138) kA hb);have n2_:=Aside0.mk (blk_below (g:=gb143) kA hb);have n3_:=Aside0.mk (blk_below (g:=gb144) kA hb);have n4_:=Aside0.mk (below_step bA hb);clear BK137 BK138 BK143 BK144 HB;have BK137:=n0_;have BK138:=n1_;have BK143:=n2_;have BK144:=n3_;have HB:=n4_;clear n0_ n1_ n2_ n3_ n4_;(try clear hb)
         refine hK.out _ _ ⟨(blk_cell BK137.out 0).trans rfl,(blk_cell BK137.out 1).trans rfl⟩ (fun hHeld => ?_)
         clear hK K
         refine norm_ (a':=?_) ?_ ?_
         rotate_left
         ·show Act.put _ (some 11) _ = _
          simp only [Act.put,List.setIfInBounds_toArray,List.set_cons_zero,List.set_cons_succ,i64_w,i32_w]
          rfl
         exact norm_ (by first | (simp only [putAll,Act.put,List.setIfInBounds_toArray,List.set_cons_zero,List.set_cons_succ];done) | (simp only [putAll,Act.put,List.setIfInBounds_toArray,List.set_cons_zero,List.set_cons_succ];rfl)) (hJ3_8_9 (gb143,gb144) _ ⟨hHeld,kA,kA,kA,kA,GW143.out,GE143.out,NB137_143.out,NB143_137.out,NB138_143.out,NB143_138.out,NB144_143.out,NB143_144.out,GW144.out,GE144.out,NB137_144.out,NB144_137.out,NB138_144.out,NB144_138.out,bA⟩)
       ·skip
        rintro gb144 w12 ⟨hS_,h0_,h1_,h2_,h3_,h4_,h5_,h6_,h7_,h8_,h9_⟩
        have n0_ : Aside0 (w12.heap[gb137]? = some (.cells #[.int .u64 a0_0,.int .u64 a0_1] 87 (0,0))):=⟨h0_⟩
        have n1_ : Aside0 (w12.heap[gb138]? = some (.cells #[.int .u64 0,.int .u64 0] 87 (0,0))):=⟨h1_⟩
        have n2_ : Aside0 (w12.heap[gb144]? = some (.cells #[.int .u64 0,.int .u64 0] 87 (0,0))):=⟨h2_⟩
        have n3_ : Aside0 (w.heap.size ≤ gb144):=⟨h3_⟩
        have n4_ : Aside0 (w.heap.size ≤ gb144):=⟨h4_⟩
        have n5_ : Aside0 (gb137 ≠ gb144):=⟨h5_⟩
        have n6_ : Aside0 (gb144 ≠ gb137):=⟨h6_⟩
        have n7_ : Aside0 (gb138 ≠ gb144):=⟨h7_⟩
        have n8_ : Aside0 (gb144 ≠ gb138):=⟨h8_⟩
        have n9_ : Aside0 (Below w.heap.size w w12):=⟨h9_⟩
        clear BK137 BK138 HB h0_ h1_ h2_ h3_ h4_ h5_ h6_ h7_ h8_ h9_;have BK137:=n0_;have BK138:=n1_;have BK144:=n2_;have GW144:=n3_;have GE144:=n4_;have NB137_144:=n5_;have NB144_137:=n6_;have NB138_144:=n7_;have NB144_138:=n8_;have HB:=n9_;clear n0_ n1_ n2_ n3_ n4_ n5_ n6_ n7_ n8_ n9_
        have hHeld : w12.cell? ⟨gb137,0,none⟩ = some (.int .u64 a0_0) ∧ w12.cell? ⟨gb137,1,none⟩ = some (.int .u64 a0_1):=hS_
        refine norm_ (a':=?_) ?_ ?_
        rotate_left
        ·simp only [putAll,Act.put,List.setIfInBounds_toArray,List.set_cons_zero,List.set_cons_succ]
         rfl
        refine two_ (i:=7) (j:=8) (Ni:=some 15) (Nj:=some 6) #[true,true,true,true,true,true,true,true,false,true,false,false] #[true,true,true,true,true,true,true,false,true,true,false,false] rfl rfl rfl rfl (two_of HT_.out (by kernel_rfl)) (by decide) (by decide) (fun K hK => ?_) (fun K hK => ?_)
        ·skip
         refine goes_ Tryd.func73 (by kernel_rfl) rfl #[.int .u64 a0_0,.int .u64 a1] (by rfl) rfl rfl aA ?_
         with_reducible refine (wide_Mul.calls a0_0 a1 t141 t142 _ A4.out).mono ?_
         rintro e w13 ⟨rfl,hb⟩
         refine ⟨_,rfl,?_⟩;have n0_:=Aside0.mk (blk_below (g:=gb137) kA hb);have n1_:=Aside0.mk (blk_below (g:=gb138) kA hb);have n2_:=Aside0.mk (blk_below (g:=gb144) kA hb);have n3_:=Aside0.mk (below_step bA hb);clear BK137 BK138 BK144 HB;have BK137:=n0_;have BK138:=n1_;have BK144:=n2_;have HB:=n3_;clear n0_ n1_ n2_ n3_;(try clear hb)
         refine hK.out _ _ ⟨(blk_cell BK137.out 0).trans rfl,(blk_cell BK137.out 1).trans rfl⟩ (fun hHeld => ?_)
         clear hK K
         refine norm_ (a':=?_) ?_ ?_
         rotate_left
         ·show Act.put _ (some 15) _ = _
          simp only [Act.put,List.setIfInBounds_toArray,List.set_cons_zero,List.set_cons_succ,i64_w,i32_w]
          rfl
         exact norm_ (by first | (simp only [putAll,Act.put,List.setIfInBounds_toArray,List.set_cons_zero,List.set_cons_succ];done) | (simp only [putAll,Act.put,List.setIfInBounds_toArray,List.set_cons_zero,List.set_cons_succ];rfl)) (hJ3_7_9 (gb144) _ ⟨hHeld,kA,kA,kA,GW144.out,GE144.out,NB137_144.out,NB144_137.out,NB138_144.out,NB144_138.out,bA⟩)
        ·skip
         refine box_step ?hg (N:=6) ?hd (cs:=#[.int .u64 0,.int .u64 0]) (t:=87) ?hr ?_;(case hd => rfl);(case hg => rfl);(case hr => first | (go_simp;done) | (go_simp;rfl))
         intro gb143 hg w13 hbox hb
         have n0_:=Aside0.mk (blk_below (g:=gb137) kA hb);have n1_:=Aside0.mk (blk_below (g:=gb138) kA hb);have n2_:=Aside0.mk (blk_below (g:=gb144) kA hb);have n3_:=Aside0.mk (below_step bA hb);have n4_:=Aside0.mk (hbox);have n5_:=Aside0.mk (gwA hg bA);have n6_:=Aside0.mk (gwA hg bA);have n7_:=Aside0.mk (neA (g:=gb137) hg kA);have n8_:=Aside0.mk (neB (g:=gb137) hg kA);have n9_:=Aside0.mk (neA (g:=gb138) hg kA);have n10_:=Aside0.mk (neB (g:=gb138) hg kA);have n11_:=Aside0.mk (neA (g:=gb144) hg kA);have n12_:=Aside0.mk (neB (g:=gb144) hg kA);clear BK137 BK138 BK144 HB;have BK137:=n0_;have BK138:=n1_;have BK144:=n2_;have HB:=n3_;have BK143:=n4_;have GW143:=n5_;have GE143:=n6_;have NB137_143:=n7_;have NB143_137:=n8_;have NB138_143:=n9_;have NB143_138:=n10_;have NB144_143:=n11_;have NB143_144:=n12_;clear n0_ n1_ n2_ n3_ n4_ n5_ n6_ n7_ n8_ n9_ n10_ n11_ n12_ hb hbox hg
         refine hK.out _ _ ⟨(blk_cell BK137.out 0).trans rfl,(blk_cell BK137.out 1).trans rfl⟩ (fun hHeld => ?_)
         clear hK K
         refine norm_ (a':=?_) ?_ ?_
         rotate_left
         ·show Act.put _ (some 6) _ = _
          simp only [Act.put,List.setIfInBounds_toArray,List.set_cons_zero,List.set_cons_succ,i64_w,i32_w]
          rfl
         exact norm_ (by first | (simp only [putAll,Act.put,List.setIfInBounds_toArray,List.set_cons_zero,List.set_cons_succ];done) | (simp only [putAll,Act.put,List.setIfInBounds_toArray,List.set_cons_zero,List.set_cons_succ];rfl)) (hJ3_8_9 (gb143,gb144) _ ⟨hHeld,kA,kA,kA,kA,GW143.out,GE143.out,NB137_143.out,NB143_137.out,NB138_143.out,NB143_138.out,NB144_143.out,NB143_144.out,GW144.out,GE144.out,NB137_144.out,NB144_137.out,NB138_144.out,NB144_138.out,bA⟩)
      ·skip
       rintro gb143 w12 ⟨hS_,h0_,h1_,h2_,h3_,h4_,h5_,h6_,h7_,h8_,h9_⟩
       have n0_ : Aside0 (w12.heap[gb137]? = some (.cells #[.int .u64 a0_0,.int .u64 a0_1] 87 (0,0))):=⟨h0_⟩
       have n1_ : Aside0 (w12.heap[gb138]? = some (.cells #[.int .u64 0,.int .u64 0] 87 (0,0))):=⟨h1_⟩
       have n2_ : Aside0 (w12.heap[gb143]? = some (.cells #[.int .u64 0,.int .u64 0] 87 (0,0))):=⟨h2_⟩
       have n3_ : Aside0 (w.heap.size ≤ gb143):=⟨h3_⟩
       have n4_ : Aside0 (w.heap.size ≤ gb143):=⟨h4_⟩
       have n5_ : Aside0 (gb137 ≠ gb143):=⟨h5_⟩
       have n6_ : Aside0 (gb143 ≠ gb137):=⟨h6_⟩
       have n7_ : Aside0 (gb138 ≠ gb143):=⟨h7_⟩
       have n8_ : Aside0 (gb143 ≠ gb138):=⟨h8_⟩
       have n9_ : Aside0 (Below w.heap.size w w12):=⟨h9_⟩
       clear BK137 BK138 HB h0_ h1_ h2_ h3_ h4_ h5_ h6_ h7_ h8_ h9_;have BK137:=n0_;have BK138:=n1_;have BK143:=n2_;have GW143:=n3_;have GE143:=n4_;have NB137_143:=n5_;have NB143_137:=n6_;have NB138_143:=n7_;have NB143_138:=n8_;have HB:=n9_;clear n0_ n1_ n2_ n3_ n4_ n5_ n6_ n7_ n8_ n9_
       have hHeld : w12.cell? ⟨gb137,0,none⟩ = some (.int .u64 a0_0) ∧ w12.cell? ⟨gb137,1,none⟩ = some (.int .u64 a0_1):=hS_
       refine norm_ (a':=?_) ?_ ?_
       rotate_left
       ·simp only [putAll,Act.put,List.setIfInBounds_toArray,List.set_cons_zero,List.set_cons_succ]
        rfl
       refine two_ (i:=7) (j:=9) (Ni:=some 15) (Nj:=some 7) #[true,true,true,true,true,true,true,true,true,false,false,false] #[true,true,true,true,true,true,true,false,true,true,false,false] rfl rfl rfl rfl (two_of HT_.out (by kernel_rfl)) (by decide) (by decide) (fun K hK => ?_) (fun K hK => ?_)
       ·skip
        refine goes_ Tryd.func73 (by kernel_rfl) rfl #[.int .u64 a0_0,.int .u64 a1] (by rfl) rfl rfl aA ?_
        with_reducible refine (wide_Mul.calls a0_0 a1 t141 t142 _ A4.out).mono ?_
        rintro e w13 ⟨rfl,hb⟩
        refine ⟨_,rfl,?_⟩;have n0_:=Aside0.mk (blk_below (g:=gb137) kA hb);have n1_:=Aside0.mk (blk_below (g:=gb138) kA hb);have n2_:=Aside0.mk (blk_below (g:=gb143) kA hb);have n3_:=Aside0.mk (below_step bA hb);clear BK137 BK138 BK143 HB;have BK137:=n0_;have BK138:=n1_;have BK143:=n2_;have HB:=n3_;clear n0_ n1_ n2_ n3_;(try clear hb)
        refine hK.out _ _ ⟨(blk_cell BK137.out 0).trans rfl,(blk_cell BK137.out 1).trans rfl⟩ (fun hHeld => ?_)
        clear hK K
        refine norm_ (a':=?_) ?_ ?_
        rotate_left
        ·show Act.put _ (some 15) _ = _
         simp only [Act.put,List.setIfInBounds_toArray,List.set_cons_zero,List.set_cons_succ,i64_w,i32_w]
         rfl
        exact norm_ (by first | (simp only [putAll,Act.put,List.setIfInBounds_toArray,List.set_cons_zero,List.set_cons_succ];done) | (simp only [putAll,Act.put,List.setIfInBounds_toArray,List.set_cons_zero,List.set_cons_succ];rfl)) (hJ3_7_8 (gb143) _ ⟨hHeld,kA,kA,kA,GW143.out,GE143.out,NB137_143.out,NB143_137.out,NB138_143.out,NB143_138.out,bA⟩)
       ·skip
        refine box_step ?hg (N:=7) ?hd (cs:=#[.int .u64 0,.int .u64 0]) (t:=87) ?hr ?_;(case hd => rfl);(case hg => rfl);(case hr => first | (go_simp;done) | (go_simp;rfl))
        intro gb144 hg w13 hbox hb
        have n0_:=Aside0.mk (blk_below (g:=gb137) kA hb);have n1_:=Aside0.mk (blk_below (g:=gb138) kA hb);have n2_:=Aside0.mk (blk_below (g:=gb143) kA hb);have n3_:=Aside0.mk (below_step bA hb);have n4_:=Aside0.mk (hbox);have n5_:=Aside0.mk (gwA hg bA);have n6_:=Aside0.mk (gwA hg bA);have n7_:=Aside0.mk (neA (g:=gb137) hg kA);have n8_:=Aside0.mk (neB (g:=gb137) hg kA);have n9_:=Aside0.mk (neA (g:=gb138) hg kA);have n10_:=Aside0.mk (neB (g:=gb138) hg kA);have n11_:=Aside0.mk (neA (g:=gb143) hg kA);have n12_:=Aside0.mk (neB (g:=gb143) hg kA);clear BK137 BK138 BK143 HB;have BK137:=n0_;have BK138:=n1_;have BK143:=n2_;have HB:=n3_;have BK144:=n4_;have GW144:=n5_;have GE144:=n6_;have NB137_144:=n7_;have NB144_137:=n8_;have NB138_144:=n9_;have NB144_138:=n10_;have NB143_144:=n11_;have NB144_143:=n12_;clear n0_ n1_ n2_ n3_ n4_ n5_ n6_ n7_ n8_ n9_ n10_ n11_ n12_ hb hbox hg
        refine hK.out _ _ ⟨(blk_cell BK137.out 0).trans rfl,(blk_cell BK137.out 1).trans rfl⟩ (fun hHeld => ?_)
        clear hK K
        refine norm_ (a':=?_) ?_ ?_
        rotate_left
        ·show Act.put _ (some 7) _ = _
         simp only [Act.put,List.setIfInBounds_toArray,List.set_cons_zero,List.set_cons_succ,i64_w,i32_w]
         rfl
        exact norm_ (by first | (simp only [putAll,Act.put,List.setIfInBounds_toArray,List.set_cons_zero,List.set_cons_succ];done) | (simp only [putAll,Act.put,List.setIfInBounds_toArray,List.set_cons_zero,List.set_cons_succ];rfl)) (hJ3_8_9 (gb143,gb144) _ ⟨hHeld,kA,kA,kA,kA,GW143.out,GE143.out,NB137_143.out,NB143_137.out,NB138_143.out,NB143_138.out,NB144_143.out,NB143_144.out,GW144.out,GE144.out,NB137_144.out,NB144_137.out,NB138_144.out,NB144_138.out,bA⟩)
     ·skip
      rintro _ w12 ⟨hS_,h0_,h1_,h2_⟩
      have n0_ : Aside0 (w12.heap[gb137]? = some (.cells #[.int .u64 a0_0,.int .u64 a0_1] 87 (0,0))):=⟨h0_⟩
      have n1_ : Aside0 (w12.heap[gb138]? = some (.cells #[.int .u64 0,.int .u64 0] 87 (0,0))):=⟨h1_⟩
      have n2_ : Aside0 (Below w.heap.size w w12):=⟨h2_⟩
      clear BK137 BK138 HB h0_ h1_ h2_;have BK137:=n0_;have BK138:=n1_;have HB:=n2_;clear n0_ n1_ n2_
      have hHeld : w12.cell? ⟨gb137,0,none⟩ = some (.int .u64 a0_0) ∧ w12.cell? ⟨gb137,1,none⟩ = some (.int .u64 a0_1):=hS_
      refine norm_ (a':=?_) ?_ ?_
      rotate_left
      ·simp only [putAll,Act.put,List.setIfInBounds_toArray,List.set_cons_zero,List.set_cons_succ]
       rfl
      refine two_ (i:=8) (j:=9) (Ni:=some 6) (Nj:=some 7) #[true,true,true,true,true,true,true,true,true,false,false,false] #[true,true,true,true,true,true,true,true,false,true,false,false] rfl rfl rfl rfl (two_of HT_.out (by kernel_rfl)) (by decide) (by decide) (fun K hK => ?_) (fun K hK => ?_)
      ·skip
       refine box_step ?hg (N:=6) ?hd (cs:=#[.int .u64 0,.int .u64 0]) (t:=87) ?hr ?_;(case hd => rfl);(case hg => rfl);(case hr => first | (go_simp;done) | (go_simp;rfl))
       intro gb143 hg w13 hbox hb
       have n0_:=Aside0.mk (blk_below (g:=gb137) kA hb);have n1_:=Aside0.mk (blk_below (g:=gb138) kA hb);have n2_:=Aside0.mk (below_step bA hb);have n3_:=Aside0.mk (hbox);have n4_:=Aside0.mk (gwA hg bA);have n5_:=Aside0.mk (gwA hg bA);have n6_:=Aside0.mk (neA (g:=gb137) hg kA);have n7_:=Aside0.mk (neB (g:=gb137) hg kA);have n8_:=Aside0.mk (neA (g:=gb138) hg kA);have n9_:=Aside0.mk (neB (g:=gb138) hg kA);clear BK137 BK138 HB;have BK137:=n0_;have BK138:=n1_;have HB:=n2_;have BK143:=n3_;have GW143:=n4_;have GE143:=n5_;have NB137_143:=n6_;have NB143_137:=n7_;have NB138_143:=n8_;have NB143_138:=n9_;clear n0_ n1_ n2_ n3_ n4_ n5_ n6_ n7_ n8_ n9_ hb hbox hg
       refine hK.out _ _ ⟨(blk_cell BK137.out 0).trans rfl,(blk_cell BK137.out 1).trans rfl⟩ (fun hHeld => ?_)
       clear hK K
       refine norm_ (a':=?_) ?_ ?_
       rotate_left
       ·show Act.put _ (some 6) _ = _
        simp only [Act.put,List.setIfInBounds_toArray,List.set_cons_zero,List.set_cons_succ,i64_w,i32_w]
        rfl
       exact norm_ (by first | (simp only [putAll,Act.put,List.setIfInBounds_toArray,List.set_cons_zero,List.set_cons_succ];done) | (simp only [putAll,Act.put,List.setIfInBounds_toArray,List.set_cons_zero,List.set_cons_succ];rfl)) (hJ3_7_8 (gb143) _ ⟨hHeld,kA,kA,kA,GW143.out,GE143.out,NB137_143.out,NB143_137.out,NB138_143.out,NB143_138.out,bA⟩)
      ·skip
       refine box_step ?hg (N:=7) ?hd (cs:=#[.int .u64 0,.int .u64 0]) (t:=87) ?hr ?_;(case hd => rfl);(case hg => rfl);(case hr => first | (go_simp;done) | (go_simp;rfl))
       intro gb144 hg w13 hbox hb
       have n0_:=Aside0.mk (blk_below (g:=gb137) kA hb);have n1_:=Aside0.mk (blk_below (g:=gb138) kA hb);have n2_:=Aside0.mk (below_step bA hb);have n3_:=Aside0.mk (hbox);have n4_:=Aside0.mk (gwA hg bA);have n5_:=Aside0.mk (gwA hg bA);have n6_:=Aside0.mk (neA (g:=gb137) hg kA);have n7_:=Aside0.mk (neB (g:=gb137) hg kA);have n8_:=Aside0.mk (neA (g:=gb138) hg kA);have n9_:=Aside0.mk (neB (g:=gb138) hg kA);clear BK137 BK138 HB;have BK137:=n0_;have BK138:=n1_;have HB:=n2_;have BK144:=n3_;have GW144:=n4_;have GE144:=n5_;have NB137_144:=n6_;have NB144_137:=n7_;have NB138_144:=n8_;have NB144_138:=n9_;clear n0_ n1_ n2_ n3_ n4_ n5_ n6_ n7_ n8_ n9_ hb hbox hg
       refine hK.out _ _ ⟨(blk_cell BK137.out 0).trans rfl,(blk_cell BK137.out 1).trans rfl⟩ (fun hHeld => ?_)
       clear hK K
       refine norm_ (a':=?_) ?_ ?_
       rotate_left
       ·show Act.put _ (some 7) _ = _
        simp only [Act.put,List.setIfInBounds_toArray,List.set_cons_zero,List.set_cons_succ,i64_w,i32_w]
        rfl
       exact norm_ (by first | (simp only [putAll,Act.put,List.setIfInBounds_toArray,List.set_cons_zero,List.set_cons_succ];done) | (simp only [putAll,Act.put,List.setIfInBounds_toArray,List.set_cons_zero,List.set_cons_succ];rfl)) (hJ3_7_9 (gb144) _ ⟨hHeld,kA,kA,kA,GW144.out,GE144.out,NB137_144.out,NB144_137.out,NB138_144.out,NB144_138.out,bA⟩)
    ·skip
     rintro ⟨gb143,gb144⟩ w13 ⟨hS_,h0_,h1_,h2_,h3_,h4_,h5_,h6_,h7_,h8_,h9_,h10_,h11_,h12_,h13_,h14_,h15_,h16_,h17_,h18_⟩
     have n0_ : Aside0 (w13.heap[gb137]? = some (.cells #[.int .u64 a0_0,.int .u64 a0_1] 87 (0,0))):=⟨h0_⟩
     have n1_ : Aside0 (w13.heap[gb138]? = some (.cells #[.int .u64 0,.int .u64 0] 87 (0,0))):=⟨h1_⟩
     have n2_ : Aside0 (w13.heap[gb143]? = some (.cells #[.int .u64 0,.int .u64 0] 87 (0,0))):=⟨h2_⟩
     have n3_ : Aside0 (w13.heap[gb144]? = some (.cells #[.int .u64 0,.int .u64 0] 87 (0,0))):=⟨h3_⟩
     have n4_ : Aside0 (w.heap.size ≤ gb143):=⟨h4_⟩
     have n5_ : Aside0 (w.heap.size ≤ gb143):=⟨h5_⟩
     have n6_ : Aside0 (gb137 ≠ gb143):=⟨h6_⟩
     have n7_ : Aside0 (gb143 ≠ gb137):=⟨h7_⟩
     have n8_ : Aside0 (gb138 ≠ gb143):=⟨h8_⟩
     have n9_ : Aside0 (gb143 ≠ gb138):=⟨h9_⟩
     have n10_ : Aside0 (gb144 ≠ gb143):=⟨h10_⟩
     have n11_ : Aside0 (gb143 ≠ gb144):=⟨h11_⟩
     have n12_ : Aside0 (w.heap.size ≤ gb144):=⟨h12_⟩
     have n13_ : Aside0 (w.heap.size ≤ gb144):=⟨h13_⟩
     have n14_ : Aside0 (gb137 ≠ gb144):=⟨h14_⟩
     have n15_ : Aside0 (gb144 ≠ gb137):=⟨h15_⟩
     have n16_ : Aside0 (gb138 ≠ gb144):=⟨h16_⟩
     have n17_ : Aside0 (gb144 ≠ gb138):=⟨h17_⟩
     have n18_ : Aside0 (Below w.heap.size w w13):=⟨h18_⟩
     clear BK137 BK138 HB h0_ h1_ h2_ h3_ h4_ h5_ h6_ h7_ h8_ h9_ h10_ h11_ h12_ h13_ h14_ h15_ h16_ h17_ h18_;have BK137:=n0_;have BK138:=n1_;have BK143:=n2_;have BK144:=n3_;have GW143:=n4_;have GE143:=n5_;have NB137_143:=n6_;have NB143_137:=n7_;have NB138_143:=n8_;have NB143_138:=n9_;have NB144_143:=n10_;have NB143_144:=n11_;have GW144:=n12_;have GE144:=n13_;have NB137_144:=n14_;have NB144_137:=n15_;have NB138_144:=n16_;have NB144_138:=n17_;have HB:=n18_;clear n0_ n1_ n2_ n3_ n4_ n5_ n6_ n7_ n8_ n9_ n10_ n11_ n12_ n13_ n14_ n15_ n16_ n17_ n18_
     have hHeld : w13.cell? ⟨gb137,0,none⟩ = some (.int .u64 a0_0) ∧ w13.cell? ⟨gb137,1,none⟩ = some (.int .u64 a0_1):=hS_
     refine norm_ (a':=?_) ?_ ?_
     rotate_left
     ·simp only [putAll,Act.put,List.setIfInBounds_toArray,List.set_cons_zero,List.set_cons_succ]
      rfl
     refine one_ (i:=7) (N:=some 15) #[true,true,true,true,true,true,true,true,true,true,false,false] rfl rfl (one_of HT_.out (by kernel_rfl)) (by decide) (fun K hK => ?_)
     refine goes_ Tryd.func73 (by kernel_rfl) rfl #[.int .u64 a0_0,.int .u64 a1] (by rfl) rfl rfl aA ?_
     with_reducible refine (wide_Mul.calls a0_0 a1 t141 t142 _ A4.out).mono ?_
     rintro e w14 ⟨rfl,hb⟩
     refine ⟨_,rfl,?_⟩;have n0_:=Aside0.mk (blk_below (g:=gb137) kA hb);have n1_:=Aside0.mk (blk_below (g:=gb138) kA hb);have n2_:=Aside0.mk (blk_below (g:=gb143) kA hb);have n3_:=Aside0.mk (blk_below (g:=gb144) kA hb);have n4_:=Aside0.mk (below_step bA hb);clear BK137 BK138 BK143 BK144 HB;have BK137:=n0_;have BK138:=n1_;have BK143:=n2_;have BK144:=n3_;have HB:=n4_;clear n0_ n1_ n2_ n3_ n4_;(try clear hb)
     refine hK.out _ _ ⟨(blk_cell BK137.out 0).trans rfl,(blk_cell BK137.out 1).trans rfl⟩ (fun hHeld => ?_)
     clear hK K
     refine norm_ (a':=?_) ?_ ?_
     rotate_left
     ·show Act.put _ (some 15) _ = _
      simp only [Act.put,List.setIfInBounds_toArray,List.set_cons_zero,List.set_cons_succ,i64_w,i32_w]
      rfl
     exact norm_ (by first | (simp only [putAll,Act.put,List.setIfInBounds_toArray,List.set_cons_zero,List.set_cons_succ];done) | (simp only [putAll,Act.put,List.setIfInBounds_toArray,List.set_cons_zero,List.set_cons_succ];rfl)) (hJ3_7_8_9 (gb143,gb144) _ ⟨hHeld,kA,kA,kA,kA,GW143.out,GE143.out,NB137_143.out,NB143_137.out,NB138_143.out,NB143_138.out,NB144_143.out,NB143_144.out,GW144.out,GE144.out,NB137_144.out,NB144_137.out,NB138_144.out,NB144_138.out,bA⟩)
   ·skip
    rintro gb144 w13 ⟨hS_,h0_,h1_,h2_,h3_,h4_,h5_,h6_,h7_,h8_,h9_⟩
    have n0_ : Aside0 (w13.heap[gb137]? = some (.cells #[.int .u64 a0_0,.int .u64 a0_1] 87 (0,0))):=⟨h0_⟩
    have n1_ : Aside0 (w13.heap[gb138]? = some (.cells #[.int .u64 0,.int .u64 0] 87 (0,0))):=⟨h1_⟩
    have n2_ : Aside0 (w13.heap[gb144]? = some (.cells #[.int .u64 0,.int .u64 0] 87 (0,0))):=⟨h2_⟩
    have n3_ : Aside0 (w.heap.size ≤ gb144):=⟨h3_⟩
    have n4_ : Aside0 (w.heap.size ≤ gb144):=⟨h4_⟩
    have n5_ : Aside0 (gb137 ≠ gb144):=⟨h5_⟩
    have n6_ : Aside0 (gb144 ≠ gb137):=⟨h6_⟩
    have n7_ : Aside0 (gb138 ≠ gb144):=⟨h7_⟩
    have n8_ : Aside0 (gb144 ≠ gb138):=⟨h8_⟩
    have n9_ : Aside0 (Below w.heap.size w w13):=⟨h9_⟩
    clear BK137 BK138 HB h0_ h1_ h2_ h3_ h4_ h5_ h6_ h7_ h8_ h9_;have BK137:=n0_;have BK138:=n1_;have BK144:=n2_;have GW144:=n3_;have GE144:=n4_;have NB137_144:=n5_;have NB144_137:=n6_;have NB138_144:=n7_;have NB144_138:=n8_;have HB:=n9_;clear n0_ n1_ n2_ n3_ n4_ n5_ n6_ n7_ n8_ n9_
    have hHeld : w13.cell? ⟨gb137,0,none⟩ = some (.int .u64 a0_0) ∧ w13.cell? ⟨gb137,1,none⟩ = some (.int .u64 a0_1):=hS_
    refine norm_ (a':=?_) ?_ ?_
    rotate_left
    ·simp only [putAll,Act.put,List.setIfInBounds_toArray,List.set_cons_zero,List.set_cons_succ]
     rfl
    refine one_ (i:=8) (N:=some 6) #[true,true,true,true,true,true,true,true,true,true,false,false] rfl rfl (one_of HT_.out (by kernel_rfl)) (by decide) (fun K hK => ?_)
    refine box_step ?hg (N:=6) ?hd (cs:=#[.int .u64 0,.int .u64 0]) (t:=87) ?hr ?_;(case hd => rfl);(case hg => rfl);(case hr => first | (go_simp;done) | (go_simp;rfl))
    intro gb143 hg w14 hbox hb
    have n0_:=Aside0.mk (blk_below (g:=gb137) kA hb);have n1_:=Aside0.mk (blk_below (g:=gb138) kA hb);have n2_:=Aside0.mk (blk_below (g:=gb144) kA hb);have n3_:=Aside0.mk (below_step bA hb);have n4_:=Aside0.mk (hbox);have n5_:=Aside0.mk (gwA hg bA);have n6_:=Aside0.mk (gwA hg bA);have n7_:=Aside0.mk (neA (g:=gb137) hg kA);have n8_:=Aside0.mk (neB (g:=gb137) hg kA);have n9_:=Aside0.mk (neA (g:=gb138) hg kA);have n10_:=Aside0.mk (neB (g:=gb138) hg kA);have n11_:=Aside0.mk (neA (g:=gb144) hg kA);have n12_:=Aside0.mk (neB (g:=gb144) hg kA);clear BK137 BK138 BK144 HB;have BK137:=n0_;have BK138:=n1_;have BK144:=n2_;have HB:=n3_;have BK143:=n4_;have GW143:=n5_;have GE143:=n6_;have NB137_143:=n7_;have NB143_137:=n8_;have NB138_143:=n9_;have NB143_138:=n10_;have NB144_143:=n11_;have NB143_144:=n12_;clear n0_ n1_ n2_ n3_ n4_ n5_ n6_ n7_ n8_ n9_ n10_ n11_ n12_ hb hbox hg
    refine hK.out _ _ ⟨(blk_cell BK137.out 0).trans rfl,(blk_cell BK137.out 1).trans rfl⟩ (fun hHeld => ?_)
    clear hK K
    refine norm_ (a':=?_) ?_ ?_
    rotate_left
    ·show Act.put _ (some 6) _ = _
     simp only [Act.put,List.setIfInBounds_toArray,List.set_cons_zero,List.set_cons_succ,i64_w,i32_w]
     rfl
    exact norm_ (by first | (simp only [putAll,Act.put,List.setIfInBounds_toArray,List.set_cons_zero,List.set_cons_succ];done) | (simp only [putAll,Act.put,List.setIfInBounds_toArray,List.set_cons_zero,List.set_cons_succ];rfl)) (hJ3_7_8_9 (gb143,gb144) _ ⟨hHeld,kA,kA,kA,kA,GW143.out,GE143.out,NB137_143.out,NB143_137.out,NB138_143.out,NB143_138.out,NB144_143.out,NB143_144.out,GW144.out,GE144.out,NB137_144.out,NB144_137.out,NB138_144.out,NB144_138.out,bA⟩)
  ·skip
   rintro gb143 w13 ⟨hS_,h0_,h1_,h2_,h3_,h4_,h5_,h6_,h7_,h8_,h9_⟩
   have n0_ : Aside0 (w13.heap[gb137]? = some (.cells #[.int .u64 a0_0,.int .u64 a0_1] 87 (0,0))):=⟨h0_⟩
   have n1_ : Aside0 (w13.heap[gb138]? = some (.cells #[.int .u64 0,.int .u64 0] 87 (0,0))):=⟨h1_⟩
   have n2_ : Aside0 (w13.heap[gb143]? = some (.cells #[.int .u64 0,.int .u64 0] 87 (0,0))):=⟨h2_⟩
   have n3_ : Aside0 (w.heap.size ≤ gb143):=⟨h3_⟩
   have n4_ : Aside0 (w.heap.size ≤ gb143):=⟨h4_⟩
   have n5_ : Aside0 (gb137 ≠ gb143):=⟨h5_⟩
   have n6_ : Aside0 (gb143 ≠ gb137):=⟨h6_⟩
   have n7_ : Aside0 (gb138 ≠ gb143):=⟨h7_⟩
   have n8_ : Aside0 (gb143 ≠ gb138):=⟨h8_⟩
   have n9_ : Aside0 (Below w.heap.size w w13):=⟨h9_⟩
   clear BK137 BK138 HB h0_ h1_ h2_ h3_ h4_ h5_ h6_ h7_ h8_ h9_;have BK137:=n0_;have BK138:=n1_;have BK143:=n2_;have GW143:=n3_;have GE143:=n4_;have NB137_143:=n5_;have NB143_137:=n6_;have NB138_143:=n7_;have NB143_138:=n8_;have HB:=n9_;clear n0_ n1_ n2_ n3_ n4_ n5_ n6_ n7_ n8_ n9_
   have hHeld : w13.cell? ⟨gb137,0,none⟩ = some (.int .u64 a0_0) ∧ w13.cell? ⟨gb137,1,none⟩ = some (.int .u64 a0_1):=hS_
   refine norm_ (a':=?_) ?_ ?_
   rotate_left
   ·simp only [putAll,Act.put,List.setIfInBounds_toArray,List.set_cons_zero,List.set_cons_succ]
    rfl
   refine one_ (i:=9) (N:=some 7) #[true,true,true,true,true,true,true,true,true,true,false,false] rfl rfl (one_of HT_.out (by kernel_rfl)) (by decide) (fun K hK => ?_)
   refine box_step ?hg (N:=7) ?hd (cs:=#[.int .u64 0,.int .u64 0]) (t:=87) ?hr ?_;(case hd => rfl);(case hg => rfl);(case hr => first | (go_simp;done) | (go_simp;rfl))
   intro gb144 hg w14 hbox hb
   have n0_:=Aside0.mk (blk_below (g:=gb137) kA hb);have n1_:=Aside0.mk (blk_below (g:=gb138) kA hb);have n2_:=Aside0.mk (blk_below (g:=gb143) kA hb);have n3_:=Aside0.mk (below_step bA hb);have n4_:=Aside0.mk (hbox);have n5_:=Aside0.mk (gwA hg bA);have n6_:=Aside0.mk (gwA hg bA);have n7_:=Aside0.mk (neA (g:=gb137) hg kA);have n8_:=Aside0.mk (neB (g:=gb137) hg kA);have n9_:=Aside0.mk (neA (g:=gb138) hg kA);have n10_:=Aside0.mk (neB (g:=gb138) hg kA);have n11_:=Aside0.mk (neA (g:=gb143) hg kA);have n12_:=Aside0.mk (neB (g:=gb143) hg kA);clear BK137 BK138 BK143 HB;have BK137:=n0_;have BK138:=n1_;have BK143:=n2_;have HB:=n3_;have BK144:=n4_;have GW144:=n5_;have GE144:=n6_;have NB137_144:=n7_;have NB144_137:=n8_;have NB138_144:=n9_;have NB144_138:=n10_;have NB143_144:=n11_;have NB144_143:=n12_;clear n0_ n1_ n2_ n3_ n4_ n5_ n6_ n7_ n8_ n9_ n10_ n11_ n12_ hb hbox hg
   refine hK.out _ _ ⟨(blk_cell BK137.out 0).trans rfl,(blk_cell BK137.out 1).trans rfl⟩ (fun hHeld => ?_)
   clear hK K
   refine norm_ (a':=?_) ?_ ?_
   rotate_left
   ·show Act.put _ (some 7) _ = _
    simp only [Act.put,List.setIfInBounds_toArray,List.set_cons_zero,List.set_cons_succ,i64_w,i32_w]
    rfl
   exact norm_ (by first | (simp only [putAll,Act.put,List.setIfInBounds_toArray,List.set_cons_zero,List.set_cons_succ];done) | (simp only [putAll,Act.put,List.setIfInBounds_toArray,List.set_cons_zero,List.set_cons_succ];rfl)) (hJ3_7_8_9 (gb143,gb144) _ ⟨hHeld,kA,kA,kA,kA,GW143.out,GE143.out,NB137_143.out,NB143_137.out,NB138_143.out,NB143_138.out,NB144_143.out,NB143_144.out,GW144.out,GE144.out,NB137_144.out,NB144_137.out,NB138_144.out,NB144_138.out,bA⟩)
 rintro ⟨gb143,gb144⟩ w14 ⟨hS_,h0_,h1_,h2_,h3_,h4_,h5_,h6_,h7_,h8_,h9_,h10_,h11_,h12_,h13_,h14_,h15_,h16_,h17_,h18_⟩
 have n0_ : Aside0 (w14.heap[gb137]? = some (.cells #[.int .u64 a0_0,.int .u64 a0_1] 87 (0,0))):=⟨h0_⟩
 have n1_ : Aside0 (w14.heap[gb138]? = some (.cells #[.int .u64 0,.int .u64 0] 87 (0,0))):=⟨h1_⟩
 have n2_ : Aside0 (w14.heap[gb143]? = some (.cells #[.int .u64 0,.int .u64 0] 87 (0,0))):=⟨h2_⟩
 have n3_ : Aside0 (w14.heap[gb144]? = some (.cells #[.int .u64 0,.int .u64 0] 87 (0,0))):=⟨h3_⟩
 have n4_ : Aside0 (w.heap.size ≤ gb143):=⟨h4_⟩
 have n5_ : Aside0 (w.heap.size ≤ gb143):=⟨h5_⟩
 have n6_ : Aside0 (gb137 ≠ gb143):=⟨h6_⟩
 have n7_ : Aside0 (gb143 ≠ gb137):=⟨h7_⟩
 have n8_ : Aside0 (gb138 ≠ gb143):=⟨h8_⟩
 have n9_ : Aside0 (gb143 ≠ gb138):=⟨h9_⟩
 have n10_ : Aside0 (gb144 ≠ gb143):=⟨h10_⟩
 have n11_ : Aside0 (gb143 ≠ gb144):=⟨h11_⟩
 have n12_ : Aside0 (w.heap.size ≤ gb144):=⟨h12_⟩
 have n13_ : Aside0 (w.heap.size ≤ gb144):=⟨h13_⟩
 have n14_ : Aside0 (gb137 ≠ gb144):=⟨h14_⟩
 have n15_ : Aside0 (gb144 ≠ gb137):=⟨h15_⟩
 have n16_ : Aside0 (gb138 ≠ gb144):=⟨h16_⟩
 have n17_ : Aside0 (gb144 ≠ gb138):=⟨h17_⟩
 have n18_ : Aside0 (Below w.heap.size w w14):=⟨h18_⟩
 clear BK137 BK138 HB h0_ h1_ h2_ h3_ h4_ h5_ h6_ h7_ h8_ h9_ h10_ h11_ h12_ h13_ h14_ h15_ h16_ h17_ h18_;have BK137:=n0_;have BK138:=n1_;have BK143:=n2_;have BK144:=n3_;have GW143:=n4_;have GE143:=n5_;have NB137_143:=n6_;have NB143_137:=n7_;have NB138_143:=n8_;have NB143_138:=n9_;have NB144_143:=n10_;have NB143_144:=n11_;have GW144:=n12_;have GE144:=n13_;have NB137_144:=n14_;have NB144_137:=n15_;have NB138_144:=n16_;have NB144_138:=n17_;have HB:=n18_;clear n0_ n1_ n2_ n3_ n4_ n5_ n6_ n7_ n8_ n9_ n10_ n11_ n12_ n13_ n14_ n15_ n16_ n17_ n18_
 have hHeld : w14.cell? ⟨gb137,0,none⟩ = some (.int .u64 a0_0) ∧ w14.cell? ⟨gb137,1,none⟩ = some (.int .u64 a0_1):=hS_
 refine norm_ (a':=?_) ?_ ?_
 rotate_left
 ·simp only [putAll,Act.put,List.setIfInBounds_toArray,List.set_cons_zero,List.set_cons_succ]
  rfl
 refine one_ (i:=10) (N:=none) #[true,true,true,true,true,true,true,true,true,true,true,false] rfl rfl (one_of HT_.out (by kernel_rfl)) (by decide) (fun K hK => ?_)
 have hs15 : w14.cell? ⟨gb143,0,none⟩ = some (.int .u64 0):=(blk_cell BK143.out 0).trans rfl
 have hfs15:=blk_frozen BK143.out 0
 have hns15_0:=NB137_143.out
 have hns15_1:=NB138_143.out
 have hns15_3:=NB144_143.out
 have hms15_0:=NB143_137.out
 have hms15_1:=NB143_138.out
 have hms15_3:=NB143_144.out
 have hs16 : w14.cell? ⟨gb143,1,none⟩ = some (.int .u64 0):=(blk_cell BK143.out 1).trans rfl
 have hfs16:=blk_frozen BK143.out 1
 have hns16_0:=NB137_143.out
 have hns16_1:=NB138_143.out
 have hns16_3:=NB144_143.out
 have hms16_0:=NB143_137.out
 have hms16_1:=NB143_138.out
 have hms16_3:=NB143_144.out
 refine skip_ (w1:=?_) (by rfl) rfl ?_ ?_
 rotate_left
 ·go_simp
  rfl
 refine hK.out _ _ ⟨((cell_far (p:=⟨gb143,_,none⟩) NB137_143.out _).trans (((cell_far (p:=⟨gb143,_,none⟩) NB137_143.out _).trans (hHeld.1)))),((cell_far (p:=⟨gb143,_,none⟩) NB137_143.out _).trans (((cell_far (p:=⟨gb143,_,none⟩) NB137_143.out _).trans (hHeld.2))))⟩ (fun hHeld => ?_)
 clear hK K
 refine one_ (i:=11) (N:=none) #[true,true,true,true,true,true,true,true,true,true,true,true] rfl rfl (one_of HT_.out (by kernel_rfl)) (by decide) (fun K hK => ?_)
 have hs17 : w14.cell? ⟨gb144,0,none⟩ = some (.int .u64 0):=(blk_cell BK144.out 0).trans rfl
 have hfs17:=blk_frozen BK144.out 0
 have hns17_0:=NB137_144.out
 have hns17_1:=NB138_144.out
 have hns17_2:=NB143_144.out
 have hms17_0:=NB144_137.out
 have hms17_1:=NB144_138.out
 have hms17_2:=NB144_143.out
 have hs18 : w14.cell? ⟨gb144,1,none⟩ = some (.int .u64 0):=(blk_cell BK144.out 1).trans rfl
 have hfs18:=blk_frozen BK144.out 1
 have hns18_0:=NB137_144.out
 have hns18_1:=NB138_144.out
 have hns18_2:=NB143_144.out
 have hms18_0:=NB144_137.out
 have hms18_1:=NB144_138.out
 have hms18_2:=NB144_143.out
 refine skip_ (w1:=?_) (by rfl) rfl ?_ ?_
 rotate_left
 ·go_simp
  rfl
 refine hK.out _ _ ⟨((cell_far (p:=⟨gb144,_,none⟩) NB137_144.out _).trans (((cell_far (p:=⟨gb144,_,none⟩) NB137_144.out _).trans (hHeld.1)))),((cell_far (p:=⟨gb144,_,none⟩) NB137_144.out _).trans (((cell_far (p:=⟨gb144,_,none⟩) NB137_144.out _).trans (hHeld.2))))⟩ (fun hHeld => ?_)
 clear hK K
 refine done_ (done_of HT_.out (by kernel_rfl)) ?_
 have hnb19:=NB144_137.out
 have hnc19:=NB137_144.out
 have hnb20:=NB144_138.out
 have hnc20:=NB138_144.out
 have hnb21:=NB144_143.out
 have hnc21:=NB143_144.out
 have hcz22_0 : w14.cell? ⟨gb144,0,none⟩ = some (.int .u64 0):=(blk_cell BK144.out 0).trans rfl
 have hcz22_1 : w14.cell? ⟨gb144,1,none⟩ = some (.int .u64 0):=(blk_cell BK144.out 1).trans rfl
 have hfz22_0:=blk_frozen BK144.out 0
 have hfz22_1:=blk_frozen BK144.out 1
 by_cases c5 : t141 > 0
 ·rw [if_pos c5] at H
  have c5b0 : decide (0 < t141) = true:=decide_eq_true c5
  clear c5;replace H:=Option.bind_eq_some_iff.mp H;obtain ⟨⟨t145,t146⟩,A60,H⟩:=H;replace H : (some (t145,t146,false)) = some (r1,r2,r3):=H;have A6:=Aside0.mk A60;clear A60
  simp only [Option.some.injEq,Prod.mk.injEq] at H
  obtain ⟨rfl,rfl,rfl⟩:=H
  try go_wp2_with (first | ((with_reducible refine gate_callee (f:=88) rfl ?_);refine goesL_ (some 19) rfl rfl Tryd.func88 (by kernel_rfl) rfl #[] rfl aA ?_;(with_reducible refine (wide_greatest.calls  t145 t146 _ A6.out).mono ?_);rintro e w23 ⟨rfl,hb⟩;refine ⟨_,rfl,?_⟩;have n0_:=Aside0.mk (blk_below (g:=gb137) (o:=.cells #[.int .u64 a0_0,.int .u64 a0_1] 87 (0,0)) (by (with_reducible repeat (first | refine blk_drewN ?_ _ | refine blk_drew ?_ | refine blk_alloc ?_ _));refine blk_far ?_ NB137_144.out _;(with_reducible repeat (first | refine blk_drewN ?_ _ | refine blk_drew ?_ | refine blk_alloc ?_ _));refine blk_far ?_ NB137_144.out _;(with_reducible repeat (first | refine blk_drewN ?_ _ | refine blk_drew ?_ | refine blk_alloc ?_ _));refine blk_far ?_ NB137_143.out _;(with_reducible repeat (first | refine blk_drewN ?_ _ | refine blk_drew ?_ | refine blk_alloc ?_ _));refine blk_far ?_ NB137_143.out _;exact kA) hb);have n1_:=Aside0.mk (blk_below (g:=gb138) (o:=.cells #[.int .u64 0,.int .u64 0] 87 (0,0)) (by (with_reducible repeat (first | refine blk_drewN ?_ _ | refine blk_drew ?_ | refine blk_alloc ?_ _));refine blk_far ?_ NB138_144.out _;(with_reducible repeat (first | refine blk_drewN ?_ _ | refine blk_drew ?_ | refine blk_alloc ?_ _));refine blk_far ?_ NB138_144.out _;(with_reducible repeat (first | refine blk_drewN ?_ _ | refine blk_drew ?_ | refine blk_alloc ?_ _));refine blk_far ?_ NB138_143.out _;(with_reducible repeat (first | refine blk_drewN ?_ _ | refine blk_drew ?_ | refine blk_alloc ?_ _));refine blk_far ?_ NB138_143.out _;exact kA) hb);have n2_:=Aside0.mk (blk_below (g:=gb143) (o:=.cells #[.int .u64 t139,.int .u64 t140] 87 (0,0)) (by (with_reducible repeat (first | refine blk_drewN ?_ _ | refine blk_drew ?_ | refine blk_alloc ?_ _));refine blk_far ?_ NB143_144.out _;(with_reducible repeat (first | refine blk_drewN ?_ _ | refine blk_drew ?_ | refine blk_alloc ?_ _));refine blk_far ?_ NB143_144.out _;(with_reducible repeat (first | refine blk_drewN ?_ _ | refine blk_drew ?_ | refine blk_alloc ?_ _));refine blk_put (cs:=#[.int .u64 t139,.int .u64 0]) ?_ 1 _ rfl;(with_reducible repeat (first | refine blk_drewN ?_ _ | refine blk_drew ?_ | refine blk_alloc ?_ _));refine blk_put (cs:=#[.int .u64 0,.int .u64 0]) ?_ 0 _ rfl;exact kA) hb);have n3_:=Aside0.mk (blk_below (g:=gb144) (o:=.cells #[.int .u64 t141,.int .u64 t142] 87 (0,0)) (by (with_reducible repeat (first | refine blk_drewN ?_ _ | refine blk_drew ?_ | refine blk_alloc ?_ _));refine blk_put (cs:=#[.int .u64 t141,.int .u64 0]) ?_ 1 _ rfl;(with_reducible repeat (first | refine blk_drewN ?_ _ | refine blk_drew ?_ | refine blk_alloc ?_ _));refine blk_put (cs:=#[.int .u64 0,.int .u64 0]) ?_ 0 _ rfl;(with_reducible repeat (first | refine blk_drewN ?_ _ | refine blk_drew ?_ | refine blk_alloc ?_ _));refine blk_far ?_ NB144_143.out _;(with_reducible repeat (first | refine blk_drewN ?_ _ | refine blk_drew ?_ | refine blk_alloc ?_ _));refine blk_far ?_ NB144_143.out _;exact kA) hb);have n4_:=Aside0.mk (below_step bA hb);clear BK137 BK138 BK143 BK144 HB;have BK137:=n0_;have BK138:=n1_;have BK143:=n2_;have BK144:=n3_;have HB:=n4_;clear n0_ n1_ n2_ n3_ n4_;(try clear hb);have hnb24:=NB138_137.out;have hnc24:=NB137_138.out;have hnb25:=NB138_143.out;have hnc25:=NB143_138.out;have hcz26_0 : w23.cell? ⟨gb138,0,none⟩ = some (.int .u64 0):=(blk_cell BK138.out 0).trans rfl;have hcz26_1 : w23.cell? ⟨gb138,1,none⟩ = some (.int .u64 0):=(blk_cell BK138.out 1).trans rfl;have hfz26_0:=blk_frozen BK138.out 0;have hfz26_1:=blk_frozen BK138.out 1))
  refine bodyPost_ret (results_ct rfl _ _ gb138 87 #[.int .u64 t145,.int .u64 t146] (0,0) _ rfl (by (with_reducible repeat (first | refine blk_drewN ?_ _ | refine blk_drew ?_ | refine blk_alloc ?_ _));refine blk_put (cs:=#[.int .u64 t145,.int .u64 0]) ?_ 1 _ rfl;(with_reducible repeat (first | refine blk_drewN ?_ _ | refine blk_drew ?_ | refine blk_alloc ?_ _));refine blk_put (cs:=#[.int .u64 0,.int .u64 0]) ?_ 0 _ rfl;exact kA) Tryd.underlying87 rfl (by kernel_rfl)) rfl ?_
  exact ⟨by first | rfl | (simp [errW_none,errW_some] <;> rfl) | (simp [*,errW_none,errW_some] <;> rfl),bA⟩
 ·rw [if_neg c5] at H
  have c5b0 : decide (0 < t141) = false:=decide_eq_false c5
  clear c5;replace H:=Option.bind_eq_some_iff.mp H;obtain ⟨⟨t147,t148,t149⟩,A270,H⟩:=H;replace H : (some (t147,t148,t149)) = some (r1,r2,r3):=H;have A27:=Aside0.mk A270;clear A270
  simp only [Option.some.injEq,Prod.mk.injEq] at H
  obtain ⟨rfl,rfl,rfl⟩:=H
  have hnb44:=NB143_137.out
  have hnc44:=NB137_143.out
  have hnb45:=NB143_138.out
  have hnc45:=NB138_143.out
  have hcz46_0 : w14.cell? ⟨gb143,0,none⟩ = some (.int .u64 0):=(blk_cell BK143.out 0).trans rfl
  have hcz46_1 : w14.cell? ⟨gb143,1,none⟩ = some (.int .u64 0):=(blk_cell BK143.out 1).trans rfl
  have hfz46_0:=blk_frozen BK143.out 0
  have hfz46_1:=blk_frozen BK143.out 1
  try go_wp2_with (first | ((with_reducible refine gate_callee (f:=62) rfl ?_);refine goesL_ (some 24) rfl rfl Tryd.func62 (by kernel_rfl) rfl #[.agg #[.int .u64 t139,.int .u64 t140],.agg #[.int .u64 t142,.int .u64 0]] rfl aA ?_;(with_reducible refine (wide_Add.calls t139 t140 t142 0 t147 t148 t149 _ A27.out).mono ?_);rintro e w47 ⟨rfl,hb⟩;refine ⟨_,rfl,?_⟩;have n0_:=Aside0.mk (blk_below (g:=gb137) (o:=.cells #[.int .u64 a0_0,.int .u64 a0_1] 87 (0,0)) (by (with_reducible repeat (first | refine blk_drewN ?_ _ | refine blk_drew ?_ | refine blk_alloc ?_ _));refine blk_far ?_ NB137_144.out _;(with_reducible repeat (first | refine blk_drewN ?_ _ | refine blk_drew ?_ | refine blk_alloc ?_ _));refine blk_far ?_ NB137_144.out _;(with_reducible repeat (first | refine blk_drewN ?_ _ | refine blk_drew ?_ | refine blk_alloc ?_ _));refine blk_far ?_ NB137_143.out _;(with_reducible repeat (first | refine blk_drewN ?_ _ | refine blk_drew ?_ | refine blk_alloc ?_ _));refine blk_far ?_ NB137_143.out _;exact kA) hb);have n1_:=Aside0.mk (blk_below (g:=gb138) (o:=.cells #[.int .u64 0,.int .u64 0] 87 (0,0)) (by (with_reducible repeat (first | refine blk_drewN ?_ _ | refine blk_drew ?_ | refine blk_alloc ?_ _));refine blk_far ?_ NB138_144.out _;(with_reducible repeat (first | refine blk_drewN ?_ _ | refine blk_drew ?_ | refine blk_alloc ?_ _));refine blk_far ?_ NB138_144.out _;(with_reducible repeat (first | refine blk_drewN ?_ _ | refine blk_drew ?_ | refine blk_alloc ?_ _));refine blk_far ?_ NB138_143.out _;(with_reducible repeat (first | refine blk_drewN ?_ _ | refine blk_drew ?_ | refine blk_alloc ?_ _));refine blk_far ?_ NB138_143.out _;exact kA) hb);have n2_:=Aside0.mk (blk_below (g:=gb143) (o:=.cells #[.int .u64 t139,.int .u64 t140] 87 (0,0)) (by (with_reducible repeat (first | refine blk_drewN ?_ _ | refine blk_drew ?_ | refine blk_alloc ?_ _));refine blk_far ?_ NB143_144.out _;(with_reducible repeat (first | refine blk_drewN ?_ _ | refine blk_drew ?_ | refine blk_alloc ?_ _));refine blk_far ?_ NB143_144.out _;(with_reducible repeat (first | refine blk_drewN ?_ _ | refine blk_drew ?_ | refine blk_alloc ?_ _));refine blk_put (cs:=#[.int .u64 t139,.int .u64 0]) ?_ 1 _ rfl;(with_reducible repeat (first | refine blk_drewN ?_ _ | refine blk_drew ?_ | refine blk_alloc ?_ _));refine blk_put (cs:=#[.int .u64 0,.int .u64 0]) ?_ 0 _ rfl;exact kA) hb);have n3_:=Aside0.mk (blk_below (g:=gb144) (o:=.cells #[.int .u64 t141,.int .u64 t142] 87 (0,0)) (by (with_reducible repeat (first | refine blk_drewN ?_ _ | refine blk_drew ?_ | refine blk_alloc ?_ _));refine blk_put (cs:=#[.int .u64 t141,.int .u64 0]) ?_ 1 _ rfl;(with_reducible repeat (first | refine blk_drewN ?_ _ | refine blk_drew ?_ | refine blk_alloc ?_ _));refine blk_put (cs:=#[.int .u64 0,.int .u64 0]) ?_ 0 _ rfl;(with_reducible repeat (first | refine blk_drewN ?_ _ | refine blk_drew ?_ | refine blk_alloc ?_ _));refine blk_far ?_ NB144_143.out _;(with_reducible repeat (first | refine blk_drewN ?_ _ | refine blk_drew ?_ | refine blk_alloc ?_ _));refine blk_far ?_ NB144_143.out _;exact kA) hb);have n4_:=Aside0.mk (below_step bA hb);clear BK137 BK138 BK143 BK144 HB;have BK137:=n0_;have BK138:=n1_;have BK143:=n2_;have BK144:=n3_;have HB:=n4_;clear n0_ n1_ n2_ n3_ n4_;(try clear hb);have hnb48:=NB138_137.out;have hnc48:=NB137_138.out;have hcz49_0 : w47.cell? ⟨gb138,0,none⟩ = some (.int .u64 0):=(blk_cell BK138.out 0).trans rfl;have hcz49_1 : w47.cell? ⟨gb138,1,none⟩ = some (.int .u64 0):=(blk_cell BK138.out 1).trans rfl;have hfz49_0:=blk_frozen BK138.out 0;have hfz49_1:=blk_frozen BK138.out 1))
  refine bodyPost_ret (results_ct rfl _ _ gb138 87 #[.int .u64 t147,.int .u64 t148] (0,0) _ rfl (by (with_reducible repeat (first | refine blk_drewN ?_ _ | refine blk_drew ?_ | refine blk_alloc ?_ _));refine blk_put (cs:=#[.int .u64 t147,.int .u64 0]) ?_ 1 _ rfl;(with_reducible repeat (first | refine blk_drewN ?_ _ | refine blk_drew ?_ | refine blk_alloc ?_ _));refine blk_put (cs:=#[.int .u64 0,.int .u64 0]) ?_ 0 _ rfl;exact kA) Tryd.underlying87 rfl (by kernel_rfl)) rfl ?_
  exact ⟨by first | rfl | (simp [errW_none,errW_some] <;> rfl) | (simp [*,errW_none,errW_some] <;> rfl),bA⟩

end Go.Proofs.YtgjjfnjnjnbfgaaDoor.GLG
namespace Go.Proofs.YtgjjfnjnjnbfgaaDoor.GLG
open Go.RowKit Go.Proofs.YtgjjfnjnjnbfgaaDoorW.PrintWords Go.Proofs.YtgjjfnjnjnbfgaaDoorW.PrintLast Go.Proofs.YtgjjfnjnjnbfgaaDoorW.PrintMore
attribute [local go_sem] max2_int min2_int max_two min_two max_three min_three max_four min_four   -- for this text's walks alone
set_option linter.unusedVariables false
set_option linter.unusedSimpArgs false
def config_asked_bounds.f (a0_0 : Int) (a0_1 : Int) (a0_2 : Int) (a0_3 : Int) (a0_4 : Int) (a0_5 : Int) (a0_6 : Int) (a0_7 : Int) : Option (Int × Int × Int × Int):=if a0_4 = 0 then ((wide_Of.f 0).bind fun bt153 => ((wide_Of.f 1).bind fun bt155 => (some (bt153.1,bt153.2,bt155.1,bt155.2)))) else ((config_asked_keeps.f a0_0 a0_1 a0_2 a0_3 a0_4 a0_5 a0_6 a0_7).bind fun t157 => ((config_asked_most.f a0_0 a0_1 a0_2 a0_3 a0_4 a0_5 a0_6 a0_7).bind fun t158 => ((config_up.f (wrap64 (t158 * 81)) 2147483648).bind fun t159 => ((config_asked_area.f a0_0 a0_1 a0_2 a0_3 a0_4 a0_5 a0_6 a0_7).bind fun t160 => ((wide_Of.f (IntKind.u64.wrap (t160))).bind fun bt161 => ((wide_Shl.f bt161.1 bt161.2 32).bind fun bt163 => ((wide_Of.f (IntKind.u64.wrap (a0_4))).bind fun bt165 => ((config_asked_area.f a0_0 a0_1 a0_2 a0_3 a0_4 a0_5 a0_6 a0_7).bind fun t167 => ((wide_Times.f bt165.1 bt165.2 (IntKind.u64.wrap (wrap64 ((wrap64 (258048 * (wrap64 (t157 * (wrap64 (1 + t159)))))) + (wrap64 (2 * t167)))))).bind fun bt168 => ((wide_Add.f bt168.1 bt168.2.1 bt163.1 bt163.2).bind fun bt171 => (some (bt171.1,bt171.2.1,bt163.1,bt163.2))))))))))))
def config_asked_bounds.T3 : Bool × List (List Nat × List Nat):=(true,[([],[]),([0],[0]),([],[]),([2,1],[2]),([3],[3]),([4,3],[4]),([5],[5]),([1,6],[1,6]),([7,5,0,1,2,3,4,5,6,7],[7])])
def config_asked_bounds.B3 : List Nat:=[0,1,0,7,15,31,63,127,255]
theorem config_asked_bounds.tab3 : rtab .any (opsOf Tryd.f66 3) = config_asked_bounds.T3:=by kernel_rfl
theorem config_asked_bounds.bits3 : waitsOk config_asked_bounds.T3.2 config_asked_bounds.B3 = true:=by kernel_rfl
def config_asked_bounds.T5 : Bool × List (List Nat × List Nat):=(true,[([],[]),([0],[0]),([1],[1]),([2],[2]),([3],[3]),([],[]),([5],[5]),([],[]),([7,4],[7]),([8],[8]),([6,9],[6,9]),([10],[10]),([4,11,8],[4,11]),([12],[12]),([13],[13]),([13],[13]),([14,12,0,1,2,3,4,5,6,7,8,9,10,11,12,13,14],[14])])
def config_asked_bounds.B5 : List Nat:=[0,1,3,7,15,0,32,0,159,415,1023,2047,4095,8191,16383,16383,32767]
theorem config_asked_bounds.tab5 : rtab .any (opsOf Tryd.f66 5) = config_asked_bounds.T5:=by kernel_rfl
theorem config_asked_bounds.bits5 : waitsOk config_asked_bounds.T5.2 config_asked_bounds.B5 = true:=by kernel_rfl
set_option maxHeartbeats 8000000 in
set_option maxRecDepth 100000 in
theorem config_asked_bounds.calls (a0_0 : Int) (a0_1 : Int) (a0_2 : Int) (a0_3 : Int) (a0_4 : Int) (a0_5 : Int) (a0_6 : Int) (a0_7 : Int) (r1 : Int) (r2 : Int) (r3 : Int) (r4 : Int) (w : World) (h : config_asked_bounds.f a0_0 a0_1 a0_2 a0_3 a0_4 a0_5 a0_6 a0_7 = some (r1,r2,r3,r4)) :
  Calls Tryd.prog 66 #[.agg #[.int .i64 a0_0,.int .i64 a0_1,.int .i64 a0_2,.int .i64 a0_3,.int .i64 a0_4,.int .i64 a0_5,.int .i64 a0_6,.int .i64 a0_7]] w fun e w' => e = .returned (.tuple #[.agg #[.int .u64 r1,.int .u64 r2],.agg #[.int .u64 r3,.int .u64 r4]]) ∧ Below w.heap.size w w':=by
 have hu77:=Tryd.underlying77
 have hu87:=Tryd.underlying87
 have HB:=Aside0.mk (Below.refl w.heap.size w)
 have H : (if a0_4 = 0 then ((wide_Of.f 0).bind fun bt153 => ((wide_Of.f 1).bind fun bt155 => (some (bt153.1,bt153.2,bt155.1,bt155.2)))) else ((config_asked_keeps.f a0_0 a0_1 a0_2 a0_3 a0_4 a0_5 a0_6 a0_7).bind fun t157 => ((config_asked_most.f a0_0 a0_1 a0_2 a0_3 a0_4 a0_5 a0_6 a0_7).bind fun t158 => ((config_up.f (wrap64 (t158 * 81)) 2147483648).bind fun t159 => ((config_asked_area.f a0_0 a0_1 a0_2 a0_3 a0_4 a0_5 a0_6 a0_7).bind fun t160 => ((wide_Of.f (IntKind.u64.wrap (t160))).bind fun bt161 => ((wide_Shl.f bt161.1 bt161.2 32).bind fun bt163 => ((wide_Of.f (IntKind.u64.wrap (a0_4))).bind fun bt165 => ((config_asked_area.f a0_0 a0_1 a0_2 a0_3 a0_4 a0_5 a0_6 a0_7).bind fun t167 => ((wide_Times.f bt165.1 bt165.2 (IntKind.u64.wrap (wrap64 ((wrap64 (258048 * (wrap64 (t157 * (wrap64 (1 + t159)))))) + (wrap64 (2 * t167)))))).bind fun bt168 => ((wide_Add.f bt168.1 bt168.2.1 bt163.1 bt163.2).bind fun bt171 => (some (bt171.1,bt171.2.1,bt163.1,bt163.2))))))))))))) = some (r1,r2,r3,r4):=h
 clear h
 by_cases c2 : a0_4 = 0
 ·rw [if_pos c2] at H
  have c2b0 : (a0_4 == 0) = true:=beq_iff_eq.mpr c2
  have c2b1 : (a0_4 != 0) = false:=bne_eq_false_iff_eq.mpr c2
  clear c2;replace H:=Option.bind_eq_some_iff.mp H;obtain ⟨⟨t153,t154⟩,A30,H⟩:=H;replace H : ((wide_Of.f 1).bind fun bt155 => (some (t153,t154,bt155.1,bt155.2))) = some (r1,r2,r3,r4):=H;have A3:=Aside0.mk A30;clear A30;replace H:=Option.bind_eq_some_iff.mp H;obtain ⟨⟨t155,t156⟩,A40,H⟩:=H;replace H : (some (t153,t154,t155,t156)) = some (r1,r2,r3,r4):=H;have A4:=Aside0.mk A40;clear A40
  simp only [Option.some.injEq,Prod.mk.injEq] at H
  obtain ⟨rfl,rfl,rfl,rfl⟩:=H
  go_enter Tryd.func66,Tryd.ntmps66
  go_wp2_with (first | ((with_reducible refine gate_dst (N:=1) rfl ?_);refine bxA 1 #[.int .i64 a0_0,.int .i64 a0_1,.int .i64 a0_2,.int .i64 a0_3,.int .i64 a0_4,.int .i64 a0_5,.int .i64 a0_6,.int .i64 a0_7] 77 ?_;intro gb150 hg w5 hbox hb;have n0_:=Aside0.mk (below_step bA hb);have n1_:=Aside0.mk (hbox);have n2_:=Aside0.mk (gwA hg bA);have n3_:=Aside0.mk (gwA hg bA);clear HB;have HB:=n0_;have BK150:=n1_;have GW150:=n2_;have GE150:=n3_;clear n0_ n1_ n2_ n3_ hb hbox hg) | ((with_reducible refine gate_dst (N:=2) rfl ?_);refine bxA 2 #[.int .u64 0,.int .u64 0] 87 ?_;intro gb151 hg w6 hbox hb;have n0_:=Aside0.mk (blk_below (g:=gb150) kA hb);have n1_:=Aside0.mk (below_step bA hb);have n2_:=Aside0.mk (hbox);have n3_:=Aside0.mk (gwA hg bA);have n4_:=Aside0.mk (gwA hg bA);have n5_:=Aside0.mk (neA (g:=gb150) hg kA);have n6_:=Aside0.mk (neB (g:=gb150) hg kA);clear BK150 HB;have BK150:=n0_;have HB:=n1_;have BK151:=n2_;have GW151:=n3_;have GE151:=n4_;have NB150_151:=n5_;have NB151_150:=n6_;clear n0_ n1_ n2_ n3_ n4_ n5_ n6_ hb hbox hg) | ((with_reducible refine gate_dst (N:=3) rfl ?_);refine bxA 3 #[.int .u64 0,.int .u64 0] 87 ?_;intro gb152 hg w7 hbox hb;have n0_:=Aside0.mk (blk_below (g:=gb150) kA hb);have n1_:=Aside0.mk (blk_below (g:=gb151) kA hb);have n2_:=Aside0.mk (below_step bA hb);have n3_:=Aside0.mk (hbox);have n4_:=Aside0.mk (gwA hg bA);have n5_:=Aside0.mk (gwA hg bA);have n6_:=Aside0.mk (neA (g:=gb150) hg kA);have n7_:=Aside0.mk (neB (g:=gb150) hg kA);have n8_:=Aside0.mk (neA (g:=gb151) hg kA);have n9_:=Aside0.mk (neB (g:=gb151) hg kA);clear BK150 BK151 HB;have BK150:=n0_;have BK151:=n1_;have HB:=n2_;have BK152:=n3_;have GW152:=n4_;have GE152:=n5_;have NB150_152:=n6_;have NB152_150:=n7_;have NB151_152:=n8_;have NB152_151:=n9_;clear n0_ n1_ n2_ n3_ n4_ n5_ n6_ n7_ n8_ n9_ hb hbox hg;have hnb8:=NB150_151.out;have hnc8:=NB151_150.out;have hnb9:=NB150_152.out;have hnc9:=NB152_150.out;have hcz10_0 : w7.cell? ⟨gb150,0,none⟩ = some (.int .i64 a0_0):=(blk_cell BK150.out 0).trans rfl;have hcz10_1 : w7.cell? ⟨gb150,1,none⟩ = some (.int .i64 a0_1):=(blk_cell BK150.out 1).trans rfl;have hcz10_2 : w7.cell? ⟨gb150,2,none⟩ = some (.int .i64 a0_2):=(blk_cell BK150.out 2).trans rfl;have hcz10_3 : w7.cell? ⟨gb150,3,none⟩ = some (.int .i64 a0_3):=(blk_cell BK150.out 3).trans rfl;have hcz10_4 : w7.cell? ⟨gb150,4,none⟩ = some (.int .i64 a0_4):=(blk_cell BK150.out 4).trans rfl;have hcz10_5 : w7.cell? ⟨gb150,5,none⟩ = some (.int .i64 a0_5):=(blk_cell BK150.out 5).trans rfl;have hcz10_6 : w7.cell? ⟨gb150,6,none⟩ = some (.int .i64 a0_6):=(blk_cell BK150.out 6).trans rfl;have hcz10_7 : w7.cell? ⟨gb150,7,none⟩ = some (.int .i64 a0_7):=(blk_cell BK150.out 7).trans rfl;have hfz10_0:=blk_frozen BK150.out 0;have hfz10_1:=blk_frozen BK150.out 1;have hfz10_2:=blk_frozen BK150.out 2;have hfz10_3:=blk_frozen BK150.out 3;have hfz10_4:=blk_frozen BK150.out 4;have hfz10_5:=blk_frozen BK150.out 5;have hfz10_6:=blk_frozen BK150.out 6;have hfz10_7:=blk_frozen BK150.out 7) | ((with_reducible refine gate_callee (f:=49) rfl ?_);refine goesL_ (some 9) rfl rfl Tryd.func49 (by kernel_rfl) rfl #[.int .u64 0] rfl aA ?_;(with_reducible refine (wide_Of.calls 0 t153 t154 _ A3.out).mono ?_);rintro e w11 ⟨rfl,hb⟩;refine ⟨_,rfl,?_⟩;have n0_:=Aside0.mk (blk_below (g:=gb150) kA hb);have n1_:=Aside0.mk (blk_below (g:=gb151) kA hb);have n2_:=Aside0.mk (blk_below (g:=gb152) kA hb);have n3_:=Aside0.mk (below_step bA hb);clear BK150 BK151 BK152 HB;have BK150:=n0_;have BK151:=n1_;have BK152:=n2_;have HB:=n3_;clear n0_ n1_ n2_ n3_;(try clear hb)) | ((with_reducible refine gate_callee (f:=49) rfl ?_);refine goesL_ (some 10) rfl rfl Tryd.func49 (by kernel_rfl) rfl #[.int .u64 1] rfl aA ?_;(with_reducible refine (wide_Of.calls 1 t155 t156 _ A4.out).mono ?_);rintro e w12 ⟨rfl,hb⟩;refine ⟨_,rfl,?_⟩;have n0_:=Aside0.mk (blk_below (g:=gb150) kA hb);have n1_:=Aside0.mk (blk_below (g:=gb151) kA hb);have n2_:=Aside0.mk (blk_below (g:=gb152) kA hb);have n3_:=Aside0.mk (below_step bA hb);clear BK150 BK151 BK152 HB;have BK150:=n0_;have BK151:=n1_;have BK152:=n2_;have HB:=n3_;clear n0_ n1_ n2_ n3_;(try clear hb);have hnb13:=NB151_152.out;have hnc13:=NB152_151.out;have hcz14_0 : w12.cell? ⟨gb151,0,none⟩ = some (.int .u64 0):=(blk_cell BK151.out 0).trans rfl;have hcz14_1 : w12.cell? ⟨gb151,1,none⟩ = some (.int .u64 0):=(blk_cell BK151.out 1).trans rfl;have hfz14_0:=blk_frozen BK151.out 0;have hfz14_1:=blk_frozen BK151.out 1;have hcz15_0 : w12.cell? ⟨gb152,0,none⟩ = some (.int .u64 0):=(blk_cell BK152.out 0).trans rfl;have hcz15_1 : w12.cell? ⟨gb152,1,none⟩ = some (.int .u64 0):=(blk_cell BK152.out 1).trans rfl;have hfz15_0:=blk_frozen BK152.out 0;have hfz15_1:=blk_frozen BK152.out 1))
  refine bodyPost_ret (results_cc rfl _ _ gb151 gb152 87 87 #[.int .u64 t153,.int .u64 t154] #[.int .u64 t155,.int .u64 t156] (0,0) (0,0) _ _ rfl (by (with_reducible repeat (first | refine blk_drewN ?_ _ | refine blk_drew ?_ | refine blk_alloc ?_ _));refine blk_far ?_ NB151_152.out _;(with_reducible repeat (first | refine blk_drewN ?_ _ | refine blk_drew ?_ | refine blk_alloc ?_ _));refine blk_far ?_ NB151_152.out _;(with_reducible repeat (first | refine blk_drewN ?_ _ | refine blk_drew ?_ | refine blk_alloc ?_ _));refine blk_put (cs:=#[.int .u64 t153,.int .u64 0]) ?_ 1 _ rfl;(with_reducible repeat (first | refine blk_drewN ?_ _ | refine blk_drew ?_ | refine blk_alloc ?_ _));refine blk_put (cs:=#[.int .u64 0,.int .u64 0]) ?_ 0 _ rfl;exact kA) Tryd.underlying87 rfl (by kernel_rfl) rfl (by (with_reducible repeat (first | refine blk_drewN ?_ _ | refine blk_drew ?_ | refine blk_alloc ?_ _));refine blk_put (cs:=#[.int .u64 t155,.int .u64 0]) ?_ 1 _ rfl;(with_reducible repeat (first | refine blk_drewN ?_ _ | refine blk_drew ?_ | refine blk_alloc ?_ _));refine blk_put (cs:=#[.int .u64 0,.int .u64 0]) ?_ 0 _ rfl;(with_reducible repeat (first | refine blk_drewN ?_ _ | refine blk_drew ?_ | refine blk_alloc ?_ _));refine blk_far ?_ NB152_151.out _;(with_reducible repeat (first | refine blk_drewN ?_ _ | refine blk_drew ?_ | refine blk_alloc ?_ _));refine blk_far ?_ NB152_151.out _;exact kA) Tryd.underlying87 rfl (by kernel_rfl)) rfl ?_
  exact ⟨by first | rfl | (simp [errW_none,errW_some] <;> rfl) | (simp [*,errW_none,errW_some] <;> rfl),bA⟩
 ·rw [if_neg c2] at H
  have c2b0 : (a0_4 == 0) = false:=beq_eq_false_iff_ne.mpr c2
  have c2b1 : (a0_4 != 0) = true:=bne_iff_ne.mpr c2
  replace H:=Option.bind_eq_some_iff.mp H;obtain ⟨t157,A160,H⟩:=H;replace H : ((config_asked_most.f a0_0 a0_1 a0_2 a0_3 a0_4 a0_5 a0_6 a0_7).bind fun t158 => ((config_up.f (wrap64 (t158 * 81)) 2147483648).bind fun t159 => ((config_asked_area.f a0_0 a0_1 a0_2 a0_3 a0_4 a0_5 a0_6 a0_7).bind fun t160 => ((wide_Of.f (IntKind.u64.wrap (t160))).bind fun bt161 => ((wide_Shl.f bt161.1 bt161.2 32).bind fun bt163 => ((wide_Of.f (IntKind.u64.wrap (a0_4))).bind fun bt165 => ((config_asked_area.f a0_0 a0_1 a0_2 a0_3 a0_4 a0_5 a0_6 a0_7).bind fun t167 => ((wide_Times.f bt165.1 bt165.2 (IntKind.u64.wrap (wrap64 ((wrap64 (258048 * (wrap64 (t157 * (wrap64 (1 + t159)))))) + (wrap64 (2 * t167)))))).bind fun bt168 => ((wide_Add.f bt168.1 bt168.2.1 bt163.1 bt163.2).bind fun bt171 => (some (bt171.1,bt171.2.1,bt163.1,bt163.2))))))))))) = some (r1,r2,r3,r4):=H;have A16:=Aside0.mk A160;clear A160;replace H:=Option.bind_eq_some_iff.mp H;obtain ⟨t158,A170,H⟩:=H;replace H : ((config_up.f (wrap64 (t158 * 81)) 2147483648).bind fun t159 => ((config_asked_area.f a0_0 a0_1 a0_2 a0_3 a0_4 a0_5 a0_6 a0_7).bind fun t160 => ((wide_Of.f (IntKind.u64.wrap (t160))).bind fun bt161 => ((wide_Shl.f bt161.1 bt161.2 32).bind fun bt163 => ((wide_Of.f (IntKind.u64.wrap (a0_4))).bind fun bt165 => ((config_asked_area.f a0_0 a0_1 a0_2 a0_3 a0_4 a0_5 a0_6 a0_7).bind fun t167 => ((wide_Times.f bt165.1 bt165.2 (IntKind.u64.wrap (wrap64 ((wrap64 (258048 * (wrap64 (t157 * (wrap64 (1 + t159)))))) + (wrap64 (2 * t167)))))).bind fun bt168 => ((wide_Add.f bt168.1 bt168.2.1 bt163.1 bt163.2).bind fun bt171 => (some (bt171.1,bt171.2.1,bt163.1,bt163.2)))))))))) = some (r1,r2,r3,r4):=H;have A17:=Aside0.mk A170;clear A170;replace H:=Option.bind_eq_some_iff.mp H;obtain ⟨t159,A180,H⟩:=H;replace H : ((config_asked_area.f a0_0 a0_1 a0_2 a0_3 a0_4 a0_5 a0_6 a0_7).bind fun t160 => ((wide_Of.f (IntKind.u64.wrap (t160))).bind fun bt161 => ((wide_Shl.f bt161.1 bt161.2 32).bind fun bt163 => ((wide_Of.f (IntKind.u64.wrap (a0_4))).bind fun bt165 => ((config_asked_area.f a0_0 a0_1 a0_2 a0_3 a0_4 a0_5 a0_6 a0_7).bind fun t167 => ((wide_Times.f bt165.1 bt165.2 (IntKind.u64.wrap (wrap64 ((wrap64 (258048 * (wrap64 (t157 * (wrap64 (1 + t159)))))) + (wrap64 (2 * t167)))))).bind fun bt168 => ((wide_Add.f bt168.1 bt168.2.1 bt163.1 bt163.2).bind fun bt171 => (some (bt171.1,bt171.2.1,bt163.1,bt163.2))))))))) = some (r1,r2,r3,r4):=H;have A18:=Aside0.mk A180;clear A180;replace H:=Option.bind_eq_some_iff.mp H;obtain ⟨t160,A190,H⟩:=H;replace H : ((wide_Of.f (IntKind.u64.wrap (t160))).bind fun bt161 => ((wide_Shl.f bt161.1 bt161.2 32).bind fun bt163 => ((wide_Of.f (IntKind.u64.wrap (a0_4))).bind fun bt165 => ((config_asked_area.f a0_0 a0_1 a0_2 a0_3 a0_4 a0_5 a0_6 a0_7).bind fun t167 => ((wide_Times.f bt165.1 bt165.2 (IntKind.u64.wrap (wrap64 ((wrap64 (258048 * (wrap64 (t157 * (wrap64 (1 + t159)))))) + (wrap64 (2 * t167)))))).bind fun bt168 => ((wide_Add.f bt168.1 bt168.2.1 bt163.1 bt163.2).bind fun bt171 => (some (bt171.1,bt171.2.1,bt163.1,bt163.2)))))))) = some (r1,r2,r3,r4):=H;have A19:=Aside0.mk A190;clear A190;replace H:=Option.bind_eq_some_iff.mp H;obtain ⟨⟨t161,t162⟩,A200,H⟩:=H;replace H : ((wide_Shl.f t161 t162 32).bind fun bt163 => ((wide_Of.f (IntKind.u64.wrap (a0_4))).bind fun bt165 => ((config_asked_area.f a0_0 a0_1 a0_2 a0_3 a0_4 a0_5 a0_6 a0_7).bind fun t167 => ((wide_Times.f bt165.1 bt165.2 (IntKind.u64.wrap (wrap64 ((wrap64 (258048 * (wrap64 (t157 * (wrap64 (1 + t159)))))) + (wrap64 (2 * t167)))))).bind fun bt168 => ((wide_Add.f bt168.1 bt168.2.1 bt163.1 bt163.2).bind fun bt171 => (some (bt171.1,bt171.2.1,bt163.1,bt163.2))))))) = some (r1,r2,r3,r4):=H;have A20:=Aside0.mk A200;clear A200;replace H:=Option.bind_eq_some_iff.mp H;obtain ⟨⟨t163,t164⟩,A210,H⟩:=H;replace H : ((wide_Of.f (IntKind.u64.wrap (a0_4))).bind fun bt165 => ((config_asked_area.f a0_0 a0_1 a0_2 a0_3 a0_4 a0_5 a0_6 a0_7).bind fun t167 => ((wide_Times.f bt165.1 bt165.2 (IntKind.u64.wrap (wrap64 ((wrap64 (258048 * (wrap64 (t157 * (wrap64 (1 + t159)))))) + (wrap64 (2 * t167)))))).bind fun bt168 => ((wide_Add.f bt168.1 bt168.2.1 t163 t164).bind fun bt171 => (some (bt171.1,bt171.2.1,t163,t164)))))) = some (r1,r2,r3,r4):=H
  have A21:=Aside0.mk A210;clear A210;replace H:=Option.bind_eq_some_iff.mp H;obtain ⟨⟨t165,t166⟩,A220,H⟩:=H;replace H : ((config_asked_area.f a0_0 a0_1 a0_2 a0_3 a0_4 a0_5 a0_6 a0_7).bind fun t167 => ((wide_Times.f t165 t166 (IntKind.u64.wrap (wrap64 ((wrap64 (258048 * (wrap64 (t157 * (wrap64 (1 + t159)))))) + (wrap64 (2 * t167)))))).bind fun bt168 => ((wide_Add.f bt168.1 bt168.2.1 t163 t164).bind fun bt171 => (some (bt171.1,bt171.2.1,t163,t164))))) = some (r1,r2,r3,r4):=H;have A22:=Aside0.mk A220;clear A220;replace H:=Option.bind_eq_some_iff.mp H;obtain ⟨t167,A230,H⟩:=H;replace H : ((wide_Times.f t165 t166 (IntKind.u64.wrap (wrap64 ((wrap64 (258048 * (wrap64 (t157 * (wrap64 (1 + t159)))))) + (wrap64 (2 * t167)))))).bind fun bt168 => ((wide_Add.f bt168.1 bt168.2.1 t163 t164).bind fun bt171 => (some (bt171.1,bt171.2.1,t163,t164)))) = some (r1,r2,r3,r4):=H;have A23:=Aside0.mk A230;clear A230;replace H:=Option.bind_eq_some_iff.mp H;obtain ⟨⟨t168,t169,t170⟩,A240,H⟩:=H;replace H : ((wide_Add.f t168 t169 t163 t164).bind fun bt171 => (some (bt171.1,bt171.2.1,t163,t164))) = some (r1,r2,r3,r4):=H;have A24:=Aside0.mk A240;clear A240;replace H:=Option.bind_eq_some_iff.mp H;obtain ⟨⟨t171,t172,t173⟩,A250,H⟩:=H;replace H : (some (t171,t172,t163,t164)) = some (r1,r2,r3,r4):=H;have A25:=Aside0.mk A250;clear A250
  simp only [Option.some.injEq,Prod.mk.injEq] at H
  obtain ⟨rfl,rfl,rfl,rfl⟩:=H
  go_enter Tryd.func66,Tryd.ntmps66
  try go_wp2_with (first | ((with_reducible refine gate_dst (N:=1) rfl ?_);refine bxA 1 #[.int .i64 a0_0,.int .i64 a0_1,.int .i64 a0_2,.int .i64 a0_3,.int .i64 a0_4,.int .i64 a0_5,.int .i64 a0_6,.int .i64 a0_7] 77 ?_;intro gb150 hg w26 hbox hb;have n0_:=Aside0.mk (below_step bA hb);have n1_:=Aside0.mk (hbox);have n2_:=Aside0.mk (gwA hg bA);have n3_:=Aside0.mk (gwA hg bA);clear HB;have HB:=n0_;have BK150:=n1_;have GW150:=n2_;have GE150:=n3_;clear n0_ n1_ n2_ n3_ hb hbox hg) | ((with_reducible refine gate_dst (N:=2) rfl ?_);refine bxA 2 #[.int .u64 0,.int .u64 0] 87 ?_;intro gb151 hg w27 hbox hb;have n0_:=Aside0.mk (blk_below (g:=gb150) kA hb);have n1_:=Aside0.mk (below_step bA hb);have n2_:=Aside0.mk (hbox);have n3_:=Aside0.mk (gwA hg bA);have n4_:=Aside0.mk (gwA hg bA);have n5_:=Aside0.mk (neA (g:=gb150) hg kA);have n6_:=Aside0.mk (neB (g:=gb150) hg kA);clear BK150 HB;have BK150:=n0_;have HB:=n1_;have BK151:=n2_;have GW151:=n3_;have GE151:=n4_;have NB150_151:=n5_;have NB151_150:=n6_;clear n0_ n1_ n2_ n3_ n4_ n5_ n6_ hb hbox hg) | ((with_reducible refine gate_dst (N:=3) rfl ?_);refine bxA 3 #[.int .u64 0,.int .u64 0] 87 ?_;intro gb152 hg w28 hbox hb;have n0_:=Aside0.mk (blk_below (g:=gb150) kA hb);have n1_:=Aside0.mk (blk_below (g:=gb151) kA hb);have n2_:=Aside0.mk (below_step bA hb);have n3_:=Aside0.mk (hbox);have n4_:=Aside0.mk (gwA hg bA);have n5_:=Aside0.mk (gwA hg bA);have n6_:=Aside0.mk (neA (g:=gb150) hg kA);have n7_:=Aside0.mk (neB (g:=gb150) hg kA);have n8_:=Aside0.mk (neA (g:=gb151) hg kA);have n9_:=Aside0.mk (neB (g:=gb151) hg kA);clear BK150 BK151 HB;have BK150:=n0_;have BK151:=n1_;have HB:=n2_;have BK152:=n3_;have GW152:=n4_;have GE152:=n5_;have NB150_152:=n6_;have NB152_150:=n7_;have NB151_152:=n8_;have NB152_151:=n9_;clear n0_ n1_ n2_ n3_ n4_ n5_ n6_ n7_ n8_ n9_ hb hbox hg;have hnb29:=NB150_151.out;have hnc29:=NB151_150.out;have hnb30:=NB150_152.out;have hnc30:=NB152_150.out;have hcz31_0 : w28.cell? ⟨gb150,0,none⟩ = some (.int .i64 a0_0):=(blk_cell BK150.out 0).trans rfl;have hcz31_1 : w28.cell? ⟨gb150,1,none⟩ = some (.int .i64 a0_1):=(blk_cell BK150.out 1).trans rfl;have hcz31_2 : w28.cell? ⟨gb150,2,none⟩ = some (.int .i64 a0_2):=(blk_cell BK150.out 2).trans rfl;have hcz31_3 : w28.cell? ⟨gb150,3,none⟩ = some (.int .i64 a0_3):=(blk_cell BK150.out 3).trans rfl;have hcz31_4 : w28.cell? ⟨gb150,4,none⟩ = some (.int .i64 a0_4):=(blk_cell BK150.out 4).trans rfl;have hcz31_5 : w28.cell? ⟨gb150,5,none⟩ = some (.int .i64 a0_5):=(blk_cell BK150.out 5).trans rfl;have hcz31_6 : w28.cell? ⟨gb150,6,none⟩ = some (.int .i64 a0_6):=(blk_cell BK150.out 6).trans rfl;have hcz31_7 : w28.cell? ⟨gb150,7,none⟩ = some (.int .i64 a0_7):=(blk_cell BK150.out 7).trans rfl;have hfz31_0:=blk_frozen BK150.out 0;have hfz31_1:=blk_frozen BK150.out 1;have hfz31_2:=blk_frozen BK150.out 2;have hfz31_3:=blk_frozen BK150.out 3;have hfz31_4:=blk_frozen BK150.out 4;have hfz31_5:=blk_frozen BK150.out 5;have hfz31_6:=blk_frozen BK150.out 6;have hfz31_7:=blk_frozen BK150.out 7))
  have n0_:=Aside0.mk (blk_drew BK150.out);have n1_:=Aside0.mk (blk_drew BK151.out);have n2_:=Aside0.mk (blk_drew BK152.out);have n3_:=Aside0.mk (below_drew1 HB.out);clear BK150 BK151 BK152 HB;have BK150:=n0_;have BK151:=n1_;have BK152:=n2_;have HB:=n3_;clear n0_ n1_ n2_ n3_
  refine start_ (n:=9) (S:=fun w' => w'.cell? ⟨gb150,0,none⟩ = some (.int .i64 a0_0) ∧ w'.cell? ⟨gb150,1,none⟩ = some (.int .i64 a0_1) ∧ w'.cell? ⟨gb150,2,none⟩ = some (.int .i64 a0_2) ∧ w'.cell? ⟨gb150,3,none⟩ = some (.int .i64 a0_3) ∧ w'.cell? ⟨gb150,4,none⟩ = some (.int .i64 a0_4) ∧ w'.cell? ⟨gb150,5,none⟩ = some (.int .i64 a0_5) ∧ w'.cell? ⟨gb150,6,none⟩ = some (.int .i64 a0_6) ∧ w'.cell? ⟨gb150,7,none⟩ = some (.int .i64 a0_7)) (ds:=[]) #[false,false,false,false,false,false,false,false,false] (by kernel_rfl) rfl rfl ⟨(blk_cell BK150.out 0).trans rfl,(blk_cell BK150.out 1).trans rfl,(blk_cell BK150.out 2).trans rfl,(blk_cell BK150.out 3).trans rfl,(blk_cell BK150.out 4).trans rfl,(blk_cell BK150.out 5).trans rfl,(blk_cell BK150.out 6).trans rfl,(blk_cell BK150.out 7).trans rfl⟩ (fun hHeld => ?_);refine with_tabW config_asked_bounds.tab3 config_asked_bounds.bits3 (fun HT_ HW_ => ?_)
  generalize w28.drew = w32 at BK150 BK151 BK152 HB hHeld ⊢
  refine take_ (i:=0) (N:=some 11) (v:=?_) (a':=?_) #[true,false,false,false,false,false,false,false,false] rfl rfl (take_ofW HT_.out HW_.out (by kernel_rfl)) (fun _ _ _ h => h) (Or.inl ⟨by rfl,?_⟩) hHeld ?_ ?_
  rotate_left
  ·rintro w' ⟨s0,s1,s2,s3,s4,s5,s6,s7⟩
   go_simp;with_reducible rfl
  rotate_left
  ·simp only [Act.put,List.setIfInBounds_toArray,List.set_cons_zero,List.set_cons_succ,i64_w,i32_w]
   rfl
  refine take_ (i:=2) (N:=some 13) (v:=?_) (a':=?_) #[true,false,true,false,false,false,false,false,false] rfl rfl (take_ofW HT_.out HW_.out (by kernel_rfl)) (fun _ _ _ h => h) (Or.inl ⟨by rfl,?_⟩) hHeld ?_ ?_
  rotate_left
  ·rintro w' ⟨s0,s1,s2,s3,s4,s5,s6,s7⟩
   go_simp;with_reducible rfl
  rotate_left
  ·simp only [Act.put,List.setIfInBounds_toArray,List.set_cons_zero,List.set_cons_succ,i64_w,i32_w]
   rfl
  refine one_ (i:=1) (N:=some 12) #[true,true,true,false,false,false,false,false,false] rfl rfl (one_of HT_.out (by kernel_rfl)) (by decide) (fun K hK => ?_)
  refine goes_ Tryd.func90 (by kernel_rfl) rfl #[.agg #[.int .i64 a0_0,.int .i64 a0_1,.int .i64 a0_2,.int .i64 a0_3,.int .i64 a0_4,.int .i64 a0_5,.int .i64 a0_6,.int .i64 a0_7]] (by rfl) rfl rfl aA ?_
  with_reducible refine (config_asked_keeps.calls a0_0 a0_1 a0_2 a0_3 a0_4 a0_5 a0_6 a0_7 t157 _ A16.out).mono ?_
  rintro e w33 ⟨rfl,hb⟩
  refine ⟨_,rfl,?_⟩;have n0_:=Aside0.mk (blk_below (g:=gb150) kA hb);have n1_:=Aside0.mk (blk_below (g:=gb151) kA hb);have n2_:=Aside0.mk (blk_below (g:=gb152) kA hb);have n3_:=Aside0.mk (below_step bA hb);clear BK150 BK151 BK152 HB;have BK150:=n0_;have BK151:=n1_;have BK152:=n2_;have HB:=n3_;clear n0_ n1_ n2_ n3_;(try clear hb)
  refine hK.out _ _ ⟨(blk_cell BK150.out 0).trans rfl,(blk_cell BK150.out 1).trans rfl,(blk_cell BK150.out 2).trans rfl,(blk_cell BK150.out 3).trans rfl,(blk_cell BK150.out 4).trans rfl,(blk_cell BK150.out 5).trans rfl,(blk_cell BK150.out 6).trans rfl,(blk_cell BK150.out 7).trans rfl⟩ (fun hHeld => ?_)
  clear hK K
  refine norm_ (a':=?_) ?_ ?_
  rotate_left
  ·show Act.put _ (some 12) _ = _
   simp only [Act.put,List.setIfInBounds_toArray,List.set_cons_zero,List.set_cons_succ,i64_w,i32_w]
   rfl
  refine one_ (i:=3) (N:=some 14) #[true,true,true,true,false,false,false,false,false] rfl rfl (one_of HT_.out (by kernel_rfl)) (by decide) (fun K hK => ?_)
  refine goes_ Tryd.func64 (by kernel_rfl) rfl #[.agg #[.int .i64 a0_0,.int .i64 a0_1,.int .i64 a0_2,.int .i64 a0_3,.int .i64 a0_4,.int .i64 a0_5,.int .i64 a0_6,.int .i64 a0_7]] (by rfl) rfl rfl aA ?_
  with_reducible refine (config_asked_most.calls a0_0 a0_1 a0_2 a0_3 a0_4 a0_5 a0_6 a0_7 t158 _ A17.out).mono ?_
  rintro e w34 ⟨rfl,hb⟩
  refine ⟨_,rfl,?_⟩;have n0_:=Aside0.mk (blk_below (g:=gb150) kA hb);have n1_:=Aside0.mk (blk_below (g:=gb151) kA hb);have n2_:=Aside0.mk (blk_below (g:=gb152) kA hb);have n3_:=Aside0.mk (below_step bA hb);clear BK150 BK151 BK152 HB;have BK150:=n0_;have BK151:=n1_;have BK152:=n2_;have HB:=n3_;clear n0_ n1_ n2_ n3_;(try clear hb)
  refine hK.out _ _ ⟨(blk_cell BK150.out 0).trans rfl,(blk_cell BK150.out 1).trans rfl,(blk_cell BK150.out 2).trans rfl,(blk_cell BK150.out 3).trans rfl,(blk_cell BK150.out 4).trans rfl,(blk_cell BK150.out 5).trans rfl,(blk_cell BK150.out 6).trans rfl,(blk_cell BK150.out 7).trans rfl⟩ (fun hHeld => ?_)
  clear hK K
  refine norm_ (a':=?_) ?_ ?_
  rotate_left
  ·show Act.put _ (some 14) _ = _
   simp only [Act.put,List.setIfInBounds_toArray,List.set_cons_zero,List.set_cons_succ,i64_w,i32_w]
   rfl
  refine pure_ (i:=4) (N:=some 15) (v:=?_) (a':=?_) #[true,true,true,true,true,false,false,false,false] rfl rfl (any_of HT_.out (by kernel_rfl)) (fun _ _ _ h => h) (Or.inl ⟨by rfl,?_⟩) ?_ ?_
  rotate_left
  ·intro w'
   go_simp;with_reducible rfl
  rotate_left
  ·simp only [Act.put,List.setIfInBounds_toArray,List.set_cons_zero,List.set_cons_succ,i64_w,i32_w]
   rfl
  refine one_ (i:=5) (N:=some 16) #[true,true,true,true,true,true,false,false,false] rfl rfl (one_of HT_.out (by kernel_rfl)) (by decide) (fun K hK => ?_)
  refine goes_ Tryd.func91 (by kernel_rfl) rfl #[.int .i64 (wrap64 (t158 * 81)),.int .i64 2147483648] (by rfl) rfl rfl aA ?_
  with_reducible refine (config_up.calls (wrap64 (t158 * 81)) 2147483648 t159 _ A18.out).mono ?_
  rintro e w' ⟨rfl,⟨nd,rfl⟩⟩
  refine ⟨_,rfl,?_⟩
  refine hK.out _ _ ⟨(blk_cell BK150.out 0).trans rfl,(blk_cell BK150.out 1).trans rfl,(blk_cell BK150.out 2).trans rfl,(blk_cell BK150.out 3).trans rfl,(blk_cell BK150.out 4).trans rfl,(blk_cell BK150.out 5).trans rfl,(blk_cell BK150.out 6).trans rfl,(blk_cell BK150.out 7).trans rfl⟩ (fun hHeld => ?_)
  clear hK K
  refine norm_ (a':=?_) ?_ ?_
  rotate_left
  ·show Act.put _ (some 16) _ = _
   simp only [Act.put,List.setIfInBounds_toArray,List.set_cons_zero,List.set_cons_succ,i64_w,i32_w]
   rfl
  refine pure_ (i:=6) (N:=some 17) (v:=?_) (a':=?_) #[true,true,true,true,true,true,true,false,false] rfl rfl (any_of HT_.out (by kernel_rfl)) (fun _ _ _ h => h) (Or.inl ⟨by rfl,?_⟩) ?_ ?_
  rotate_left
  ·intro w'
   go_simp;with_reducible rfl
  rotate_left
  ·simp only [Act.put,List.setIfInBounds_toArray,List.set_cons_zero,List.set_cons_succ,i64_w,i32_w]
   rfl
  refine pure_ (i:=7) (N:=some 18) (v:=?_) (a':=?_) #[true,true,true,true,true,true,true,true,false] rfl rfl (any_of HT_.out (by kernel_rfl)) (fun _ _ _ h => h) (Or.inl ⟨by rfl,?_⟩) ?_ ?_
  rotate_left
  ·intro w'
   go_simp;with_reducible rfl
  rotate_left
  ·simp only [Act.put,List.setIfInBounds_toArray,List.set_cons_zero,List.set_cons_succ,i64_w,i32_w]
   rfl
  refine pure_ (i:=8) (N:=some 4) (v:=?_) (a':=?_) #[true,true,true,true,true,true,true,true,true] rfl rfl (any_of HT_.out (by kernel_rfl)) (fun _ _ _ h => h) (Or.inl ⟨by rfl,?_⟩) ?_ ?_
  rotate_left
  ·intro w'
   go_simp;with_reducible rfl
  rotate_left
  ·simp only [Act.put,List.setIfInBounds_toArray,List.set_cons_zero,List.set_cons_succ,i64_w,i32_w]
   rfl
  refine done_ (done_of HT_.out (by kernel_rfl)) ?_
  have hcz35_0 : w34.cell? ⟨gb150,0,none⟩ = some (.int .i64 a0_0):=(blk_cell BK150.out 0).trans rfl
  have hcz35_1 : w34.cell? ⟨gb150,1,none⟩ = some (.int .i64 a0_1):=(blk_cell BK150.out 1).trans rfl
  have hcz35_2 : w34.cell? ⟨gb150,2,none⟩ = some (.int .i64 a0_2):=(blk_cell BK150.out 2).trans rfl
  have hcz35_3 : w34.cell? ⟨gb150,3,none⟩ = some (.int .i64 a0_3):=(blk_cell BK150.out 3).trans rfl
  have hcz35_4 : w34.cell? ⟨gb150,4,none⟩ = some (.int .i64 a0_4):=(blk_cell BK150.out 4).trans rfl
  have hcz35_5 : w34.cell? ⟨gb150,5,none⟩ = some (.int .i64 a0_5):=(blk_cell BK150.out 5).trans rfl
  have hcz35_6 : w34.cell? ⟨gb150,6,none⟩ = some (.int .i64 a0_6):=(blk_cell BK150.out 6).trans rfl
  have hcz35_7 : w34.cell? ⟨gb150,7,none⟩ = some (.int .i64 a0_7):=(blk_cell BK150.out 7).trans rfl
  have hfz35_0:=blk_frozen BK150.out 0
  have hfz35_1:=blk_frozen BK150.out 1
  have hfz35_2:=blk_frozen BK150.out 2
  have hfz35_3:=blk_frozen BK150.out 3
  have hfz35_4:=blk_frozen BK150.out 4
  have hfz35_5:=blk_frozen BK150.out 5
  have hfz35_6:=blk_frozen BK150.out 6
  have hfz35_7:=blk_frozen BK150.out 7
  try go_wp2_with (first | ((with_reducible refine gate_callee (f:=89) rfl ?_);refine goesL_ (some 20) rfl rfl Tryd.func89 (by kernel_rfl) rfl #[.agg #[.int .i64 a0_0,.int .i64 a0_1,.int .i64 a0_2,.int .i64 a0_3,.int .i64 a0_4,.int .i64 a0_5,.int .i64 a0_6,.int .i64 a0_7]] rfl aA ?_;(with_reducible refine (config_asked_area.calls a0_0 a0_1 a0_2 a0_3 a0_4 a0_5 a0_6 a0_7 t160 _ A19.out).mono ?_);rintro e w36 ⟨rfl,hb⟩;refine ⟨_,rfl,?_⟩;have n0_:=Aside0.mk (blk_below (g:=gb150) kA hb);have n1_:=Aside0.mk (blk_below (g:=gb151) kA hb);have n2_:=Aside0.mk (blk_below (g:=gb152) kA hb);have n3_:=Aside0.mk (below_step bA hb);clear BK150 BK151 BK152 HB;have BK150:=n0_;have BK151:=n1_;have BK152:=n2_;have HB:=n3_;clear n0_ n1_ n2_ n3_;(try clear hb)) | ((with_reducible refine gate_callee (f:=49) rfl ?_);refine goesL_ (some 22) rfl rfl Tryd.func49 (by kernel_rfl) rfl #[.int .u64 (IntKind.u64.wrap (t160))] rfl aA ?_;(with_reducible refine (wide_Of.calls (IntKind.u64.wrap (t160)) t161 t162 _ A20.out).mono ?_);rintro e w37 ⟨rfl,hb⟩;refine ⟨_,rfl,?_⟩;have n0_:=Aside0.mk (blk_below (g:=gb150) kA hb);have n1_:=Aside0.mk (blk_below (g:=gb151) kA hb);have n2_:=Aside0.mk (blk_below (g:=gb152) kA hb);have n3_:=Aside0.mk (below_step bA hb);clear BK150 BK151 BK152 HB;have BK150:=n0_;have BK151:=n1_;have BK152:=n2_;have HB:=n3_;clear n0_ n1_ n2_ n3_;(try clear hb)) | ((with_reducible refine gate_callee (f:=48) rfl ?_);refine goesL_ (some 23) rfl rfl Tryd.func48 (by kernel_rfl) rfl #[.agg #[.int .u64 t161,.int .u64 t162],.int .i64 32] rfl aA ?_;(with_reducible refine (wide_Shl.calls t161 t162 32 t163 t164 _ A21.out).mono ?_);rintro e w38 ⟨rfl,hb⟩;refine ⟨_,rfl,?_⟩;have n0_:=Aside0.mk (blk_below (g:=gb150) kA hb);have n1_:=Aside0.mk (blk_below (g:=gb151) kA hb);have n2_:=Aside0.mk (blk_below (g:=gb152) kA hb);have n3_:=Aside0.mk (below_step bA hb);clear BK150 BK151 BK152 HB;have BK150:=n0_;have BK151:=n1_;have BK152:=n2_;have HB:=n3_;clear n0_ n1_ n2_ n3_;(try clear hb);have hnb39:=NB152_151.out;have hnc39:=NB151_152.out;have hcz40_0 : w38.cell? ⟨gb152,0,none⟩ = some (.int .u64 0):=(blk_cell BK152.out 0).trans rfl;have hcz40_1 : w38.cell? ⟨gb152,1,none⟩ = some (.int .u64 0):=(blk_cell BK152.out 1).trans rfl;have hfz40_0:=blk_frozen BK152.out 0;have hfz40_1:=blk_frozen BK152.out 1))
  have n0_ : Aside0 (((w38.setCell ⟨gb152,0,none⟩ (.int .u64 t163)).setCell ⟨gb152,1,none⟩ (.int .u64 t164)).heap[gb150]? = some (.cells #[.int .i64 a0_0,.int .i64 a0_1,.int .i64 a0_2,.int .i64 a0_3,.int .i64 a0_4,.int .i64 a0_5,.int .i64 a0_6,.int .i64 a0_7] 77 (0,0))):=⟨by (with_reducible repeat (first | refine blk_drewN ?_ _ | refine blk_drew ?_ | refine blk_alloc ?_ _));refine blk_far ?_ NB150_152.out _;(with_reducible repeat (first | refine blk_drewN ?_ _ | refine blk_drew ?_ | refine blk_alloc ?_ _));refine blk_far ?_ NB150_152.out _;exact kA⟩
  have n1_ : Aside0 (((w38.setCell ⟨gb152,0,none⟩ (.int .u64 t163)).setCell ⟨gb152,1,none⟩ (.int .u64 t164)).heap[gb151]? = some (.cells #[.int .u64 0,.int .u64 0] 87 (0,0))):=⟨by (with_reducible repeat (first | refine blk_drewN ?_ _ | refine blk_drew ?_ | refine blk_alloc ?_ _));refine blk_far ?_ NB151_152.out _;(with_reducible repeat (first | refine blk_drewN ?_ _ | refine blk_drew ?_ | refine blk_alloc ?_ _));refine blk_far ?_ NB151_152.out _;exact kA⟩
  have n2_ : Aside0 (((w38.setCell ⟨gb152,0,none⟩ (.int .u64 t163)).setCell ⟨gb152,1,none⟩ (.int .u64 t164)).heap[gb152]? = some (.cells #[.int .u64 t163,.int .u64 t164] 87 (0,0))):=⟨by (with_reducible repeat (first | refine blk_drewN ?_ _ | refine blk_drew ?_ | refine blk_alloc ?_ _));refine blk_put (cs:=#[.int .u64 t163,.int .u64 0]) ?_ 1 _ rfl;(with_reducible repeat (first | refine blk_drewN ?_ _ | refine blk_drew ?_ | refine blk_alloc ?_ _));refine blk_put (cs:=#[.int .u64 0,.int .u64 0]) ?_ 0 _ rfl;exact kA⟩
  have n3_ : Aside0 (Below w.heap.size w ((w38.setCell ⟨gb152,0,none⟩ (.int .u64 t163)).setCell ⟨gb152,1,none⟩ (.int .u64 t164))):=⟨bA⟩
  (try clear BK150);(try clear BK151);(try clear BK152);(try clear HB)
  generalize ((w38.setCell ⟨gb152,0,none⟩ (.int .u64 t163)).setCell ⟨gb152,1,none⟩ (.int .u64 t164)) = w41 at n0_ n1_ n2_ n3_ ⊢
  have BK150:=n0_;have BK151:=n1_;have BK152:=n2_;have HB:=n3_;clear n0_ n1_ n2_ n3_;have n0_:=Aside0.mk (blk_drew BK150.out);have n1_:=Aside0.mk (blk_drew BK151.out);have n2_:=Aside0.mk (blk_drew BK152.out);have n3_:=Aside0.mk (below_drew1 HB.out);clear BK150 BK151 BK152 HB;have BK150:=n0_;have BK151:=n1_;have BK152:=n2_;have HB:=n3_;clear n0_ n1_ n2_ n3_
  refine start_ (n:=17) (S:=fun w' => w'.cell? ⟨gb150,0,none⟩ = some (.int .i64 a0_0) ∧ w'.cell? ⟨gb150,1,none⟩ = some (.int .i64 a0_1) ∧ w'.cell? ⟨gb150,2,none⟩ = some (.int .i64 a0_2) ∧ w'.cell? ⟨gb150,3,none⟩ = some (.int .i64 a0_3) ∧ w'.cell? ⟨gb150,4,none⟩ = some (.int .i64 a0_4) ∧ w'.cell? ⟨gb150,5,none⟩ = some (.int .i64 a0_5) ∧ w'.cell? ⟨gb150,6,none⟩ = some (.int .i64 a0_6) ∧ w'.cell? ⟨gb150,7,none⟩ = some (.int .i64 a0_7)) (ds:=[]) #[false,false,false,false,false,false,false,false,false,false,false,false,false,false,false,false,false] (by kernel_rfl) rfl rfl ⟨(blk_cell BK150.out 0).trans rfl,(blk_cell BK150.out 1).trans rfl,(blk_cell BK150.out 2).trans rfl,(blk_cell BK150.out 3).trans rfl,(blk_cell BK150.out 4).trans rfl,(blk_cell BK150.out 5).trans rfl,(blk_cell BK150.out 6).trans rfl,(blk_cell BK150.out 7).trans rfl⟩ (fun hHeld => ?_);refine with_tabW config_asked_bounds.tab5 config_asked_bounds.bits5 (fun HT_ HW_ => ?_)
  generalize w41.drew = w42 at BK150 BK151 BK152 HB hHeld ⊢
  refine pure_ (i:=0) (N:=some 25) (v:=?_) (a':=?_) #[true,false,false,false,false,false,false,false,false,false,false,false,false,false,false,false,false] rfl rfl (any_of HT_.out (by kernel_rfl)) (fun _ _ _ h => h) (Or.inl ⟨by rfl,?_⟩) ?_ ?_
  rotate_left
  ·intro w'
   go_simp;with_reducible rfl
  rotate_left
  ·simp only [Act.put,List.setIfInBounds_toArray,List.set_cons_zero,List.set_cons_succ,i64_w,i32_w]
   rfl
  refine pure_ (i:=1) (N:=some 26) (v:=?_) (a':=?_) #[true,true,false,false,false,false,false,false,false,false,false,false,false,false,false,false,false] rfl rfl (any_of HT_.out (by kernel_rfl)) (fun _ _ _ h => h) (Or.inl ⟨by rfl,?_⟩) ?_ ?_
  rotate_left
  ·intro w'
   go_simp;with_reducible rfl
  rotate_left
  ·simp only [Act.put,List.setIfInBounds_toArray,List.set_cons_zero,List.set_cons_succ,i64_w,i32_w]
   rfl
  refine pure_ (i:=5) (N:=some 30) (v:=?_) (a':=?_) #[true,true,false,false,false,true,false,false,false,false,false,false,false,false,false,false,false] rfl rfl (any_of HT_.out (by kernel_rfl)) (fun _ _ _ h => h) (Or.inl ⟨by rfl,?_⟩) ?_ ?_
  rotate_left
  ·intro w'
   go_simp;with_reducible rfl
  rotate_left
  ·simp only [Act.put,List.setIfInBounds_toArray,List.set_cons_zero,List.set_cons_succ,i64_w,i32_w]
   rfl
  refine pure_ (i:=6) (N:=some 31) (v:=?_) (a':=?_) #[true,true,false,false,false,true,true,false,false,false,false,false,false,false,false,false,false] rfl rfl (any_of HT_.out (by kernel_rfl)) (fun _ _ _ h => h) (Or.inl ⟨by rfl,?_⟩) ?_ ?_
  rotate_left
  ·intro w'
   go_simp;with_reducible rfl
  rotate_left
  ·simp only [Act.put,List.setIfInBounds_toArray,List.set_cons_zero,List.set_cons_succ,i64_w,i32_w]
   rfl
  refine take_ (i:=2) (N:=some 27) (v:=?_) (a':=?_) #[true,true,true,false,false,true,true,false,false,false,false,false,false,false,false,false,false] rfl rfl (take_ofW HT_.out HW_.out (by kernel_rfl)) (fun _ _ _ h => h) (Or.inl ⟨by rfl,?_⟩) hHeld ?_ ?_
  rotate_left
  ·rintro w' ⟨s0,s1,s2,s3,s4,s5,s6,s7⟩
   go_simp;with_reducible rfl
  rotate_left
  ·simp only [Act.put,List.setIfInBounds_toArray,List.set_cons_zero,List.set_cons_succ,i64_w,i32_w]
   rfl
  refine pure_ (i:=3) (N:=some 28) (v:=?_) (a':=?_) #[true,true,true,true,false,true,true,false,false,false,false,false,false,false,false,false,false] rfl rfl (any_of HT_.out (by kernel_rfl)) (fun _ _ _ h => h) (Or.inl ⟨by rfl,?_⟩) ?_ ?_
  rotate_left
  ·intro w'
   go_simp;with_reducible rfl
  rotate_left
  ·simp only [Act.put,List.setIfInBounds_toArray,List.set_cons_zero,List.set_cons_succ,i64_w,i32_w]
   rfl
  refine take_ (i:=7) (N:=some 32) (v:=?_) (a':=?_) #[true,true,true,true,false,true,true,true,false,false,false,false,false,false,false,false,false] rfl rfl (take_ofW HT_.out HW_.out (by kernel_rfl)) (fun _ _ _ h => h) (Or.inl ⟨by rfl,?_⟩) hHeld ?_ ?_
  rotate_left
  ·rintro w' ⟨s0,s1,s2,s3,s4,s5,s6,s7⟩
   go_simp;with_reducible rfl
  rotate_left
  ·simp only [Act.put,List.setIfInBounds_toArray,List.set_cons_zero,List.set_cons_succ,i64_w,i32_w]
   rfl
  refine one_ (i:=4) (N:=some 29) #[true,true,true,true,true,true,true,true,false,false,false,false,false,false,false,false,false] rfl rfl (one_of HT_.out (by kernel_rfl)) (by decide) (fun K hK => ?_)
  refine goes_ Tryd.func49 (by kernel_rfl) rfl #[.int .u64 (IntKind.u64.wrap (a0_4))] (by rfl) rfl rfl aA ?_
  with_reducible refine (wide_Of.calls (IntKind.u64.wrap (a0_4)) t165 t166 _ A22.out).mono ?_
  rintro e w43 ⟨rfl,hb⟩
  refine ⟨_,rfl,?_⟩;have n0_:=Aside0.mk (blk_below (g:=gb150) kA hb);have n1_:=Aside0.mk (blk_below (g:=gb151) kA hb);have n2_:=Aside0.mk (blk_below (g:=gb152) kA hb);have n3_:=Aside0.mk (below_step bA hb);clear BK150 BK151 BK152 HB;have BK150:=n0_;have BK151:=n1_;have BK152:=n2_;have HB:=n3_;clear n0_ n1_ n2_ n3_;(try clear hb)
  refine hK.out _ _ ⟨(blk_cell BK150.out 0).trans rfl,(blk_cell BK150.out 1).trans rfl,(blk_cell BK150.out 2).trans rfl,(blk_cell BK150.out 3).trans rfl,(blk_cell BK150.out 4).trans rfl,(blk_cell BK150.out 5).trans rfl,(blk_cell BK150.out 6).trans rfl,(blk_cell BK150.out 7).trans rfl⟩ (fun hHeld => ?_)
  clear hK K
  refine norm_ (a':=?_) ?_ ?_
  rotate_left
  ·show Act.put _ (some 29) _ = _
   simp only [Act.put,List.setIfInBounds_toArray,List.set_cons_zero,List.set_cons_succ,i64_w,i32_w]
   rfl
  refine one_ (i:=8) (N:=some 33) #[true,true,true,true,true,true,true,true,true,false,false,false,false,false,false,false,false] rfl rfl (one_of HT_.out (by kernel_rfl)) (by decide) (fun K hK => ?_)
  refine goes_ Tryd.func89 (by kernel_rfl) rfl #[.agg #[.int .i64 a0_0,.int .i64 a0_1,.int .i64 a0_2,.int .i64 a0_3,.int .i64 a0_4,.int .i64 a0_5,.int .i64 a0_6,.int .i64 a0_7]] (by rfl) rfl rfl aA ?_
  with_reducible refine (config_asked_area.calls a0_0 a0_1 a0_2 a0_3 a0_4 a0_5 a0_6 a0_7 t167 _ A23.out).mono ?_
  rintro e w44 ⟨rfl,hb⟩
  refine ⟨_,rfl,?_⟩;have n0_:=Aside0.mk (blk_below (g:=gb150) kA hb);have n1_:=Aside0.mk (blk_below (g:=gb151) kA hb);have n2_:=Aside0.mk (blk_below (g:=gb152) kA hb);have n3_:=Aside0.mk (below_step bA hb);clear BK150 BK151 BK152 HB;have BK150:=n0_;have BK151:=n1_;have BK152:=n2_;have HB:=n3_;clear n0_ n1_ n2_ n3_;(try clear hb)
  refine hK.out _ _ ⟨(blk_cell BK150.out 0).trans rfl,(blk_cell BK150.out 1).trans rfl,(blk_cell BK150.out 2).trans rfl,(blk_cell BK150.out 3).trans rfl,(blk_cell BK150.out 4).trans rfl,(blk_cell BK150.out 5).trans rfl,(blk_cell BK150.out 6).trans rfl,(blk_cell BK150.out 7).trans rfl⟩ (fun hHeld => ?_)
  clear hK K
  refine norm_ (a':=?_) ?_ ?_
  rotate_left
  ·show Act.put _ (some 33) _ = _
   simp only [Act.put,List.setIfInBounds_toArray,List.set_cons_zero,List.set_cons_succ,i64_w,i32_w]
   rfl
  refine pure_ (i:=9) (N:=some 34) (v:=?_) (a':=?_) #[true,true,true,true,true,true,true,true,true,true,false,false,false,false,false,false,false] rfl rfl (any_of HT_.out (by kernel_rfl)) (fun _ _ _ h => h) (Or.inl ⟨by rfl,?_⟩) ?_ ?_
  rotate_left
  ·intro w'
   go_simp;with_reducible rfl
  rotate_left
  ·simp only [Act.put,List.setIfInBounds_toArray,List.set_cons_zero,List.set_cons_succ,i64_w,i32_w]
   rfl
  refine pure_ (i:=10) (N:=some 35) (v:=?_) (a':=?_) #[true,true,true,true,true,true,true,true,true,true,true,false,false,false,false,false,false] rfl rfl (any_of HT_.out (by kernel_rfl)) (fun _ _ _ h => h) (Or.inl ⟨by rfl,?_⟩) ?_ ?_
  rotate_left
  ·intro w'
   go_simp;with_reducible rfl
  rotate_left
  ·simp only [Act.put,List.setIfInBounds_toArray,List.set_cons_zero,List.set_cons_succ,i64_w,i32_w]
   rfl
  refine pure_ (i:=11) (N:=some 36) (v:=?_) (a':=?_) #[true,true,true,true,true,true,true,true,true,true,true,true,false,false,false,false,false] rfl rfl (any_of HT_.out (by kernel_rfl)) (fun _ _ _ h => h) (Or.inl ⟨by rfl,?_⟩) ?_ ?_
  rotate_left
  ·intro w'
   go_simp;with_reducible rfl
  rotate_left
  ·simp only [Act.put,List.setIfInBounds_toArray,List.set_cons_zero,List.set_cons_succ,i64_w,i32_w]
   rfl
  refine one_ (i:=12) (N:=some 37) #[true,true,true,true,true,true,true,true,true,true,true,true,true,false,false,false,false] rfl rfl (one_of HT_.out (by kernel_rfl)) (by decide) (fun K hK => ?_)
  refine goes_ Tryd.func67 (by kernel_rfl) rfl #[.agg #[.int .u64 t165,.int .u64 t166],.int .u64 (IntKind.u64.wrap (wrap64 ((wrap64 (258048 * (wrap64 (t157 * (wrap64 (1 + t159)))))) + (wrap64 (2 * t167)))))] (by rfl) rfl rfl aA ?_
  with_reducible refine (wide_Times.calls t165 t166 (IntKind.u64.wrap (wrap64 ((wrap64 (258048 * (wrap64 (t157 * (wrap64 (1 + t159)))))) + (wrap64 (2 * t167))))) t168 t169 t170 _ A24.out).mono ?_
  rintro e w45 ⟨rfl,hb⟩
  refine ⟨_,rfl,?_⟩;have n0_:=Aside0.mk (blk_below (g:=gb150) kA hb);have n1_:=Aside0.mk (blk_below (g:=gb151) kA hb);have n2_:=Aside0.mk (blk_below (g:=gb152) kA hb);have n3_:=Aside0.mk (below_step bA hb);clear BK150 BK151 BK152 HB;have BK150:=n0_;have BK151:=n1_;have BK152:=n2_;have HB:=n3_;clear n0_ n1_ n2_ n3_;(try clear hb)
  refine hK.out _ _ ⟨(blk_cell BK150.out 0).trans rfl,(blk_cell BK150.out 1).trans rfl,(blk_cell BK150.out 2).trans rfl,(blk_cell BK150.out 3).trans rfl,(blk_cell BK150.out 4).trans rfl,(blk_cell BK150.out 5).trans rfl,(blk_cell BK150.out 6).trans rfl,(blk_cell BK150.out 7).trans rfl⟩ (fun hHeld => ?_)
  clear hK K
  refine norm_ (a':=?_) ?_ ?_
  rotate_left
  ·show Act.put _ (some 37) _ = _
   simp only [Act.put,List.setIfInBounds_toArray,List.set_cons_zero,List.set_cons_succ,i64_w,i32_w]
   rfl
  refine pure_ (i:=13) (N:=some 24) (v:=?_) (a':=?_) #[true,true,true,true,true,true,true,true,true,true,true,true,true,true,false,false,false] rfl rfl (any_of HT_.out (by kernel_rfl)) (fun _ _ _ h => h) (Or.inl ⟨by rfl,?_⟩) ?_ ?_
  rotate_left
  ·intro w'
   go_simp;with_reducible rfl
  rotate_left
  ·simp only [Act.put,List.setIfInBounds_toArray,List.set_cons_zero,List.set_cons_succ,i64_w,i32_w]
   rfl
  refine pure_ (i:=14) (N:=some 38) (v:=?_) (a':=?_) #[true,true,true,true,true,true,true,true,true,true,true,true,true,true,true,false,false] rfl rfl (any_of HT_.out (by kernel_rfl)) (fun _ _ _ h => h) (Or.inl ⟨by rfl,?_⟩) ?_ ?_
  rotate_left
  ·intro w'
   go_simp;with_reducible rfl
  rotate_left
  ·simp only [Act.put,List.setIfInBounds_toArray,List.set_cons_zero,List.set_cons_succ,i64_w,i32_w]
   rfl
  refine pure_ (i:=15) (N:=some 39) (v:=?_) (a':=?_) #[true,true,true,true,true,true,true,true,true,true,true,true,true,true,true,true,false] rfl rfl (any_of HT_.out (by kernel_rfl)) (fun _ _ _ h => h) (Or.inl ⟨by rfl,?_⟩) ?_ ?_
  rotate_left
  ·intro w'
   go_simp;with_reducible rfl
  rotate_left
  ·simp only [Act.put,List.setIfInBounds_toArray,List.set_cons_zero,List.set_cons_succ,i64_w,i32_w]
   rfl
  refine one_ (i:=16) (N:=none) #[true,true,true,true,true,true,true,true,true,true,true,true,true,true,true,true,true] rfl rfl (one_of HT_.out (by kernel_rfl)) (by decide) (fun K hK => ?_)
  have hs46 : w45.cell? ⟨gb151,0,none⟩ = some (.int .u64 0):=(blk_cell BK151.out 0).trans rfl
  have hfs46:=blk_frozen BK151.out 0
  have hns46_0:=NB150_151.out
  have hns46_2:=NB152_151.out
  have hms46_0:=NB151_150.out
  have hms46_2:=NB151_152.out
  have hs47 : w45.cell? ⟨gb151,1,none⟩ = some (.int .u64 0):=(blk_cell BK151.out 1).trans rfl
  have hfs47:=blk_frozen BK151.out 1
  have hns47_0:=NB150_151.out
  have hns47_2:=NB152_151.out
  have hms47_0:=NB151_150.out
  have hms47_2:=NB151_152.out
  refine skip_ (w1:=?_) (by rfl) rfl ?_ ?_
  rotate_left
  ·go_simp
   rfl
  refine hK.out _ _ ⟨((cell_far (p:=⟨gb151,_,none⟩) NB150_151.out _).trans (((cell_far (p:=⟨gb151,_,none⟩) NB150_151.out _).trans (hHeld.1)))),((cell_far (p:=⟨gb151,_,none⟩) NB150_151.out _).trans (((cell_far (p:=⟨gb151,_,none⟩) NB150_151.out _).trans (hHeld.2.1)))),((cell_far (p:=⟨gb151,_,none⟩) NB150_151.out _).trans (((cell_far (p:=⟨gb151,_,none⟩) NB150_151.out _).trans (hHeld.2.2.1)))),((cell_far (p:=⟨gb151,_,none⟩) NB150_151.out _).trans (((cell_far (p:=⟨gb151,_,none⟩) NB150_151.out _).trans (hHeld.2.2.2.1)))),((cell_far (p:=⟨gb151,_,none⟩) NB150_151.out _).trans (((cell_far (p:=⟨gb151,_,none⟩) NB150_151.out _).trans (hHeld.2.2.2.2.1)))),((cell_far (p:=⟨gb151,_,none⟩) NB150_151.out _).trans (((cell_far (p:=⟨gb151,_,none⟩) NB150_151.out _).trans (hHeld.2.2.2.2.2.1)))),((cell_far (p:=⟨gb151,_,none⟩) NB150_151.out _).trans (((cell_far (p:=⟨gb151,_,none⟩) NB150_151.out _).trans (hHeld.2.2.2.2.2.2.1)))),((cell_far (p:=⟨gb151,_,none⟩) NB150_151.out _).trans (((cell_far (p:=⟨gb151,_,none⟩) NB150_151.out _).trans (hHeld.2.2.2.2.2.2.2))))⟩ (fun hHeld => ?_)
  clear hK K
  refine done_ (done_of HT_.out (by kernel_rfl)) ?_
  have hcz48_0 : w45.cell? ⟨gb151,0,none⟩ = some (.int .u64 0):=(blk_cell BK151.out 0).trans rfl
  have hcz48_1 : w45.cell? ⟨gb151,1,none⟩ = some (.int .u64 0):=(blk_cell BK151.out 1).trans rfl
  have hfz48_0:=blk_frozen BK151.out 0
  have hfz48_1:=blk_frozen BK151.out 1
  have hcz49_0 : w45.cell? ⟨gb152,0,none⟩ = some (.int .u64 t163):=(blk_cell BK152.out 0).trans rfl
  have hcz49_1 : w45.cell? ⟨gb152,1,none⟩ = some (.int .u64 t164):=(blk_cell BK152.out 1).trans rfl
  have hfz49_0:=blk_frozen BK152.out 0
  have hfz49_1:=blk_frozen BK152.out 1
  try go_wp2_with (first | ((with_reducible refine gate_callee (f:=62) rfl ?_);refine goesL_ (some 43) rfl rfl Tryd.func62 (by kernel_rfl) rfl #[.agg #[.int .u64 t168,.int .u64 t169],.agg #[.int .u64 t163,.int .u64 t164]] rfl aA ?_;(with_reducible refine (wide_Add.calls t168 t169 t163 t164 t171 t172 t173 _ A25.out).mono ?_);rintro e w50 ⟨rfl,hb⟩;refine ⟨_,rfl,?_⟩;have n0_:=Aside0.mk (blk_below (g:=gb150) (o:=.cells #[.int .i64 a0_0,.int .i64 a0_1,.int .i64 a0_2,.int .i64 a0_3,.int .i64 a0_4,.int .i64 a0_5,.int .i64 a0_6,.int .i64 a0_7] 77 (0,0)) (by (with_reducible repeat (first | refine blk_drewN ?_ _ | refine blk_drew ?_ | refine blk_alloc ?_ _));refine blk_far ?_ NB150_151.out _;(with_reducible repeat (first | refine blk_drewN ?_ _ | refine blk_drew ?_ | refine blk_alloc ?_ _));refine blk_far ?_ NB150_151.out _;exact kA) hb);have n1_:=Aside0.mk (blk_below (g:=gb151) (o:=.cells #[.int .u64 t168,.int .u64 t169] 87 (0,0)) (by (with_reducible repeat (first | refine blk_drewN ?_ _ | refine blk_drew ?_ | refine blk_alloc ?_ _));refine blk_put (cs:=#[.int .u64 t168,.int .u64 0]) ?_ 1 _ rfl;(with_reducible repeat (first | refine blk_drewN ?_ _ | refine blk_drew ?_ | refine blk_alloc ?_ _));refine blk_put (cs:=#[.int .u64 0,.int .u64 0]) ?_ 0 _ rfl;exact kA) hb);have n2_:=Aside0.mk (blk_below (g:=gb152) (o:=.cells #[.int .u64 t163,.int .u64 t164] 87 (0,0)) (by (with_reducible repeat (first | refine blk_drewN ?_ _ | refine blk_drew ?_ | refine blk_alloc ?_ _));refine blk_far ?_ NB152_151.out _;(with_reducible repeat (first | refine blk_drewN ?_ _ | refine blk_drew ?_ | refine blk_alloc ?_ _));refine blk_far ?_ NB152_151.out _;exact kA) hb);have n3_:=Aside0.mk (below_step bA hb);clear BK150 BK151 BK152 HB;have BK150:=n0_;have BK151:=n1_;have BK152:=n2_;have HB:=n3_;clear n0_ n1_ n2_ n3_;(try clear hb);have hcz51_0 : w50.cell? ⟨gb151,0,none⟩ = some (.int .u64 t168):=(blk_cell BK151.out 0).trans rfl;have hcz51_1 : w50.cell? ⟨gb151,1,none⟩ = some (.int .u64 t169):=(blk_cell BK151.out 1).trans rfl;have hfz51_0:=blk_frozen BK151.out 0;have hfz51_1:=blk_frozen BK151.out 1))
  have n1_ : Aside0 (((w50.setCell ⟨gb151,0,none⟩ (.int .u64 t171)).setCell ⟨gb151,1,none⟩ (.int .u64 t172)).heap[gb151]? = some (.cells #[.int .u64 t171,.int .u64 t172] 87 (0,0))):=⟨by (with_reducible repeat (first | refine blk_drewN ?_ _ | refine blk_drew ?_ | refine blk_alloc ?_ _));refine blk_put (cs:=#[.int .u64 t171,.int .u64 t169]) ?_ 1 _ rfl;(with_reducible repeat (first | refine blk_drewN ?_ _ | refine blk_drew ?_ | refine blk_alloc ?_ _));refine blk_put (cs:=#[.int .u64 t168,.int .u64 t169]) ?_ 0 _ rfl;(with_reducible repeat (first | refine blk_drewN ?_ _ | refine blk_drew ?_ | refine blk_alloc ?_ _));exact BK151.out⟩
  have n2_ : Aside0 (((w50.setCell ⟨gb151,0,none⟩ (.int .u64 t171)).setCell ⟨gb151,1,none⟩ (.int .u64 t172)).heap[gb152]? = some (.cells #[.int .u64 t163,.int .u64 t164] 87 (0,0))):=⟨by (with_reducible repeat (first | refine blk_drewN ?_ _ | refine blk_drew ?_ | refine blk_alloc ?_ _));refine blk_far ?_ NB152_151.out _;(with_reducible repeat (first | refine blk_drewN ?_ _ | refine blk_drew ?_ | refine blk_alloc ?_ _));refine blk_far ?_ NB152_151.out _;(with_reducible repeat (first | refine blk_drewN ?_ _ | refine blk_drew ?_ | refine blk_alloc ?_ _));exact BK152.out⟩
  have n3_ : Aside0 (Below w.heap.size w ((w50.setCell ⟨gb151,0,none⟩ (.int .u64 t171)).setCell ⟨gb151,1,none⟩ (.int .u64 t172))):=⟨bA⟩
  clear BK151 BK152 HB
  generalize ((w50.setCell ⟨gb151,0,none⟩ (.int .u64 t171)).setCell ⟨gb151,1,none⟩ (.int .u64 t172)) = wq1 at n1_ n2_ n3_ ⊢
  have BK151:=Aside0.mk (blk_drew n1_.out)
  have BK152:=Aside0.mk (blk_drew n2_.out)
  have HB:=Aside0.mk (below_drew1 n3_.out)
  clear n1_ n2_ n3_
  refine start_ (n:=4) (S:=fun w' => w'.cell? ⟨gb151,0,none⟩ = some (.int .u64 t171) ∧ w'.cell? ⟨gb151,1,none⟩ = some (.int .u64 t172) ∧ w'.cell? ⟨gb152,0,none⟩ = some (.int .u64 t163) ∧ w'.cell? ⟨gb152,1,none⟩ = some (.int .u64 t164)) (ds:=[]) #[false,false,false,false] (by kernel_rfl) rfl rfl ⟨(blk_cell BK151.out 0).trans rfl,(blk_cell BK151.out 1).trans rfl,(blk_cell BK152.out 0).trans rfl,(blk_cell BK152.out 1).trans rfl⟩ (fun hHeld => ?_)
  generalize wq1.drew = wq2 at BK151 BK152 HB hHeld ⊢
  refine take_ (i:=0) (N:=some 46) (v:=?_) (a':=?_) #[true,false,false,false] rfl rfl (by kernel_rfl) (fun _ _ _ h => h) (Or.inl ⟨by rfl,?_⟩) hHeld ?_ ?_
  rotate_left
  ·rintro w' ⟨s0,s1,s2,s3⟩
   go_simp;with_reducible rfl
  rotate_left
  ·simp only [Act.put,List.setIfInBounds_toArray,List.set_cons_zero,List.set_cons_succ,i64_w,i32_w]
   rfl
  refine take_ (i:=1) (N:=some 47) (v:=?_) (a':=?_) #[true,true,false,false] rfl rfl (by kernel_rfl) (fun _ _ _ h => h) (Or.inl ⟨by rfl,?_⟩) hHeld ?_ ?_
  rotate_left
  ·rintro w' ⟨s0,s1,s2,s3⟩
   go_simp;with_reducible rfl
  rotate_left
  ·simp only [Act.put,List.setIfInBounds_toArray,List.set_cons_zero,List.set_cons_succ,i64_w,i32_w]
   rfl
  refine one_ (i:=2) (N:=none) #[true,true,true,false] rfl rfl (by kernel_rfl) (by decide) (fun K hK => ?_)
  have hs0_2 : wq2.cell? ⟨gb151,0,none⟩ = some (.int .u64 t171):=(blk_cell BK151.out 0).trans rfl
  have hf0_2:=blk_frozen BK151.out 0
  have hs1_2 : wq2.cell? ⟨gb151,1,none⟩ = some (.int .u64 t172):=(blk_cell BK151.out 1).trans rfl
  have hf1_2:=blk_frozen BK151.out 1
  refine skip_ (w1:=?_) (by rfl) rfl ?_ ?_
  rotate_left
  ·go_simp
   rfl
  have n1_ : Aside0 (((wq2.setCell ⟨gb151,0,none⟩ (.int .u64 t171)).setCell ⟨gb151,1,none⟩ (.int .u64 t172)).heap[gb151]? = some (.cells #[.int .u64 t171,.int .u64 t172] 87 (0,0))):=⟨by (with_reducible repeat (first | refine blk_drewN ?_ _ | refine blk_drew ?_ | refine blk_alloc ?_ _));refine blk_put (cs:=#[.int .u64 t171,.int .u64 t172]) ?_ 1 _ rfl;(with_reducible repeat (first | refine blk_drewN ?_ _ | refine blk_drew ?_ | refine blk_alloc ?_ _));refine blk_put (cs:=#[.int .u64 t171,.int .u64 t172]) ?_ 0 _ rfl;(with_reducible repeat (first | refine blk_drewN ?_ _ | refine blk_drew ?_ | refine blk_alloc ?_ _));exact BK151.out⟩
  have n2_ : Aside0 (((wq2.setCell ⟨gb151,0,none⟩ (.int .u64 t171)).setCell ⟨gb151,1,none⟩ (.int .u64 t172)).heap[gb152]? = some (.cells #[.int .u64 t163,.int .u64 t164] 87 (0,0))):=⟨by (with_reducible repeat (first | refine blk_drewN ?_ _ | refine blk_drew ?_ | refine blk_alloc ?_ _));refine blk_far ?_ NB152_151.out _;(with_reducible repeat (first | refine blk_drewN ?_ _ | refine blk_drew ?_ | refine blk_alloc ?_ _));refine blk_far ?_ NB152_151.out _;(with_reducible repeat (first | refine blk_drewN ?_ _ | refine blk_drew ?_ | refine blk_alloc ?_ _));exact BK152.out⟩
  have n3_ : Aside0 (Below w.heap.size w ((wq2.setCell ⟨gb151,0,none⟩ (.int .u64 t171)).setCell ⟨gb151,1,none⟩ (.int .u64 t172))):=⟨bA⟩
  clear hHeld hs0_2 hf0_2 hs1_2 hf1_2 BK151 BK152 HB
  have BK151:=n1_
  have BK152:=n2_
  have HB:=n3_
  clear n1_ n2_ n3_
  generalize ((wq2.setCell ⟨gb151,0,none⟩ (.int .u64 t171)).setCell ⟨gb151,1,none⟩ (.int .u64 t172)) = wq3 at BK151 BK152 HB ⊢
  refine hK.out _ _ ⟨(blk_cell BK151.out 0).trans rfl,(blk_cell BK151.out 1).trans rfl,(blk_cell BK152.out 0).trans rfl,(blk_cell BK152.out 1).trans rfl⟩ (fun hHeld => ?_)
  clear hK K
  refine one_ (i:=3) (N:=none) #[true,true,true,true] rfl rfl (by kernel_rfl) (by decide) (fun K hK => ?_)
  have hs0_3 : wq3.cell? ⟨gb152,0,none⟩ = some (.int .u64 t163):=(blk_cell BK152.out 0).trans rfl
  have hf0_3:=blk_frozen BK152.out 0
  have hs1_3 : wq3.cell? ⟨gb152,1,none⟩ = some (.int .u64 t164):=(blk_cell BK152.out 1).trans rfl
  have hf1_3:=blk_frozen BK152.out 1
  refine skip_ (w1:=?_) (by rfl) rfl ?_ ?_
  rotate_left
  ·go_simp
   rfl
  have n1_ : Aside0 (((wq3.setCell ⟨gb152,0,none⟩ (.int .u64 t163)).setCell ⟨gb152,1,none⟩ (.int .u64 t164)).heap[gb152]? = some (.cells #[.int .u64 t163,.int .u64 t164] 87 (0,0))):=⟨by (with_reducible repeat (first | refine blk_drewN ?_ _ | refine blk_drew ?_ | refine blk_alloc ?_ _));refine blk_put (cs:=#[.int .u64 t163,.int .u64 t164]) ?_ 1 _ rfl;(with_reducible repeat (first | refine blk_drewN ?_ _ | refine blk_drew ?_ | refine blk_alloc ?_ _));refine blk_put (cs:=#[.int .u64 t163,.int .u64 t164]) ?_ 0 _ rfl;(with_reducible repeat (first | refine blk_drewN ?_ _ | refine blk_drew ?_ | refine blk_alloc ?_ _));exact BK152.out⟩
  have n2_ : Aside0 (((wq3.setCell ⟨gb152,0,none⟩ (.int .u64 t163)).setCell ⟨gb152,1,none⟩ (.int .u64 t164)).heap[gb151]? = some (.cells #[.int .u64 t171,.int .u64 t172] 87 (0,0))):=⟨by (with_reducible repeat (first | refine blk_drewN ?_ _ | refine blk_drew ?_ | refine blk_alloc ?_ _));refine blk_far ?_ NB151_152.out _;(with_reducible repeat (first | refine blk_drewN ?_ _ | refine blk_drew ?_ | refine blk_alloc ?_ _));refine blk_far ?_ NB151_152.out _;(with_reducible repeat (first | refine blk_drewN ?_ _ | refine blk_drew ?_ | refine blk_alloc ?_ _));exact BK151.out⟩
  have n3_ : Aside0 (Below w.heap.size w ((wq3.setCell ⟨gb152,0,none⟩ (.int .u64 t163)).setCell ⟨gb152,1,none⟩ (.int .u64 t164))):=⟨bA⟩
  clear hHeld hs0_3 hf0_3 hs1_3 hf1_3 BK152 BK151 HB
  have BK152:=n1_
  have BK151:=n2_
  have HB:=n3_
  clear n1_ n2_ n3_
  generalize ((wq3.setCell ⟨gb152,0,none⟩ (.int .u64 t163)).setCell ⟨gb152,1,none⟩ (.int .u64 t164)) = wq4 at BK152 BK151 HB ⊢
  refine hK.out _ _ ⟨(blk_cell BK151.out 0).trans rfl,(blk_cell BK151.out 1).trans rfl,(blk_cell BK152.out 0).trans rfl,(blk_cell BK152.out 1).trans rfl⟩ (fun hHeld => ?_)
  clear hK K
  refine done_ (by kernel_rfl) ?_
  try go_wp2
  refine bodyPost_ret (results_cc rfl _ _ gb151 gb152 87 87 #[.int .u64 t171,.int .u64 t172] #[.int .u64 t163,.int .u64 t164] (0,0) (0,0) _ _ rfl kA Tryd.underlying87 rfl (by kernel_rfl) rfl kA Tryd.underlying87 rfl (by kernel_rfl)) rfl ?_
  exact ⟨by first | rfl | (simp [errW_none,errW_some] <;> rfl) | (simp [*,errW_none,errW_some] <;> rfl),bA⟩

def config_asked_lead.f (a0_0 : Int) (a0_1 : Int) (a0_2 : Int) (a0_3 : Int) (a0_4 : Int) (a0_5 : Int) (a0_6 : Int) (a0_7 : Int) : Option (Int):=(config_asked_fairSize.f a0_0 a0_1 a0_2 a0_3 a0_4 a0_5 a0_6 a0_7).bind fun t175 => (if a0_3 = 0 then (none) else (some (wrap64 (Int.tdiv t175 a0_3))))
set_option maxHeartbeats 8000000 in
set_option maxRecDepth 100000 in
theorem config_asked_lead.calls (a0_0 : Int) (a0_1 : Int) (a0_2 : Int) (a0_3 : Int) (a0_4 : Int) (a0_5 : Int) (a0_6 : Int) (a0_7 : Int) (r : Int) (w : World) (h : config_asked_lead.f a0_0 a0_1 a0_2 a0_3 a0_4 a0_5 a0_6 a0_7 = some r) :
  Calls Tryd.prog 92 #[.agg #[.int .i64 a0_0,.int .i64 a0_1,.int .i64 a0_2,.int .i64 a0_3,.int .i64 a0_4,.int .i64 a0_5,.int .i64 a0_6,.int .i64 a0_7]] w fun e w' => e = .returned (.int .i64 r) ∧ Below w.heap.size w w':=by
 have hu77:=Tryd.underlying77
 have HB:=Aside0.mk (Below.refl w.heap.size w)
 have H : ((config_asked_fairSize.f a0_0 a0_1 a0_2 a0_3 a0_4 a0_5 a0_6 a0_7).bind fun t175 => (if a0_3 = 0 then (none) else (some (wrap64 (Int.tdiv t175 a0_3))))) = some r:=h
 clear h;replace H:=Option.bind_eq_some_iff.mp H;obtain ⟨t175,A20,H⟩:=H;replace H : (if a0_3 = 0 then (none) else (some (wrap64 (Int.tdiv t175 a0_3)))) = some r:=H;have A2:=Aside0.mk A20;clear A20
 by_cases c3 : a0_3 = 0
 ·rw [if_pos c3] at H
  exact absurd H (by simp)
 ·rw [if_neg c3] at H
  have c3b0 : (a0_3 == 0) = false:=beq_eq_false_iff_ne.mpr c3
  have c3b1 : (a0_3 != 0) = true:=bne_iff_ne.mpr c3
  obtain rfl:=Option.some.inj H
  go_enter Tryd.func92,Tryd.ntmps92
  try go_wp2_with (first | ((with_reducible refine gate_dst (N:=1) rfl ?_);refine bxA 1 #[.int .i64 a0_0,.int .i64 a0_1,.int .i64 a0_2,.int .i64 a0_3,.int .i64 a0_4,.int .i64 a0_5,.int .i64 a0_6,.int .i64 a0_7] 77 ?_;intro gb174 hg w4 hbox hb;have n0_:=Aside0.mk (below_step bA hb);have n1_:=Aside0.mk (hbox);have n2_:=Aside0.mk (gwA hg bA);have n3_:=Aside0.mk (gwA hg bA);clear HB;have HB:=n0_;have BK174:=n1_;have GW174:=n2_;have GE174:=n3_;clear n0_ n1_ n2_ n3_ hb hbox hg))
  have n0_:=Aside0.mk (blk_drew BK174.out);have n1_:=Aside0.mk (below_drew1 HB.out);clear BK174 HB;have BK174:=n0_;have HB:=n1_;clear n0_ n1_
  refine start_ (n:=7) (S:=fun w' => w'.cell? ⟨gb174,0,none⟩ = some (.int .i64 a0_0) ∧ w'.cell? ⟨gb174,1,none⟩ = some (.int .i64 a0_1) ∧ w'.cell? ⟨gb174,2,none⟩ = some (.int .i64 a0_2) ∧ w'.cell? ⟨gb174,3,none⟩ = some (.int .i64 a0_3) ∧ w'.cell? ⟨gb174,4,none⟩ = some (.int .i64 a0_4) ∧ w'.cell? ⟨gb174,5,none⟩ = some (.int .i64 a0_5) ∧ w'.cell? ⟨gb174,6,none⟩ = some (.int .i64 a0_6) ∧ w'.cell? ⟨gb174,7,none⟩ = some (.int .i64 a0_7)) (ds:=[]) #[false,false,false,false,false,false,false] (by kernel_rfl) rfl rfl ⟨(blk_cell BK174.out 0).trans rfl,(blk_cell BK174.out 1).trans rfl,(blk_cell BK174.out 2).trans rfl,(blk_cell BK174.out 3).trans rfl,(blk_cell BK174.out 4).trans rfl,(blk_cell BK174.out 5).trans rfl,(blk_cell BK174.out 6).trans rfl,(blk_cell BK174.out 7).trans rfl⟩ (fun hHeld => ?_)
  generalize w4.drew = w5 at BK174 HB hHeld ⊢
  refine pure_ (i:=2) (N:=some 5) (v:=?_) (a':=?_) #[false,false,true,false,false,false,false] rfl rfl (by kernel_rfl) (fun _ _ _ h => h) (Or.inl ⟨by rfl,?_⟩) ?_ ?_
  rotate_left
  ·intro w'
   go_simp;with_reducible rfl
  rotate_left
  ·simp only [Act.put,List.setIfInBounds_toArray,List.set_cons_zero,List.set_cons_succ,i64_w,i32_w]
   rfl
  refine pure_ (i:=3) (N:=some 6) (v:=?_) (a':=?_) #[false,false,true,true,false,false,false] rfl rfl (by kernel_rfl) (fun _ _ _ h => h) (Or.inl ⟨by rfl,?_⟩) ?_ ?_
  rotate_left
  ·intro w'
   go_simp;with_reducible rfl
  rotate_left
  ·simp only [Act.put,List.setIfInBounds_toArray,List.set_cons_zero,List.set_cons_succ,i64_w,i32_w]
   rfl
  refine take_ (i:=0) (N:=some 3) (v:=?_) (a':=?_) #[true,false,true,true,false,false,false] rfl rfl (by kernel_rfl) (fun _ _ _ h => h) (Or.inl ⟨by rfl,?_⟩) hHeld ?_ ?_
  rotate_left
  ·rintro w' ⟨s0,s1,s2,s3,s4,s5,s6,s7⟩
   go_simp;with_reducible rfl
  rotate_left
  ·simp only [Act.put,List.setIfInBounds_toArray,List.set_cons_zero,List.set_cons_succ,i64_w,i32_w]
   rfl
  refine take_ (i:=4) (N:=some 7) (v:=?_) (a':=?_) #[true,false,true,true,true,false,false] rfl rfl (by kernel_rfl) (fun _ _ _ h => h) (Or.inl ⟨by rfl,?_⟩) hHeld ?_ ?_
  rotate_left
  ·rintro w' ⟨s0,s1,s2,s3,s4,s5,s6,s7⟩
   go_simp;with_reducible rfl
  rotate_left
  ·simp only [Act.put,List.setIfInBounds_toArray,List.set_cons_zero,List.set_cons_succ,i64_w,i32_w]
   rfl
  refine one_ (i:=1) (N:=some 4) #[true,true,true,true,true,false,false] rfl rfl (by kernel_rfl) (by decide) (fun K hK => ?_)
  refine goes_ Tryd.func65 (by kernel_rfl) rfl #[.agg #[.int .i64 a0_0,.int .i64 a0_1,.int .i64 a0_2,.int .i64 a0_3,.int .i64 a0_4,.int .i64 a0_5,.int .i64 a0_6,.int .i64 a0_7]] (by rfl) rfl rfl aA ?_
  with_reducible refine (config_asked_fairSize.calls a0_0 a0_1 a0_2 a0_3 a0_4 a0_5 a0_6 a0_7 t175 _ A2.out).mono ?_
  rintro e w6 ⟨rfl,hb⟩
  refine ⟨_,rfl,?_⟩;have n0_:=Aside0.mk (blk_below (g:=gb174) kA hb);have n1_:=Aside0.mk (below_step bA hb);clear BK174 HB;have BK174:=n0_;have HB:=n1_;clear n0_ n1_;(try clear hb)
  refine hK.out _ _ ⟨(blk_cell BK174.out 0).trans rfl,(blk_cell BK174.out 1).trans rfl,(blk_cell BK174.out 2).trans rfl,(blk_cell BK174.out 3).trans rfl,(blk_cell BK174.out 4).trans rfl,(blk_cell BK174.out 5).trans rfl,(blk_cell BK174.out 6).trans rfl,(blk_cell BK174.out 7).trans rfl⟩ (fun hHeld => ?_)
  clear hK K
  refine norm_ (a':=?_) ?_ ?_
  rotate_left
  ·show Act.put _ (some 4) _ = _
   simp only [Act.put,List.setIfInBounds_toArray,List.set_cons_zero,List.set_cons_succ,i64_w,i32_w]
   rfl
  refine pure_ (i:=5) (N:=some 8) (v:=?_) (a':=?_) #[true,true,true,true,true,true,false] rfl rfl (by kernel_rfl) (fun _ _ _ h => h) (Or.inl ⟨by rfl,?_⟩) ?_ ?_
  rotate_left
  ·intro w'
   go_simp;with_reducible rfl
  rotate_left
  ·simp only [Act.put,List.setIfInBounds_toArray,List.set_cons_zero,List.set_cons_succ,i64_w,i32_w]
   rfl
  refine pure_ (i:=6) (N:=some 2) (v:=?_) (a':=?_) #[true,true,true,true,true,true,true] rfl rfl (by kernel_rfl) (fun _ _ _ h => h) (Or.inl ⟨by rfl,?_⟩) ?_ ?_
  rotate_left
  ·intro w'
   go_simp;with_reducible rfl
  rotate_left
  ·simp only [Act.put,List.setIfInBounds_toArray,List.set_cons_zero,List.set_cons_succ,i64_w,i32_w]
   rfl
  refine done_ (by kernel_rfl) ?_
  try go_wp2
  go_ret
  exact ⟨by first | rfl | (simp [errW_none,errW_some] <;> rfl) | (simp [*,errW_none,errW_some] <;> rfl),bA⟩

def config_asked_bound.f (a0_0 : Int) (a0_1 : Int) (a0_2 : Int) (a0_3 : Int) (a0_4 : Int) (a0_5 : Int) (a0_6 : Int) (a0_7 : Int) : Option (Int):=(config_asked_lead.f a0_0 a0_1 a0_2 a0_3 a0_4 a0_5 a0_6 a0_7).bind fun t177 => (some (wrap64 ((wrap64 (t177 + 1)) + (wrap64 (a0_1 * a0_2)))))
def config_asked_bound.T1 : Bool × List (List Nat × List Nat):=(true,[([],[]),([0],[0]),([1],[1]),([],[]),([3],[3]),([4],[4]),([],[]),([6],[6]),([7],[7]),([5,8],[5,8]),([2,9],[2,9]),([10,1,0,1,2,3,4,5,6,7,8,9,10],[10])])
def config_asked_bound.B1 : List Nat:=[0,1,3,0,8,24,0,64,192,504,1023,2047]
theorem config_asked_bound.tab1 : rtab .any (opsOf Tryd.f68 1) = config_asked_bound.T1:=by kernel_rfl
theorem config_asked_bound.bits1 : waitsOk config_asked_bound.T1.2 config_asked_bound.B1 = true:=by kernel_rfl
set_option maxHeartbeats 8000000 in
set_option maxRecDepth 100000 in
theorem config_asked_bound.calls (a0_0 : Int) (a0_1 : Int) (a0_2 : Int) (a0_3 : Int) (a0_4 : Int) (a0_5 : Int) (a0_6 : Int) (a0_7 : Int) (r : Int) (w : World) (h : config_asked_bound.f a0_0 a0_1 a0_2 a0_3 a0_4 a0_5 a0_6 a0_7 = some r) :
  Calls Tryd.prog 68 #[.agg #[.int .i64 a0_0,.int .i64 a0_1,.int .i64 a0_2,.int .i64 a0_3,.int .i64 a0_4,.int .i64 a0_5,.int .i64 a0_6,.int .i64 a0_7]] w fun e w' => e = .returned (.int .i64 r) ∧ Below w.heap.size w w':=by
 have hu77:=Tryd.underlying77
 have HB:=Aside0.mk (Below.refl w.heap.size w)
 have H : ((config_asked_lead.f a0_0 a0_1 a0_2 a0_3 a0_4 a0_5 a0_6 a0_7).bind fun t177 => (some (wrap64 ((wrap64 (t177 + 1)) + (wrap64 (a0_1 * a0_2)))))) = some r:=h
 clear h;replace H:=Option.bind_eq_some_iff.mp H;obtain ⟨t177,A20,H⟩:=H;replace H : (some (wrap64 ((wrap64 (t177 + 1)) + (wrap64 (a0_1 * a0_2))))) = some r:=H;have A2:=Aside0.mk A20;clear A20
 obtain rfl:=Option.some.inj H
 go_enter Tryd.func68,Tryd.ntmps68
 try go_wp2_with (first | ((with_reducible refine gate_dst (N:=1) rfl ?_);refine bxA 1 #[.int .i64 a0_0,.int .i64 a0_1,.int .i64 a0_2,.int .i64 a0_3,.int .i64 a0_4,.int .i64 a0_5,.int .i64 a0_6,.int .i64 a0_7] 77 ?_;intro gb176 hg w3 hbox hb;have n0_:=Aside0.mk (below_step bA hb);have n1_:=Aside0.mk (hbox);have n2_:=Aside0.mk (gwA hg bA);have n3_:=Aside0.mk (gwA hg bA);clear HB;have HB:=n0_;have BK176:=n1_;have GW176:=n2_;have GE176:=n3_;clear n0_ n1_ n2_ n3_ hb hbox hg))
 have n0_:=Aside0.mk (blk_drew BK176.out);have n1_:=Aside0.mk (below_drew1 HB.out);clear BK176 HB;have BK176:=n0_;have HB:=n1_;clear n0_ n1_
 refine start_ (n:=12) (S:=fun w' => w'.cell? ⟨gb176,0,none⟩ = some (.int .i64 a0_0) ∧ w'.cell? ⟨gb176,1,none⟩ = some (.int .i64 a0_1) ∧ w'.cell? ⟨gb176,2,none⟩ = some (.int .i64 a0_2) ∧ w'.cell? ⟨gb176,3,none⟩ = some (.int .i64 a0_3) ∧ w'.cell? ⟨gb176,4,none⟩ = some (.int .i64 a0_4) ∧ w'.cell? ⟨gb176,5,none⟩ = some (.int .i64 a0_5) ∧ w'.cell? ⟨gb176,6,none⟩ = some (.int .i64 a0_6) ∧ w'.cell? ⟨gb176,7,none⟩ = some (.int .i64 a0_7)) (ds:=[]) #[false,false,false,false,false,false,false,false,false,false,false,false] (by kernel_rfl) rfl rfl ⟨(blk_cell BK176.out 0).trans rfl,(blk_cell BK176.out 1).trans rfl,(blk_cell BK176.out 2).trans rfl,(blk_cell BK176.out 3).trans rfl,(blk_cell BK176.out 4).trans rfl,(blk_cell BK176.out 5).trans rfl,(blk_cell BK176.out 6).trans rfl,(blk_cell BK176.out 7).trans rfl⟩ (fun hHeld => ?_);refine with_tabW config_asked_bound.tab1 config_asked_bound.bits1 (fun HT_ HW_ => ?_)
 generalize w3.drew = w4 at BK176 HB hHeld ⊢
 refine pure_ (i:=3) (N:=some 6) (v:=?_) (a':=?_) #[false,false,false,true,false,false,false,false,false,false,false,false] rfl rfl (any_of HT_.out (by kernel_rfl)) (fun _ _ _ h => h) (Or.inl ⟨by rfl,?_⟩) ?_ ?_
 rotate_left
 ·intro w'
  go_simp;with_reducible rfl
 rotate_left
 ·simp only [Act.put,List.setIfInBounds_toArray,List.set_cons_zero,List.set_cons_succ,i64_w,i32_w]
  rfl
 refine pure_ (i:=4) (N:=some 7) (v:=?_) (a':=?_) #[false,false,false,true,true,false,false,false,false,false,false,false] rfl rfl (any_of HT_.out (by kernel_rfl)) (fun _ _ _ h => h) (Or.inl ⟨by rfl,?_⟩) ?_ ?_
 rotate_left
 ·intro w'
  go_simp;with_reducible rfl
 rotate_left
 ·simp only [Act.put,List.setIfInBounds_toArray,List.set_cons_zero,List.set_cons_succ,i64_w,i32_w]
  rfl
 refine pure_ (i:=6) (N:=some 9) (v:=?_) (a':=?_) #[false,false,false,true,true,false,true,false,false,false,false,false] rfl rfl (any_of HT_.out (by kernel_rfl)) (fun _ _ _ h => h) (Or.inl ⟨by rfl,?_⟩) ?_ ?_
 rotate_left
 ·intro w'
  go_simp;with_reducible rfl
 rotate_left
 ·simp only [Act.put,List.setIfInBounds_toArray,List.set_cons_zero,List.set_cons_succ,i64_w,i32_w]
  rfl
 refine pure_ (i:=7) (N:=some 10) (v:=?_) (a':=?_) #[false,false,false,true,true,false,true,true,false,false,false,false] rfl rfl (any_of HT_.out (by kernel_rfl)) (fun _ _ _ h => h) (Or.inl ⟨by rfl,?_⟩) ?_ ?_
 rotate_left
 ·intro w'
  go_simp;with_reducible rfl
 rotate_left
 ·simp only [Act.put,List.setIfInBounds_toArray,List.set_cons_zero,List.set_cons_succ,i64_w,i32_w]
  rfl
 refine take_ (i:=0) (N:=some 3) (v:=?_) (a':=?_) #[true,false,false,true,true,false,true,true,false,false,false,false] rfl rfl (take_ofW HT_.out HW_.out (by kernel_rfl)) (fun _ _ _ h => h) (Or.inl ⟨by rfl,?_⟩) hHeld ?_ ?_
 rotate_left
 ·rintro w' ⟨s0,s1,s2,s3,s4,s5,s6,s7⟩
  go_simp;with_reducible rfl
 rotate_left
 ·simp only [Act.put,List.setIfInBounds_toArray,List.set_cons_zero,List.set_cons_succ,i64_w,i32_w]
  rfl
 refine take_ (i:=5) (N:=some 8) (v:=?_) (a':=?_) #[true,false,false,true,true,true,true,true,false,false,false,false] rfl rfl (take_ofW HT_.out HW_.out (by kernel_rfl)) (fun _ _ _ h => h) (Or.inl ⟨by rfl,?_⟩) hHeld ?_ ?_
 rotate_left
 ·rintro w' ⟨s0,s1,s2,s3,s4,s5,s6,s7⟩
  go_simp;with_reducible rfl
 rotate_left
 ·simp only [Act.put,List.setIfInBounds_toArray,List.set_cons_zero,List.set_cons_succ,i64_w,i32_w]
  rfl
 refine take_ (i:=8) (N:=some 11) (v:=?_) (a':=?_) #[true,false,false,true,true,true,true,true,true,false,false,false] rfl rfl (take_ofW HT_.out HW_.out (by kernel_rfl)) (fun _ _ _ h => h) (Or.inl ⟨by rfl,?_⟩) hHeld ?_ ?_
 rotate_left
 ·rintro w' ⟨s0,s1,s2,s3,s4,s5,s6,s7⟩
  go_simp;with_reducible rfl
 rotate_left
 ·simp only [Act.put,List.setIfInBounds_toArray,List.set_cons_zero,List.set_cons_succ,i64_w,i32_w]
  rfl
 refine pure_ (i:=9) (N:=some 12) (v:=?_) (a':=?_) #[true,false,false,true,true,true,true,true,true,true,false,false] rfl rfl (any_of HT_.out (by kernel_rfl)) (fun _ _ _ h => h) (Or.inl ⟨by rfl,?_⟩) ?_ ?_
 rotate_left
 ·intro w'
  go_simp;with_reducible rfl
 rotate_left
 ·simp only [Act.put,List.setIfInBounds_toArray,List.set_cons_zero,List.set_cons_succ,i64_w,i32_w]
  rfl
 refine one_ (i:=1) (N:=some 4) #[true,true,false,true,true,true,true,true,true,true,false,false] rfl rfl (one_of HT_.out (by kernel_rfl)) (by decide) (fun K hK => ?_)
 refine goes_ Tryd.func92 (by kernel_rfl) rfl #[.agg #[.int .i64 a0_0,.int .i64 a0_1,.int .i64 a0_2,.int .i64 a0_3,.int .i64 a0_4,.int .i64 a0_5,.int .i64 a0_6,.int .i64 a0_7]] (by rfl) rfl rfl aA ?_
 with_reducible refine (config_asked_lead.calls a0_0 a0_1 a0_2 a0_3 a0_4 a0_5 a0_6 a0_7 t177 _ A2.out).mono ?_
 rintro e w5 ⟨rfl,hb⟩
 refine ⟨_,rfl,?_⟩;have n0_:=Aside0.mk (blk_below (g:=gb176) kA hb);have n1_:=Aside0.mk (below_step bA hb);clear BK176 HB;have BK176:=n0_;have HB:=n1_;clear n0_ n1_;(try clear hb)
 refine hK.out _ _ ⟨(blk_cell BK176.out 0).trans rfl,(blk_cell BK176.out 1).trans rfl,(blk_cell BK176.out 2).trans rfl,(blk_cell BK176.out 3).trans rfl,(blk_cell BK176.out 4).trans rfl,(blk_cell BK176.out 5).trans rfl,(blk_cell BK176.out 6).trans rfl,(blk_cell BK176.out 7).trans rfl⟩ (fun hHeld => ?_)
 clear hK K
 refine norm_ (a':=?_) ?_ ?_
 rotate_left
 ·show Act.put _ (some 4) _ = _
  simp only [Act.put,List.setIfInBounds_toArray,List.set_cons_zero,List.set_cons_succ,i64_w,i32_w]
  rfl
 refine pure_ (i:=2) (N:=some 5) (v:=?_) (a':=?_) #[true,true,true,true,true,true,true,true,true,true,false,false] rfl rfl (any_of HT_.out (by kernel_rfl)) (fun _ _ _ h => h) (Or.inl ⟨by rfl,?_⟩) ?_ ?_
 rotate_left
 ·intro w'
  go_simp;with_reducible rfl
 rotate_left
 ·simp only [Act.put,List.setIfInBounds_toArray,List.set_cons_zero,List.set_cons_succ,i64_w,i32_w]
  rfl
 refine pure_ (i:=10) (N:=some 13) (v:=?_) (a':=?_) #[true,true,true,true,true,true,true,true,true,true,true,false] rfl rfl (any_of HT_.out (by kernel_rfl)) (fun _ _ _ h => h) (Or.inl ⟨by rfl,?_⟩) ?_ ?_
 rotate_left
 ·intro w'
  go_simp;with_reducible rfl
 rotate_left
 ·simp only [Act.put,List.setIfInBounds_toArray,List.set_cons_zero,List.set_cons_succ,i64_w,i32_w]
  rfl
 refine pure_ (i:=11) (N:=some 2) (v:=?_) (a':=?_) #[true,true,true,true,true,true,true,true,true,true,true,true] rfl rfl (any_of HT_.out (by kernel_rfl)) (fun _ _ _ h => h) (Or.inl ⟨by rfl,?_⟩) ?_ ?_
 rotate_left
 ·intro w'
  go_simp;with_reducible rfl
 rotate_left
 ·simp only [Act.put,List.setIfInBounds_toArray,List.set_cons_zero,List.set_cons_succ,i64_w,i32_w]
  rfl
 refine done_ (done_of HT_.out (by kernel_rfl)) ?_
 try go_wp2
 go_ret
 exact ⟨by first | rfl | (simp [errW_none,errW_some] <;> rfl) | (simp [*,errW_none,errW_some] <;> rfl),bA⟩

def cmp_isNaN_uint64.f (a0 : Int) : Option (Bool):=some (a0 != a0)
set_option maxHeartbeats 8000000 in
set_option maxRecDepth 100000 in
theorem cmp_isNaN_uint64.calls (a0 : Int) (r : Bool) (w : World) (h : cmp_isNaN_uint64.f a0 = some r) :
  Calls Tryd.prog 99 #[.int .u64 a0] w fun e w' => e = .returned (.bool r) ∧ Drawn0 w w':=by
 have H : (some (a0 != a0)) = some r:=h
 clear h
 obtain rfl:=Option.some.inj H
 go_enter Tryd.func99,Tryd.ntmps99
 go_wp2
 go_ret
 exact ⟨by first | rfl | (simp;done) | (simp [*];done),by repeat (first | exact Drawn0.refl _ | apply Drawn0.step)⟩

def cmp_Compare_uint64.f (a0 : Int) (a1 : Int) : Option (Int):=(cmp_isNaN_uint64.f a0).bind fun t178 => ((cmp_isNaN_uint64.f a1).bind fun t179 => (if t178 = true then (if t179 = true then (some 0) else (some (-1))) else (if t179 = true then (some 1) else (if a0 < a1 then (some (-1)) else (if a0 > a1 then (some 1) else (some 0))))))
set_option maxHeartbeats 8000000 in
set_option maxRecDepth 100000 in
theorem cmp_Compare_uint64.calls (a0 : Int) (a1 : Int) (r : Int) (w : World) (h : cmp_Compare_uint64.f a0 a1 = some r) :
  Calls Tryd.prog 93 #[.int .u64 a0,.int .u64 a1] w fun e w' => e = .returned (.int .i64 r) ∧ Drawn0 w w':=by
 have H : ((cmp_isNaN_uint64.f a0).bind fun t178 => ((cmp_isNaN_uint64.f a1).bind fun t179 => (if t178 = true then (if t179 = true then (some 0) else (some (-1))) else (if t179 = true then (some 1) else (if a0 < a1 then (some (-1)) else (if a0 > a1 then (some 1) else (some 0))))))) = some r:=h
 clear h;replace H:=Option.bind_eq_some_iff.mp H;obtain ⟨t178,A30,H⟩:=H;replace H : ((cmp_isNaN_uint64.f a1).bind fun t179 => (if t178 = true then (if t179 = true then (some 0) else (some (-1))) else (if t179 = true then (some 1) else (if a0 < a1 then (some (-1)) else (if a0 > a1 then (some 1) else (some 0)))))) = some r:=H;have A3:=Aside0.mk A30;clear A30;replace H:=Option.bind_eq_some_iff.mp H;obtain ⟨t179,A40,H⟩:=H;replace H : (if t178 = true then (if t179 = true then (some 0) else (some (-1))) else (if t179 = true then (some 1) else (if a0 < a1 then (some (-1)) else (if a0 > a1 then (some 1) else (some 0))))) = some r:=H;have A4:=Aside0.mk A40;clear A40
 by_cases c5 : t178 = true
 ·subst c5
  have H1 : (if t179 = true then (some 0) else (some (-1))) = some r:=by rw [if_pos rfl] at H;exact H
  clear H
  have H:=H1
  clear H1
  by_cases c6 : t179 = true
  ·subst c6
   have H1 : (some 0) = some r:=by rw [if_pos rfl] at H;exact H
   clear H
   have H:=H1
   clear H1
   obtain rfl:=Option.some.inj H
   go_enter Tryd.func93,Tryd.ntmps93
   go_wp2_with (first | ((with_reducible refine gate_callee (f:=99) rfl ?_);refine goesL_ (some 8) rfl rfl Tryd.func99 (by kernel_rfl) rfl #[.int .u64 a0] rfl aA ?_;(with_reducible refine (cmp_isNaN_uint64.calls a0 true _ A3.out).mono ?_);rintro e w' ⟨rfl,⟨nd,rfl⟩⟩;refine ⟨_,rfl,?_⟩) | ((with_reducible refine gate_callee (f:=99) rfl ?_);refine goesL_ (some 10) rfl rfl Tryd.func99 (by kernel_rfl) rfl #[.int .u64 a1] rfl aA ?_;(with_reducible refine (cmp_isNaN_uint64.calls a1 true _ A4.out).mono ?_);rintro e w' ⟨rfl,⟨nd,rfl⟩⟩;refine ⟨_,rfl,?_⟩))
   go_ret
   exact ⟨by first | rfl | (simp;done) | (simp [*];done),by repeat (first | exact Drawn0.refl _ | apply Drawn0.step)⟩
  ·replace c6:=Bool.eq_false_iff.mpr c6
   subst c6
   have H1 : (some (-1)) = some r:=by rw [if_neg (show ¬ (false = true) by decide)] at H;exact H
   clear H
   have H:=H1
   clear H1
   obtain rfl:=Option.some.inj H
   go_enter Tryd.func93,Tryd.ntmps93
   go_wp2_with (first | ((with_reducible refine gate_callee (f:=99) rfl ?_);refine goesL_ (some 8) rfl rfl Tryd.func99 (by kernel_rfl) rfl #[.int .u64 a0] rfl aA ?_;(with_reducible refine (cmp_isNaN_uint64.calls a0 true _ A3.out).mono ?_);rintro e w' ⟨rfl,⟨nd,rfl⟩⟩;refine ⟨_,rfl,?_⟩) | ((with_reducible refine gate_callee (f:=99) rfl ?_);refine goesL_ (some 10) rfl rfl Tryd.func99 (by kernel_rfl) rfl #[.int .u64 a1] rfl aA ?_;(with_reducible refine (cmp_isNaN_uint64.calls a1 false _ A4.out).mono ?_);rintro e w' ⟨rfl,⟨nd,rfl⟩⟩;refine ⟨_,rfl,?_⟩))
   go_ret
   exact ⟨by first | rfl | (simp;done) | (simp [*];done),by repeat (first | exact Drawn0.refl _ | apply Drawn0.step)⟩
 ·replace c5:=Bool.eq_false_iff.mpr c5
  subst c5
  have H1 : (if t179 = true then (some 1) else (if a0 < a1 then (some (-1)) else (if a0 > a1 then (some 1) else (some 0)))) = some r:=by rw [if_neg (show ¬ (false = true) by decide)] at H;exact H
  clear H
  have H:=H1
  clear H1
  by_cases c7 : t179 = true
  ·subst c7
   have H1 : (some 1) = some r:=by rw [if_pos rfl] at H;exact H
   clear H
   have H:=H1
   clear H1
   obtain rfl:=Option.some.inj H
   go_enter Tryd.func93,Tryd.ntmps93
   go_wp2_with (first | ((with_reducible refine gate_callee (f:=99) rfl ?_);refine goesL_ (some 8) rfl rfl Tryd.func99 (by kernel_rfl) rfl #[.int .u64 a0] rfl aA ?_;(with_reducible refine (cmp_isNaN_uint64.calls a0 false _ A3.out).mono ?_);rintro e w' ⟨rfl,⟨nd,rfl⟩⟩;refine ⟨_,rfl,?_⟩) | ((with_reducible refine gate_callee (f:=99) rfl ?_);refine goesL_ (some 10) rfl rfl Tryd.func99 (by kernel_rfl) rfl #[.int .u64 a1] rfl aA ?_;(with_reducible refine (cmp_isNaN_uint64.calls a1 true _ A4.out).mono ?_);rintro e w' ⟨rfl,⟨nd,rfl⟩⟩;refine ⟨_,rfl,?_⟩))
   go_ret
   exact ⟨by first | rfl | (simp;done) | (simp [*];done),by repeat (first | exact Drawn0.refl _ | apply Drawn0.step)⟩
  ·replace c7:=Bool.eq_false_iff.mpr c7
   subst c7
   have H1 : (if a0 < a1 then (some (-1)) else (if a0 > a1 then (some 1) else (some 0))) = some r:=by rw [if_neg (show ¬ (false = true) by decide)] at H;exact H
   clear H
   have H:=H1
   clear H1
   by_cases c8 : a0 < a1
   ·rw [if_pos c8] at H
    have c8b0 : decide (a0 < a1) = true:=decide_eq_true c8
    clear c8
    obtain rfl:=Option.some.inj H
    go_enter Tryd.func93,Tryd.ntmps93
    go_wp2_with (first | ((with_reducible refine gate_callee (f:=99) rfl ?_);refine goesL_ (some 8) rfl rfl Tryd.func99 (by kernel_rfl) rfl #[.int .u64 a0] rfl aA ?_;(with_reducible refine (cmp_isNaN_uint64.calls a0 false _ A3.out).mono ?_);rintro e w' ⟨rfl,⟨nd,rfl⟩⟩;refine ⟨_,rfl,?_⟩) | ((with_reducible refine gate_callee (f:=99) rfl ?_);refine goesL_ (some 10) rfl rfl Tryd.func99 (by kernel_rfl) rfl #[.int .u64 a1] rfl aA ?_;(with_reducible refine (cmp_isNaN_uint64.calls a1 false _ A4.out).mono ?_);rintro e w' ⟨rfl,⟨nd,rfl⟩⟩;refine ⟨_,rfl,?_⟩))
    go_ret
    exact ⟨by first | rfl | (simp;done) | (simp [*];done),by repeat (first | exact Drawn0.refl _ | apply Drawn0.step)⟩
   ·rw [if_neg c8] at H
    have c8b0 : decide (a0 < a1) = false:=decide_eq_false c8
    clear c8
    by_cases c9 : a0 > a1
    ·rw [if_pos c9] at H
     have c9b0 : decide (a1 < a0) = true:=decide_eq_true c9
     clear c9
     obtain rfl:=Option.some.inj H
     go_enter Tryd.func93,Tryd.ntmps93
     go_wp2_with (first | ((with_reducible refine gate_callee (f:=99) rfl ?_);refine goesL_ (some 8) rfl rfl Tryd.func99 (by kernel_rfl) rfl #[.int .u64 a0] rfl aA ?_;(with_reducible refine (cmp_isNaN_uint64.calls a0 false _ A3.out).mono ?_);rintro e w' ⟨rfl,⟨nd,rfl⟩⟩;refine ⟨_,rfl,?_⟩) | ((with_reducible refine gate_callee (f:=99) rfl ?_);refine goesL_ (some 10) rfl rfl Tryd.func99 (by kernel_rfl) rfl #[.int .u64 a1] rfl aA ?_;(with_reducible refine (cmp_isNaN_uint64.calls a1 false _ A4.out).mono ?_);rintro e w' ⟨rfl,⟨nd,rfl⟩⟩;refine ⟨_,rfl,?_⟩))
     go_ret
     exact ⟨by first | rfl | (simp;done) | (simp [*];done),by repeat (first | exact Drawn0.refl _ | apply Drawn0.step)⟩
    ·rw [if_neg c9] at H
     have c9b0 : decide (a1 < a0) = false:=decide_eq_false c9
     clear c9
     obtain rfl:=Option.some.inj H
     go_enter Tryd.func93,Tryd.ntmps93
     go_wp2_with (first | ((with_reducible refine gate_callee (f:=99) rfl ?_);refine goesL_ (some 8) rfl rfl Tryd.func99 (by kernel_rfl) rfl #[.int .u64 a0] rfl aA ?_;(with_reducible refine (cmp_isNaN_uint64.calls a0 false _ A3.out).mono ?_);rintro e w' ⟨rfl,⟨nd,rfl⟩⟩;refine ⟨_,rfl,?_⟩) | ((with_reducible refine gate_callee (f:=99) rfl ?_);refine goesL_ (some 10) rfl rfl Tryd.func99 (by kernel_rfl) rfl #[.int .u64 a1] rfl aA ?_;(with_reducible refine (cmp_isNaN_uint64.calls a1 false _ A4.out).mono ?_);rintro e w' ⟨rfl,⟨nd,rfl⟩⟩;refine ⟨_,rfl,?_⟩))
     go_ret
     exact ⟨by first | rfl | (simp;done) | (simp [*];done),by repeat (first | exact Drawn0.refl _ | apply Drawn0.step)⟩

end Go.Proofs.YtgjjfnjnjnbfgaaDoor.GLG
namespace Go.Proofs.YtgjjfnjnjnbfgaaDoor.GLG
open Go.RowKit Go.Proofs.YtgjjfnjnjnbfgaaDoorW.PrintWords Go.Proofs.YtgjjfnjnjnbfgaaDoorW.PrintLast Go.Proofs.YtgjjfnjnjnbfgaaDoorW.PrintMore
attribute [local go_sem] max2_int min2_int max_two min_two max_three min_three max_four min_four   -- for this text's walks alone
set_option linter.unusedVariables false
set_option linter.unusedSimpArgs false
def wide_Cmp.f (a0_0 : Int) (a0_1 : Int) (a1_0 : Int) (a1_1 : Int) : Option (Int):=if a0_0 = a1_0 then ((cmp_Compare_uint64.f a0_1 a1_1).bind fun t182 => (some t182)) else ((cmp_Compare_uint64.f a0_0 a1_0).bind fun t183 => (some t183))
set_option maxHeartbeats 8000000 in
set_option maxRecDepth 100000 in
theorem wide_Cmp.calls (a0_0 : Int) (a0_1 : Int) (a1_0 : Int) (a1_1 : Int) (r : Int) (w : World) (h : wide_Cmp.f a0_0 a0_1 a1_0 a1_1 = some r) :
  Calls Tryd.prog 69 #[.agg #[.int .u64 a0_0,.int .u64 a0_1],.agg #[.int .u64 a1_0,.int .u64 a1_1]] w fun e w' => e = .returned (.int .i64 r) ∧ Below w.heap.size w w':=by
 have hu87:=Tryd.underlying87
 have HB:=Aside0.mk (Below.refl w.heap.size w)
 have H : (if a0_0 = a1_0 then ((cmp_Compare_uint64.f a0_1 a1_1).bind fun t182 => (some t182)) else ((cmp_Compare_uint64.f a0_0 a1_0).bind fun t183 => (some t183))) = some r:=h
 clear h
 by_cases c3 : a0_0 = a1_0
 ·rw [if_pos c3] at H
  have c3b0 : (a0_0 == a1_0) = true:=beq_iff_eq.mpr c3
  have c3b1 : (a0_0 != a1_0) = false:=bne_eq_false_iff_eq.mpr c3
  clear c3;replace H:=Option.bind_eq_some_iff.mp H;obtain ⟨t182,A40,H⟩:=H;replace H : (some t182) = some r:=H;have A4:=Aside0.mk A40;clear A40
  obtain rfl:=Option.some.inj H
  go_enter Tryd.func69,Tryd.ntmps69
  go_wp2_with (first | ((with_reducible refine gate_dst (N:=2) rfl ?_);refine bxA 2 #[.int .u64 a0_0,.int .u64 a0_1] 87 ?_;intro gb180 hg w5 hbox hb;have n0_:=Aside0.mk (below_step bA hb);have n1_:=Aside0.mk (hbox);have n2_:=Aside0.mk (gwA hg bA);have n3_:=Aside0.mk (gwA hg bA);clear HB;have HB:=n0_;have BK180:=n1_;have GW180:=n2_;have GE180:=n3_;clear n0_ n1_ n2_ n3_ hb hbox hg) | ((with_reducible refine gate_dst (N:=3) rfl ?_);refine bxA 3 #[.int .u64 a1_0,.int .u64 a1_1] 87 ?_;intro gb181 hg w6 hbox hb;have n0_:=Aside0.mk (blk_below (g:=gb180) kA hb);have n1_:=Aside0.mk (below_step bA hb);have n2_:=Aside0.mk (hbox);have n3_:=Aside0.mk (gwA hg bA);have n4_:=Aside0.mk (gwA hg bA);have n5_:=Aside0.mk (neA (g:=gb180) hg kA);have n6_:=Aside0.mk (neB (g:=gb180) hg kA);clear BK180 HB;have BK180:=n0_;have HB:=n1_;have BK181:=n2_;have GW181:=n3_;have GE181:=n4_;have NB180_181:=n5_;have NB181_180:=n6_;clear n0_ n1_ n2_ n3_ n4_ n5_ n6_ hb hbox hg;have hnb7:=NB180_181.out;have hnc7:=NB181_180.out;have hcz8_0 : w6.cell? ⟨gb180,0,none⟩ = some (.int .u64 a0_0):=(blk_cell BK180.out 0).trans rfl;have hcz8_1 : w6.cell? ⟨gb180,1,none⟩ = some (.int .u64 a0_1):=(blk_cell BK180.out 1).trans rfl;have hfz8_0:=blk_frozen BK180.out 0;have hfz8_1:=blk_frozen BK180.out 1;have hcz9_0 : w6.cell? ⟨gb181,0,none⟩ = some (.int .u64 a1_0):=(blk_cell BK181.out 0).trans rfl;have hcz9_1 : w6.cell? ⟨gb181,1,none⟩ = some (.int .u64 a1_1):=(blk_cell BK181.out 1).trans rfl;have hfz9_0:=blk_frozen BK181.out 0;have hfz9_1:=blk_frozen BK181.out 1) | ((with_reducible refine gate_callee (f:=93) rfl ?_);refine goesL_ (some 19) rfl rfl Tryd.func93 (by kernel_rfl) rfl #[.int .u64 a0_1,.int .u64 a1_1] rfl aA ?_;(with_reducible refine (cmp_Compare_uint64.calls a0_1 a1_1 t182 _ A4.out).mono ?_);rintro e w' ⟨rfl,⟨nd,rfl⟩⟩;refine ⟨_,rfl,?_⟩))
  go_ret
  exact ⟨by first | rfl | (simp [errW_none,errW_some] <;> rfl) | (simp [*,errW_none,errW_some] <;> rfl),bA⟩
 ·rw [if_neg c3] at H
  have c3b0 : (a0_0 == a1_0) = false:=beq_eq_false_iff_ne.mpr c3
  have c3b1 : (a0_0 != a1_0) = true:=bne_iff_ne.mpr c3
  replace H:=Option.bind_eq_some_iff.mp H;obtain ⟨t183,A100,H⟩:=H;replace H : (some t183) = some r:=H;have A10:=Aside0.mk A100;clear A100
  obtain rfl:=Option.some.inj H
  go_enter Tryd.func69,Tryd.ntmps69
  go_wp2_with (first | ((with_reducible refine gate_dst (N:=2) rfl ?_);refine bxA 2 #[.int .u64 a0_0,.int .u64 a0_1] 87 ?_;intro gb180 hg w11 hbox hb;have n0_:=Aside0.mk (below_step bA hb);have n1_:=Aside0.mk (hbox);have n2_:=Aside0.mk (gwA hg bA);have n3_:=Aside0.mk (gwA hg bA);clear HB;have HB:=n0_;have BK180:=n1_;have GW180:=n2_;have GE180:=n3_;clear n0_ n1_ n2_ n3_ hb hbox hg) | ((with_reducible refine gate_dst (N:=3) rfl ?_);refine bxA 3 #[.int .u64 a1_0,.int .u64 a1_1] 87 ?_;intro gb181 hg w12 hbox hb;have n0_:=Aside0.mk (blk_below (g:=gb180) kA hb);have n1_:=Aside0.mk (below_step bA hb);have n2_:=Aside0.mk (hbox);have n3_:=Aside0.mk (gwA hg bA);have n4_:=Aside0.mk (gwA hg bA);have n5_:=Aside0.mk (neA (g:=gb180) hg kA);have n6_:=Aside0.mk (neB (g:=gb180) hg kA);clear BK180 HB;have BK180:=n0_;have HB:=n1_;have BK181:=n2_;have GW181:=n3_;have GE181:=n4_;have NB180_181:=n5_;have NB181_180:=n6_;clear n0_ n1_ n2_ n3_ n4_ n5_ n6_ hb hbox hg;have hnb13:=NB180_181.out;have hnc13:=NB181_180.out;have hcz14_0 : w12.cell? ⟨gb180,0,none⟩ = some (.int .u64 a0_0):=(blk_cell BK180.out 0).trans rfl;have hcz14_1 : w12.cell? ⟨gb180,1,none⟩ = some (.int .u64 a0_1):=(blk_cell BK180.out 1).trans rfl;have hfz14_0:=blk_frozen BK180.out 0;have hfz14_1:=blk_frozen BK180.out 1;have hcz15_0 : w12.cell? ⟨gb181,0,none⟩ = some (.int .u64 a1_0):=(blk_cell BK181.out 0).trans rfl;have hcz15_1 : w12.cell? ⟨gb181,1,none⟩ = some (.int .u64 a1_1):=(blk_cell BK181.out 1).trans rfl;have hfz15_0:=blk_frozen BK181.out 0;have hfz15_1:=blk_frozen BK181.out 1) | ((with_reducible refine gate_callee (f:=93) rfl ?_);refine goesL_ (some 14) rfl rfl Tryd.func93 (by kernel_rfl) rfl #[.int .u64 a0_0,.int .u64 a1_0] rfl aA ?_;(with_reducible refine (cmp_Compare_uint64.calls a0_0 a1_0 t183 _ A10.out).mono ?_);rintro e w' ⟨rfl,⟨nd,rfl⟩⟩;refine ⟨_,rfl,?_⟩))
  go_ret
  exact ⟨by first | rfl | (simp [errW_none,errW_some] <;> rfl) | (simp [*,errW_none,errW_some] <;> rfl),bA⟩

end Go.Proofs.YtgjjfnjnjnbfgaaDoor.GLG
namespace Go.Proofs.YtgjjfnjnjnbfgaaDoor.GLG
open Go.RowKit Go.Proofs.YtgjjfnjnjnbfgaaDoorW.PrintWords Go.Proofs.YtgjjfnjnjnbfgaaDoorW.PrintLast Go.Proofs.YtgjjfnjnjnbfgaaDoorW.PrintMore
attribute [local go_sem] max2_int min2_int max_two min_two max_three min_three max_four min_four   -- for this text's walks alone
set_option linter.unusedVariables false
set_option linter.unusedSimpArgs false
def config_asked_off.f (a0_0 : Int) (a0_1 : Int) (a0_2 : Int) (a0_3 : Int) (a0_4 : Int) (a0_5 : Int) (a0_6 : Int) (a0_7 : Int) : Option (Int):=(config_asked_bounds.f a0_0 a0_1 a0_2 a0_3 a0_4 a0_5 a0_6 a0_7).bind fun bt185 => ((wide_Times.f bt185.1 bt185.2.1 1000).bind fun bt191 => ((config_asked_bound.f a0_0 a0_1 a0_2 a0_3 a0_4 a0_5 a0_6 a0_7).bind fun t195 => ((config_asked_fairSize.f a0_0 a0_1 a0_2 a0_3 a0_4 a0_5 a0_6 a0_7).bind fun t196 => ((wide_Times.f bt185.2.2.1 bt185.2.2.2 (IntKind.u64.wrap (wrap64 ((wrap64 (a0_3 * t195)) + t196)))).bind fun bt197 => ((wide_Cmp.f bt191.1 bt191.2.1 bt197.1 bt197.2.1).bind fun t201 => (if t201 > 0 then (some 113) else (some 0)))))))
def config_asked_off.T3 : Bool × List (List Nat × List Nat):=(true,[([],[]),([],[]),([1],[1]),([2],[2]),([],[]),([4],[4]),([3,5],[3,5]),([],[]),([7,5],[7]),([6,8],[6,8]),([9],[9]),([0,10,8],[0,10]),([11],[11]),([12],[12]),([12],[12]),([],[]),([15,13,11,0,1,2,3,4,5,6,7,8,9,10,11,12,13,15],[13,15]),([14,16,0,1,2,3,4,5,6,7,8,9,10,11,12,13,14,15,16],[14])])
def config_asked_off.B3 : List Nat:=[0,0,2,6,0,16,62,0,176,510,1022,2047,4095,8191,8191,0,49151,131071]
theorem config_asked_off.tab3 : rtab .any (opsOf Tryd.f43 3) = config_asked_off.T3:=by kernel_rfl
theorem config_asked_off.bits3 : waitsOk config_asked_off.T3.2 config_asked_off.B3 = true:=by kernel_rfl
set_option maxHeartbeats 8000000 in
set_option maxRecDepth 100000 in
theorem config_asked_off.calls (a0_0 : Int) (a0_1 : Int) (a0_2 : Int) (a0_3 : Int) (a0_4 : Int) (a0_5 : Int) (a0_6 : Int) (a0_7 : Int) (r : Int) (w : World) (h : config_asked_off.f a0_0 a0_1 a0_2 a0_3 a0_4 a0_5 a0_6 a0_7 = some r) :
  Calls Tryd.prog 43 #[.agg #[.int .i64 a0_0,.int .i64 a0_1,.int .i64 a0_2,.int .i64 a0_3,.int .i64 a0_4,.int .i64 a0_5,.int .i64 a0_6,.int .i64 a0_7]] w fun e w' => e = .returned (.int .i64 r) ∧ Below w.heap.size w w':=by
 have hu77:=Tryd.underlying77
 have hu87:=Tryd.underlying87
 have HB:=Aside0.mk (Below.refl w.heap.size w)
 have H : ((config_asked_bounds.f a0_0 a0_1 a0_2 a0_3 a0_4 a0_5 a0_6 a0_7).bind fun bt185 => ((wide_Times.f bt185.1 bt185.2.1 1000).bind fun bt191 => ((config_asked_bound.f a0_0 a0_1 a0_2 a0_3 a0_4 a0_5 a0_6 a0_7).bind fun t195 => ((config_asked_fairSize.f a0_0 a0_1 a0_2 a0_3 a0_4 a0_5 a0_6 a0_7).bind fun t196 => ((wide_Times.f bt185.2.2.1 bt185.2.2.2 (IntKind.u64.wrap (wrap64 ((wrap64 (a0_3 * t195)) + t196)))).bind fun bt197 => ((wide_Cmp.f bt191.1 bt191.2.1 bt197.1 bt197.2.1).bind fun t201 => (if t201 > 0 then (some 113) else (some 0)))))))) = some r:=h
 clear h;replace H:=Option.bind_eq_some_iff.mp H;obtain ⟨⟨t185,t186,t187,t188⟩,A20,H⟩:=H;replace H : ((wide_Times.f t185 t186 1000).bind fun bt191 => ((config_asked_bound.f a0_0 a0_1 a0_2 a0_3 a0_4 a0_5 a0_6 a0_7).bind fun t195 => ((config_asked_fairSize.f a0_0 a0_1 a0_2 a0_3 a0_4 a0_5 a0_6 a0_7).bind fun t196 => ((wide_Times.f t187 t188 (IntKind.u64.wrap (wrap64 ((wrap64 (a0_3 * t195)) + t196)))).bind fun bt197 => ((wide_Cmp.f bt191.1 bt191.2.1 bt197.1 bt197.2.1).bind fun t201 => (if t201 > 0 then (some 113) else (some 0))))))) = some r:=H;have A2:=Aside0.mk A20;clear A20;replace H:=Option.bind_eq_some_iff.mp H;obtain ⟨⟨t191,t192,t193⟩,A30,H⟩:=H;replace H : ((config_asked_bound.f a0_0 a0_1 a0_2 a0_3 a0_4 a0_5 a0_6 a0_7).bind fun t195 => ((config_asked_fairSize.f a0_0 a0_1 a0_2 a0_3 a0_4 a0_5 a0_6 a0_7).bind fun t196 => ((wide_Times.f t187 t188 (IntKind.u64.wrap (wrap64 ((wrap64 (a0_3 * t195)) + t196)))).bind fun bt197 => ((wide_Cmp.f t191 t192 bt197.1 bt197.2.1).bind fun t201 => (if t201 > 0 then (some 113) else (some 0)))))) = some r:=H;have A3:=Aside0.mk A30;clear A30;replace H:=Option.bind_eq_some_iff.mp H;obtain ⟨t195,A40,H⟩:=H;replace H : ((config_asked_fairSize.f a0_0 a0_1 a0_2 a0_3 a0_4 a0_5 a0_6 a0_7).bind fun t196 => ((wide_Times.f t187 t188 (IntKind.u64.wrap (wrap64 ((wrap64 (a0_3 * t195)) + t196)))).bind fun bt197 => ((wide_Cmp.f t191 t192 bt197.1 bt197.2.1).bind fun t201 => (if t201 > 0 then (some 113) else (some 0))))) = some r:=H;have A4:=Aside0.mk A40;clear A40;replace H:=Option.bind_eq_some_iff.mp H;obtain ⟨t196,A50,H⟩:=H;replace H : ((wide_Times.f t187 t188 (IntKind.u64.wrap (wrap64 ((wrap64 (a0_3 * t195)) + t196)))).bind fun bt197 => ((wide_Cmp.f t191 t192 bt197.1 bt197.2.1).bind fun t201 => (if t201 > 0 then (some 113) else (some 0)))) = some r:=H;have A5:=Aside0.mk A50;clear A50;replace H:=Option.bind_eq_some_iff.mp H;obtain ⟨⟨t197,t198,t199⟩,A60,H⟩:=H;replace H : ((wide_Cmp.f t191 t192 t197 t198).bind fun t201 => (if t201 > 0 then (some 113) else (some 0))) = some r:=H;have A6:=Aside0.mk A60;clear A60;replace H:=Option.bind_eq_some_iff.mp H;obtain ⟨t201,A70,H⟩:=H;replace H : (if t201 > 0 then (some 113) else (some 0)) = some r:=H;have A7:=Aside0.mk A70;clear A70
 go_enter Tryd.func43,Tryd.ntmps43
 try go_wp2_with (first | ((with_reducible refine gate_dst (N:=1) rfl ?_);refine bxA 1 #[.int .i64 a0_0,.int .i64 a0_1,.int .i64 a0_2,.int .i64 a0_3,.int .i64 a0_4,.int .i64 a0_5,.int .i64 a0_6,.int .i64 a0_7] 77 ?_;intro gb184 hg w9 hbox hb;have n0_:=Aside0.mk (below_step bA hb);have n1_:=Aside0.mk (hbox);have n2_:=Aside0.mk (gwA hg bA);have n3_:=Aside0.mk (gwA hg bA);clear HB;have HB:=n0_;have BK184:=n1_;have GW184:=n2_;have GE184:=n3_;clear n0_ n1_ n2_ n3_ hb hbox hg;have hcz10_0 : w9.cell? ⟨gb184,0,none⟩ = some (.int .i64 a0_0):=(blk_cell BK184.out 0).trans rfl;have hcz10_1 : w9.cell? ⟨gb184,1,none⟩ = some (.int .i64 a0_1):=(blk_cell BK184.out 1).trans rfl;have hcz10_2 : w9.cell? ⟨gb184,2,none⟩ = some (.int .i64 a0_2):=(blk_cell BK184.out 2).trans rfl;have hcz10_3 : w9.cell? ⟨gb184,3,none⟩ = some (.int .i64 a0_3):=(blk_cell BK184.out 3).trans rfl;have hcz10_4 : w9.cell? ⟨gb184,4,none⟩ = some (.int .i64 a0_4):=(blk_cell BK184.out 4).trans rfl;have hcz10_5 : w9.cell? ⟨gb184,5,none⟩ = some (.int .i64 a0_5):=(blk_cell BK184.out 5).trans rfl;have hcz10_6 : w9.cell? ⟨gb184,6,none⟩ = some (.int .i64 a0_6):=(blk_cell BK184.out 6).trans rfl;have hcz10_7 : w9.cell? ⟨gb184,7,none⟩ = some (.int .i64 a0_7):=(blk_cell BK184.out 7).trans rfl;have hfz10_0:=blk_frozen BK184.out 0;have hfz10_1:=blk_frozen BK184.out 1;have hfz10_2:=blk_frozen BK184.out 2;have hfz10_3:=blk_frozen BK184.out 3;have hfz10_4:=blk_frozen BK184.out 4;have hfz10_5:=blk_frozen BK184.out 5;have hfz10_6:=blk_frozen BK184.out 6;have hfz10_7:=blk_frozen BK184.out 7) | ((with_reducible refine gate_callee (f:=66) rfl ?_);refine goesL_ (some 11) rfl rfl Tryd.func66 (by kernel_rfl) rfl #[.agg #[.int .i64 a0_0,.int .i64 a0_1,.int .i64 a0_2,.int .i64 a0_3,.int .i64 a0_4,.int .i64 a0_5,.int .i64 a0_6,.int .i64 a0_7]] rfl aA ?_;(with_reducible refine (config_asked_bounds.calls a0_0 a0_1 a0_2 a0_3 a0_4 a0_5 a0_6 a0_7 t185 t186 t187 t188 _ A2.out).mono ?_);rintro e w11 ⟨rfl,hb⟩;refine ⟨_,rfl,?_⟩;have n0_:=Aside0.mk (blk_below (g:=gb184) kA hb);have n1_:=Aside0.mk (below_step bA hb);clear BK184 HB;have BK184:=n0_;have HB:=n1_;clear n0_ n1_;(try clear hb)) | ((with_reducible refine gate_dst (N:=3) rfl ?_);refine bxA 3 #[.int .u64 0,.int .u64 0] 87 ?_;intro gb189 hg w12 hbox hb;have n0_:=Aside0.mk (blk_below (g:=gb184) kA hb);have n1_:=Aside0.mk (below_step bA hb);have n2_:=Aside0.mk (hbox);have n3_:=Aside0.mk (gwA hg bA);have n4_:=Aside0.mk (gwA hg bA);have n5_:=Aside0.mk (neA (g:=gb184) hg kA);have n6_:=Aside0.mk (neB (g:=gb184) hg kA);clear BK184 HB;have BK184:=n0_;have HB:=n1_;have BK189:=n2_;have GW189:=n3_;have GE189:=n4_;have NB184_189:=n5_;have NB189_184:=n6_;clear n0_ n1_ n2_ n3_ n4_ n5_ n6_ hb hbox hg) | ((with_reducible refine gate_dst (N:=4) rfl ?_);refine bxA 4 #[.int .u64 0,.int .u64 0] 87 ?_;intro gb190 hg w13 hbox hb;have n0_:=Aside0.mk (blk_below (g:=gb184) kA hb);have n1_:=Aside0.mk (blk_below (g:=gb189) kA hb);have n2_:=Aside0.mk (below_step bA hb);have n3_:=Aside0.mk (hbox);have n4_:=Aside0.mk (gwA hg bA);have n5_:=Aside0.mk (gwA hg bA);have n6_:=Aside0.mk (neA (g:=gb184) hg kA);have n7_:=Aside0.mk (neB (g:=gb184) hg kA);have n8_:=Aside0.mk (neA (g:=gb189) hg kA);have n9_:=Aside0.mk (neB (g:=gb189) hg kA);clear BK184 BK189 HB;have BK184:=n0_;have BK189:=n1_;have HB:=n2_;have BK190:=n3_;have GW190:=n4_;have GE190:=n5_;have NB184_190:=n6_;have NB190_184:=n7_;have NB189_190:=n8_;have NB190_189:=n9_;clear n0_ n1_ n2_ n3_ n4_ n5_ n6_ n7_ n8_ n9_ hb hbox hg;have hnb14:=NB189_184.out;have hnc14:=NB184_189.out;have hnb15:=NB189_190.out;have hnc15:=NB190_189.out;have hcz16_0 : w13.cell? ⟨gb189,0,none⟩ = some (.int .u64 0):=(blk_cell BK189.out 0).trans rfl;have hcz16_1 : w13.cell? ⟨gb189,1,none⟩ = some (.int .u64 0):=(blk_cell BK189.out 1).trans rfl;have hfz16_0:=blk_frozen BK189.out 0;have hfz16_1:=blk_frozen BK189.out 1;have hnb17:=NB190_184.out;have hnc17:=NB184_190.out;have hcz18_0 : w13.cell? ⟨gb190,0,none⟩ = some (.int .u64 0):=(blk_cell BK190.out 0).trans rfl;have hcz18_1 : w13.cell? ⟨gb190,1,none⟩ = some (.int .u64 0):=(blk_cell BK190.out 1).trans rfl;have hfz18_0:=blk_frozen BK190.out 0;have hfz18_1:=blk_frozen BK190.out 1) | ((with_reducible refine gate_callee (f:=67) rfl ?_);refine goesL_ (some 16) rfl rfl Tryd.func67 (by kernel_rfl) rfl #[.agg #[.int .u64 t185,.int .u64 t186],.int .u64 1000] rfl aA ?_;(with_reducible refine (wide_Times.calls t185 t186 1000 t191 t192 t193 _ A3.out).mono ?_);rintro e w19 ⟨rfl,hb⟩;refine ⟨_,rfl,?_⟩;have n0_:=Aside0.mk (blk_below (g:=gb184) (o:=.cells #[.int .i64 a0_0,.int .i64 a0_1,.int .i64 a0_2,.int .i64 a0_3,.int .i64 a0_4,.int .i64 a0_5,.int .i64 a0_6,.int .i64 a0_7] 77 (0,0)) (by (with_reducible repeat (first | refine blk_drewN ?_ _ | refine blk_drew ?_ | refine blk_alloc ?_ _));refine blk_far ?_ NB184_190.out _;(with_reducible repeat (first | refine blk_drewN ?_ _ | refine blk_drew ?_ | refine blk_alloc ?_ _));refine blk_far ?_ NB184_190.out _;(with_reducible repeat (first | refine blk_drewN ?_ _ | refine blk_drew ?_ | refine blk_alloc ?_ _));refine blk_far ?_ NB184_189.out _;(with_reducible repeat (first | refine blk_drewN ?_ _ | refine blk_drew ?_ | refine blk_alloc ?_ _));refine blk_far ?_ NB184_189.out _;exact kA) hb);have n1_:=Aside0.mk (blk_below (g:=gb189) (o:=.cells #[.int .u64 t185,.int .u64 t186] 87 (0,0)) (by (with_reducible repeat (first | refine blk_drewN ?_ _ | refine blk_drew ?_ | refine blk_alloc ?_ _));refine blk_far ?_ NB189_190.out _;(with_reducible repeat (first | refine blk_drewN ?_ _ | refine blk_drew ?_ | refine blk_alloc ?_ _));refine blk_far ?_ NB189_190.out _;(with_reducible repeat (first | refine blk_drewN ?_ _ | refine blk_drew ?_ | refine blk_alloc ?_ _));refine blk_put (cs:=#[.int .u64 t185,.int .u64 0]) ?_ 1 _ rfl;(with_reducible repeat (first | refine blk_drewN ?_ _ | refine blk_drew ?_ | refine blk_alloc ?_ _));refine blk_put (cs:=#[.int .u64 0,.int .u64 0]) ?_ 0 _ rfl;exact kA) hb);have n2_:=Aside0.mk (blk_below (g:=gb190) (o:=.cells #[.int .u64 t187,.int .u64 t188] 87 (0,0)) (by (with_reducible repeat (first | refine blk_drewN ?_ _ | refine blk_drew ?_ | refine blk_alloc ?_ _));refine blk_put (cs:=#[.int .u64 t187,.int .u64 0]) ?_ 1 _ rfl;(with_reducible repeat (first | refine blk_drewN ?_ _ | refine blk_drew ?_ | refine blk_alloc ?_ _));refine blk_put (cs:=#[.int .u64 0,.int .u64 0]) ?_ 0 _ rfl;(with_reducible repeat (first | refine blk_drewN ?_ _ | refine blk_drew ?_ | refine blk_alloc ?_ _));refine blk_far ?_ NB190_189.out _;(with_reducible repeat (first | refine blk_drewN ?_ _ | refine blk_drew ?_ | refine blk_alloc ?_ _));refine blk_far ?_ NB190_189.out _;exact kA) hb);have n3_:=Aside0.mk (below_step bA hb);clear BK184 BK189 BK190 HB;have BK184:=n0_;have BK189:=n1_;have BK190:=n2_;have HB:=n3_;clear n0_ n1_ n2_ n3_;(try clear hb)) | ((with_reducible refine gate_dst (N:=5) rfl ?_);refine bxA 5 #[.int .u64 0,.int .u64 0] 87 ?_;intro gb194 hg w20 hbox hb;have n0_:=Aside0.mk (blk_below (g:=gb184) kA hb);have n1_:=Aside0.mk (blk_below (g:=gb189) kA hb);have n2_:=Aside0.mk (blk_below (g:=gb190) kA hb);have n3_:=Aside0.mk (below_step bA hb);have n4_:=Aside0.mk (hbox);have n5_:=Aside0.mk (gwA hg bA);have n6_:=Aside0.mk (gwA hg bA);have n7_:=Aside0.mk (neA (g:=gb184) hg kA);have n8_:=Aside0.mk (neB (g:=gb184) hg kA);have n9_:=Aside0.mk (neA (g:=gb189) hg kA);have n10_:=Aside0.mk (neB (g:=gb189) hg kA);have n11_:=Aside0.mk (neA (g:=gb190) hg kA);have n12_:=Aside0.mk (neB (g:=gb190) hg kA);clear BK184 BK189 BK190 HB;have BK184:=n0_;have BK189:=n1_;have BK190:=n2_;have HB:=n3_;have BK194:=n4_;have GW194:=n5_;have GE194:=n6_;have NB184_194:=n7_;have NB194_184:=n8_;have NB189_194:=n9_;have NB194_189:=n10_;have NB190_194:=n11_;have NB194_190:=n12_;clear n0_ n1_ n2_ n3_ n4_ n5_ n6_ n7_ n8_ n9_ n10_ n11_ n12_ hb hbox hg;have hnb21:=NB194_184.out;have hnc21:=NB184_194.out;have hnb22:=NB194_189.out;have hnc22:=NB189_194.out;have hnb23:=NB194_190.out;have hnc23:=NB190_194.out;have hcz24_0 : w20.cell? ⟨gb194,0,none⟩ = some (.int .u64 0):=(blk_cell BK194.out 0).trans rfl;have hcz24_1 : w20.cell? ⟨gb194,1,none⟩ = some (.int .u64 0):=(blk_cell BK194.out 1).trans rfl;have hfz24_0:=blk_frozen BK194.out 0;have hfz24_1:=blk_frozen BK194.out 1))
 have n0_ : Aside0 (((w20.setCell ⟨gb194,0,none⟩ (.int .u64 t191)).setCell ⟨gb194,1,none⟩ (.int .u64 t192)).heap[gb184]? = some (.cells #[.int .i64 a0_0,.int .i64 a0_1,.int .i64 a0_2,.int .i64 a0_3,.int .i64 a0_4,.int .i64 a0_5,.int .i64 a0_6,.int .i64 a0_7] 77 (0,0))):=⟨by (with_reducible repeat (first | refine blk_drewN ?_ _ | refine blk_drew ?_ | refine blk_alloc ?_ _));refine blk_far ?_ NB184_194.out _;(with_reducible repeat (first | refine blk_drewN ?_ _ | refine blk_drew ?_ | refine blk_alloc ?_ _));refine blk_far ?_ NB184_194.out _;exact kA⟩
 have n1_ : Aside0 (((w20.setCell ⟨gb194,0,none⟩ (.int .u64 t191)).setCell ⟨gb194,1,none⟩ (.int .u64 t192)).heap[gb189]? = some (.cells #[.int .u64 t185,.int .u64 t186] 87 (0,0))):=⟨by (with_reducible repeat (first | refine blk_drewN ?_ _ | refine blk_drew ?_ | refine blk_alloc ?_ _));refine blk_far ?_ NB189_194.out _;(with_reducible repeat (first | refine blk_drewN ?_ _ | refine blk_drew ?_ | refine blk_alloc ?_ _));refine blk_far ?_ NB189_194.out _;exact kA⟩
 have n2_ : Aside0 (((w20.setCell ⟨gb194,0,none⟩ (.int .u64 t191)).setCell ⟨gb194,1,none⟩ (.int .u64 t192)).heap[gb190]? = some (.cells #[.int .u64 t187,.int .u64 t188] 87 (0,0))):=⟨by (with_reducible repeat (first | refine blk_drewN ?_ _ | refine blk_drew ?_ | refine blk_alloc ?_ _));refine blk_far ?_ NB190_194.out _;(with_reducible repeat (first | refine blk_drewN ?_ _ | refine blk_drew ?_ | refine blk_alloc ?_ _));refine blk_far ?_ NB190_194.out _;exact kA⟩
 have n3_ : Aside0 (((w20.setCell ⟨gb194,0,none⟩ (.int .u64 t191)).setCell ⟨gb194,1,none⟩ (.int .u64 t192)).heap[gb194]? = some (.cells #[.int .u64 t191,.int .u64 t192] 87 (0,0))):=⟨by (with_reducible repeat (first | refine blk_drewN ?_ _ | refine blk_drew ?_ | refine blk_alloc ?_ _));refine blk_put (cs:=#[.int .u64 t191,.int .u64 0]) ?_ 1 _ rfl;(with_reducible repeat (first | refine blk_drewN ?_ _ | refine blk_drew ?_ | refine blk_alloc ?_ _));refine blk_put (cs:=#[.int .u64 0,.int .u64 0]) ?_ 0 _ rfl;exact kA⟩
 have n4_ : Aside0 (Below w.heap.size w ((w20.setCell ⟨gb194,0,none⟩ (.int .u64 t191)).setCell ⟨gb194,1,none⟩ (.int .u64 t192))):=⟨bA⟩
 (try clear BK184);(try clear BK189);(try clear BK190);(try clear BK194);(try clear HB)
 generalize ((w20.setCell ⟨gb194,0,none⟩ (.int .u64 t191)).setCell ⟨gb194,1,none⟩ (.int .u64 t192)) = w25 at n0_ n1_ n2_ n3_ n4_ ⊢
 have BK184:=n0_;have BK189:=n1_;have BK190:=n2_;have BK194:=n3_;have HB:=n4_;clear n0_ n1_ n2_ n3_ n4_;have n0_:=Aside0.mk (blk_drew BK184.out);have n1_:=Aside0.mk (blk_drew BK189.out);have n2_:=Aside0.mk (blk_drew BK190.out);have n3_:=Aside0.mk (blk_drew BK194.out);have n4_:=Aside0.mk (below_drew1 HB.out);clear BK184 BK189 BK190 BK194 HB;have BK184:=n0_;have BK189:=n1_;have BK190:=n2_;have BK194:=n3_;have HB:=n4_;clear n0_ n1_ n2_ n3_ n4_
 refine start_ (n:=18) (S:=fun w' => w'.cell? ⟨gb190,0,none⟩ = some (.int .u64 t187) ∧ w'.cell? ⟨gb190,1,none⟩ = some (.int .u64 t188) ∧ w'.cell? ⟨gb184,0,none⟩ = some (.int .i64 a0_0) ∧ w'.cell? ⟨gb184,1,none⟩ = some (.int .i64 a0_1) ∧ w'.cell? ⟨gb184,2,none⟩ = some (.int .i64 a0_2) ∧ w'.cell? ⟨gb184,3,none⟩ = some (.int .i64 a0_3) ∧ w'.cell? ⟨gb184,4,none⟩ = some (.int .i64 a0_4) ∧ w'.cell? ⟨gb184,5,none⟩ = some (.int .i64 a0_5) ∧ w'.cell? ⟨gb184,6,none⟩ = some (.int .i64 a0_6) ∧ w'.cell? ⟨gb184,7,none⟩ = some (.int .i64 a0_7)) (ds:=[]) #[false,false,false,false,false,false,false,false,false,false,false,false,false,false,false,false,false,false] (by kernel_rfl) rfl rfl ⟨(blk_cell BK190.out 0).trans rfl,(blk_cell BK190.out 1).trans rfl,(blk_cell BK184.out 0).trans rfl,(blk_cell BK184.out 1).trans rfl,(blk_cell BK184.out 2).trans rfl,(blk_cell BK184.out 3).trans rfl,(blk_cell BK184.out 4).trans rfl,(blk_cell BK184.out 5).trans rfl,(blk_cell BK184.out 6).trans rfl,(blk_cell BK184.out 7).trans rfl⟩ (fun hHeld => ?_);refine with_tabW config_asked_off.tab3 config_asked_off.bits3 (fun HT_ HW_ => ?_)
 generalize w25.drew = w26 at BK184 BK189 BK190 BK194 HB hHeld ⊢
 refine pure_ (i:=1) (N:=some 21) (v:=?_) (a':=?_) #[false,true,false,false,false,false,false,false,false,false,false,false,false,false,false,false,false,false] rfl rfl (any_of HT_.out (by kernel_rfl)) (fun _ _ _ h => h) (Or.inl ⟨by rfl,?_⟩) ?_ ?_
 rotate_left
 ·intro w'
  go_simp;with_reducible rfl
 rotate_left
 ·simp only [Act.put,List.setIfInBounds_toArray,List.set_cons_zero,List.set_cons_succ,i64_w,i32_w]
  rfl
 refine pure_ (i:=2) (N:=some 22) (v:=?_) (a':=?_) #[false,true,true,false,false,false,false,false,false,false,false,false,false,false,false,false,false,false] rfl rfl (any_of HT_.out (by kernel_rfl)) (fun _ _ _ h => h) (Or.inl ⟨by rfl,?_⟩) ?_ ?_
 rotate_left
 ·intro w'
  go_simp;with_reducible rfl
 rotate_left
 ·simp only [Act.put,List.setIfInBounds_toArray,List.set_cons_zero,List.set_cons_succ,i64_w,i32_w]
  rfl
 refine take_ (i:=0) (N:=some 20) (v:=?_) (a':=?_) #[true,true,true,false,false,false,false,false,false,false,false,false,false,false,false,false,false,false] rfl rfl (take_ofW HT_.out HW_.out (by kernel_rfl)) (fun _ _ _ h => h) (Or.inl ⟨by rfl,?_⟩) hHeld ?_ ?_
 rotate_left
 ·rintro w' ⟨s0,s1,s2,s3,s4,s5,s6,s7,s8,s9⟩
  go_simp;with_reducible rfl
 rotate_left
 ·simp only [Act.put,List.setIfInBounds_toArray,List.set_cons_zero,List.set_cons_succ,i64_w,i32_w]
  rfl
 refine take_ (i:=3) (N:=some 23) (v:=?_) (a':=?_) #[true,true,true,true,false,false,false,false,false,false,false,false,false,false,false,false,false,false] rfl rfl (take_ofW HT_.out HW_.out (by kernel_rfl)) (fun _ _ _ h => h) (Or.inl ⟨by rfl,?_⟩) hHeld ?_ ?_
 rotate_left
 ·rintro w' ⟨s0,s1,s2,s3,s4,s5,s6,s7,s8,s9⟩
  go_simp;with_reducible rfl
 rotate_left
 ·simp only [Act.put,List.setIfInBounds_toArray,List.set_cons_zero,List.set_cons_succ,i64_w,i32_w]
  rfl
 refine take_ (i:=4) (N:=some 24) (v:=?_) (a':=?_) #[true,true,true,true,true,false,false,false,false,false,false,false,false,false,false,false,false,false] rfl rfl (take_ofW HT_.out HW_.out (by kernel_rfl)) (fun _ _ _ h => h) (Or.inl ⟨by rfl,?_⟩) hHeld ?_ ?_
 rotate_left
 ·rintro w' ⟨s0,s1,s2,s3,s4,s5,s6,s7,s8,s9⟩
  go_simp;with_reducible rfl
 rotate_left
 ·simp only [Act.put,List.setIfInBounds_toArray,List.set_cons_zero,List.set_cons_succ,i64_w,i32_w]
  rfl
 refine take_ (i:=7) (N:=some 27) (v:=?_) (a':=?_) #[true,true,true,true,true,false,false,true,false,false,false,false,false,false,false,false,false,false] rfl rfl (take_ofW HT_.out HW_.out (by kernel_rfl)) (fun _ _ _ h => h) (Or.inl ⟨by rfl,?_⟩) hHeld ?_ ?_
 rotate_left
 ·rintro w' ⟨s0,s1,s2,s3,s4,s5,s6,s7,s8,s9⟩
  go_simp;with_reducible rfl
 rotate_left
 ·simp only [Act.put,List.setIfInBounds_toArray,List.set_cons_zero,List.set_cons_succ,i64_w,i32_w]
  rfl
 refine join_ (σ:=Nat) 2 #[true,true,true,true,true,true,true,true,true,true,true,true,true,true,true,true,false,false] (fun s_ => [(25,.int .i64 t195),(28,.int .i64 t196),(31,.tuple #[.agg #[.int .u64 t197,.int .u64 t198],.bool t199]),(7,.pointer (some ⟨s_,0,none⟩)),(26,.int .i64 (wrap64 (a0_3 * t195))),(29,.int .i64 (wrap64 ((wrap64 (a0_3 * t195)) + t196))),(30,.int .u64 (IntKind.u64.wrap (wrap64 ((wrap64 (a0_3 * t195)) + t196)))),(19,.tuple #[.agg #[.int .u64 t197,.int .u64 t198],.bool t199]),(32,.agg #[.int .u64 t197,.int .u64 t198]),(33,.bool t199)]) (fun s_ w' => (w'.cell? ⟨gb190,0,none⟩ = some (.int .u64 t187) ∧ w'.cell? ⟨gb190,1,none⟩ = some (.int .u64 t188) ∧ w'.cell? ⟨gb184,0,none⟩ = some (.int .i64 a0_0) ∧ w'.cell? ⟨gb184,1,none⟩ = some (.int .i64 a0_1) ∧ w'.cell? ⟨gb184,2,none⟩ = some (.int .i64 a0_2) ∧ w'.cell? ⟨gb184,3,none⟩ = some (.int .i64 a0_3) ∧ w'.cell? ⟨gb184,4,none⟩ = some (.int .i64 a0_4) ∧ w'.cell? ⟨gb184,5,none⟩ = some (.int .i64 a0_5) ∧ w'.cell? ⟨gb184,6,none⟩ = some (.int .i64 a0_6) ∧ w'.cell? ⟨gb184,7,none⟩ = some (.int .i64 a0_7)) ∧ (w'.heap[gb184]? = some (.cells #[.int .i64 a0_0,.int .i64 a0_1,.int .i64 a0_2,.int .i64 a0_3,.int .i64 a0_4,.int .i64 a0_5,.int .i64 a0_6,.int .i64 a0_7] 77 (0,0))) ∧ (w'.heap[gb189]? = some (.cells #[.int .u64 t185,.int .u64 t186] 87 (0,0))) ∧ (w'.heap[gb190]? = some (.cells #[.int .u64 t187,.int .u64 t188] 87 (0,0))) ∧ (w'.heap[gb194]? = some (.cells #[.int .u64 t191,.int .u64 t192] 87 (0,0))) ∧ (w'.heap[s_]? = some (.cells #[.int .u64 0,.int .u64 0] 87 (0,0))) ∧ (w.heap.size ≤ s_) ∧ (w.heap.size ≤ s_) ∧ (gb184 ≠ s_) ∧ (s_ ≠ gb184) ∧ (gb189 ≠ s_) ∧ (s_ ≠ gb189) ∧ (gb190 ≠ s_) ∧ (s_ ≠ gb190) ∧ (gb194 ≠ s_) ∧ (s_ ≠ gb194) ∧ (Below w.heap.size w w')) ?_ ?_
 rotate_left
 ·intro hCont
  refine two_ (i:=5) (j:=15) (Ni:=some 25) (Nj:=some 7) #[true,true,true,true,true,true,false,true,false,false,false,false,false,false,false,false,false,false] #[true,true,true,true,true,false,false,true,false,false,false,false,false,false,false,true,false,false] rfl rfl rfl rfl (two_of HT_.out (by kernel_rfl)) (by decide) (by decide) (fun K hK => ?_) (fun K hK => ?_)
  ·skip
   refine goes_ Tryd.func68 (by kernel_rfl) rfl #[.agg #[.int .i64 a0_0,.int .i64 a0_1,.int .i64 a0_2,.int .i64 a0_3,.int .i64 a0_4,.int .i64 a0_5,.int .i64 a0_6,.int .i64 a0_7]] (by rfl) rfl rfl aA ?_
   with_reducible refine (config_asked_bound.calls a0_0 a0_1 a0_2 a0_3 a0_4 a0_5 a0_6 a0_7 t195 _ A4.out).mono ?_
   rintro e w27 ⟨rfl,hb⟩
   refine ⟨_,rfl,?_⟩;have n0_:=Aside0.mk (blk_below (g:=gb184) kA hb);have n1_:=Aside0.mk (blk_below (g:=gb189) kA hb);have n2_:=Aside0.mk (blk_below (g:=gb190) kA hb);have n3_:=Aside0.mk (blk_below (g:=gb194) kA hb);have n4_:=Aside0.mk (below_step bA hb);clear BK184 BK189 BK190 BK194 HB;have BK184:=n0_;have BK189:=n1_;have BK190:=n2_;have BK194:=n3_;have HB:=n4_;clear n0_ n1_ n2_ n3_ n4_;(try clear hb)
   refine hK.out _ _ ⟨(blk_cell BK190.out 0).trans rfl,(blk_cell BK190.out 1).trans rfl,(blk_cell BK184.out 0).trans rfl,(blk_cell BK184.out 1).trans rfl,(blk_cell BK184.out 2).trans rfl,(blk_cell BK184.out 3).trans rfl,(blk_cell BK184.out 4).trans rfl,(blk_cell BK184.out 5).trans rfl,(blk_cell BK184.out 6).trans rfl,(blk_cell BK184.out 7).trans rfl⟩ (fun hHeld => ?_)
   clear hK K
   refine norm_ (a':=?_) ?_ ?_
   rotate_left
   ·show Act.put _ (some 25) _ = _
    simp only [Act.put,List.setIfInBounds_toArray,List.set_cons_zero,List.set_cons_succ,i64_w,i32_w]
    rfl
   refine pure_ (i:=6) (N:=some 26) (v:=?_) (a':=?_) #[true,true,true,true,true,true,true,true,false,false,false,false,false,false,false,false,false,false] rfl rfl (any_of HT_.out (by kernel_rfl)) (fun _ _ _ h => h) (Or.inl ⟨by rfl,?_⟩) ?_ ?_
   rotate_left
   ·intro w'
    go_simp;with_reducible rfl
   rotate_left
   ·simp only [Act.put,List.setIfInBounds_toArray,List.set_cons_zero,List.set_cons_succ,i64_w,i32_w]
    rfl
   refine two_ (i:=8) (j:=15) (Ni:=some 28) (Nj:=some 7) #[true,true,true,true,true,true,true,true,true,false,false,false,false,false,false,false,false,false] #[true,true,true,true,true,true,true,true,false,false,false,false,false,false,false,true,false,false] rfl rfl rfl rfl (two_of HT_.out (by kernel_rfl)) (by decide) (by decide) (fun K hK => ?_) (fun K hK => ?_)
   ·skip
    refine goes_ Tryd.func65 (by kernel_rfl) rfl #[.agg #[.int .i64 a0_0,.int .i64 a0_1,.int .i64 a0_2,.int .i64 a0_3,.int .i64 a0_4,.int .i64 a0_5,.int .i64 a0_6,.int .i64 a0_7]] (by rfl) rfl rfl aA ?_
    with_reducible refine (config_asked_fairSize.calls a0_0 a0_1 a0_2 a0_3 a0_4 a0_5 a0_6 a0_7 t196 _ A5.out).mono ?_
    rintro e w28 ⟨rfl,hb⟩
    refine ⟨_,rfl,?_⟩;have n0_:=Aside0.mk (blk_below (g:=gb184) kA hb);have n1_:=Aside0.mk (blk_below (g:=gb189) kA hb);have n2_:=Aside0.mk (blk_below (g:=gb190) kA hb);have n3_:=Aside0.mk (blk_below (g:=gb194) kA hb);have n4_:=Aside0.mk (below_step bA hb);clear BK184 BK189 BK190 BK194 HB;have BK184:=n0_;have BK189:=n1_;have BK190:=n2_;have BK194:=n3_;have HB:=n4_;clear n0_ n1_ n2_ n3_ n4_;(try clear hb)
    refine hK.out _ _ ⟨(blk_cell BK190.out 0).trans rfl,(blk_cell BK190.out 1).trans rfl,(blk_cell BK184.out 0).trans rfl,(blk_cell BK184.out 1).trans rfl,(blk_cell BK184.out 2).trans rfl,(blk_cell BK184.out 3).trans rfl,(blk_cell BK184.out 4).trans rfl,(blk_cell BK184.out 5).trans rfl,(blk_cell BK184.out 6).trans rfl,(blk_cell BK184.out 7).trans rfl⟩ (fun hHeld => ?_)
    clear hK K
    refine norm_ (a':=?_) ?_ ?_
    rotate_left
    ·show Act.put _ (some 28) _ = _
     simp only [Act.put,List.setIfInBounds_toArray,List.set_cons_zero,List.set_cons_succ,i64_w,i32_w]
     rfl
    refine pure_ (i:=9) (N:=some 29) (v:=?_) (a':=?_) #[true,true,true,true,true,true,true,true,true,true,false,false,false,false,false,false,false,false] rfl rfl (any_of HT_.out (by kernel_rfl)) (fun _ _ _ h => h) (Or.inl ⟨by rfl,?_⟩) ?_ ?_
    rotate_left
    ·intro w'
     go_simp;with_reducible rfl
    rotate_left
    ·simp only [Act.put,List.setIfInBounds_toArray,List.set_cons_zero,List.set_cons_succ,i64_w,i32_w]
     rfl
    refine pure_ (i:=10) (N:=some 30) (v:=?_) (a':=?_) #[true,true,true,true,true,true,true,true,true,true,true,false,false,false,false,false,false,false] rfl rfl (any_of HT_.out (by kernel_rfl)) (fun _ _ _ h => h) (Or.inl ⟨by rfl,?_⟩) ?_ ?_
    rotate_left
    ·intro w'
     go_simp;with_reducible rfl
    rotate_left
    ·simp only [Act.put,List.setIfInBounds_toArray,List.set_cons_zero,List.set_cons_succ,i64_w,i32_w]
     rfl
    refine two_ (i:=11) (j:=15) (Ni:=some 31) (Nj:=some 7) #[true,true,true,true,true,true,true,true,true,true,true,true,false,false,false,false,false,false] #[true,true,true,true,true,true,true,true,true,true,true,false,false,false,false,true,false,false] rfl rfl rfl rfl (two_of HT_.out (by kernel_rfl)) (by decide) (by decide) (fun K hK => ?_) (fun K hK => ?_)
    ·skip
     refine goes_ Tryd.func67 (by kernel_rfl) rfl #[.agg #[.int .u64 t187,.int .u64 t188],.int .u64 (IntKind.u64.wrap (wrap64 ((wrap64 (a0_3 * t195)) + t196)))] (by rfl) rfl rfl aA ?_
     with_reducible refine (wide_Times.calls t187 t188 (IntKind.u64.wrap (wrap64 ((wrap64 (a0_3 * t195)) + t196))) t197 t198 t199 _ A6.out).mono ?_
     rintro e w29 ⟨rfl,hb⟩
     refine ⟨_,rfl,?_⟩;have n0_:=Aside0.mk (blk_below (g:=gb184) kA hb);have n1_:=Aside0.mk (blk_below (g:=gb189) kA hb);have n2_:=Aside0.mk (blk_below (g:=gb190) kA hb);have n3_:=Aside0.mk (blk_below (g:=gb194) kA hb);have n4_:=Aside0.mk (below_step bA hb);clear BK184 BK189 BK190 BK194 HB;have BK184:=n0_;have BK189:=n1_;have BK190:=n2_;have BK194:=n3_;have HB:=n4_;clear n0_ n1_ n2_ n3_ n4_;(try clear hb)
     refine hK.out _ _ ⟨(blk_cell BK190.out 0).trans rfl,(blk_cell BK190.out 1).trans rfl,(blk_cell BK184.out 0).trans rfl,(blk_cell BK184.out 1).trans rfl,(blk_cell BK184.out 2).trans rfl,(blk_cell BK184.out 3).trans rfl,(blk_cell BK184.out 4).trans rfl,(blk_cell BK184.out 5).trans rfl,(blk_cell BK184.out 6).trans rfl,(blk_cell BK184.out 7).trans rfl⟩ (fun hHeld => ?_)
     clear hK K
     refine norm_ (a':=?_) ?_ ?_
     rotate_left
     ·show Act.put _ (some 31) _ = _
      simp only [Act.put,List.setIfInBounds_toArray,List.set_cons_zero,List.set_cons_succ,i64_w,i32_w]
      rfl
     refine pure_ (i:=12) (N:=some 19) (v:=?_) (a':=?_) #[true,true,true,true,true,true,true,true,true,true,true,true,true,false,false,false,false,false] rfl rfl (any_of HT_.out (by kernel_rfl)) (fun _ _ _ h => h) (Or.inl ⟨by rfl,?_⟩) ?_ ?_
     rotate_left
     ·intro w'
      go_simp;with_reducible rfl
     rotate_left
     ·simp only [Act.put,List.setIfInBounds_toArray,List.set_cons_zero,List.set_cons_succ,i64_w,i32_w]
      rfl
     refine pure_ (i:=13) (N:=some 32) (v:=?_) (a':=?_) #[true,true,true,true,true,true,true,true,true,true,true,true,true,true,false,false,false,false] rfl rfl (any_of HT_.out (by kernel_rfl)) (fun _ _ _ h => h) (Or.inl ⟨by rfl,?_⟩) ?_ ?_
     rotate_left
     ·intro w'
      go_simp;with_reducible rfl
     rotate_left
     ·simp only [Act.put,List.setIfInBounds_toArray,List.set_cons_zero,List.set_cons_succ,i64_w,i32_w]
      rfl
     refine pure_ (i:=14) (N:=some 33) (v:=?_) (a':=?_) #[true,true,true,true,true,true,true,true,true,true,true,true,true,true,true,false,false,false] rfl rfl (any_of HT_.out (by kernel_rfl)) (fun _ _ _ h => h) (Or.inl ⟨by rfl,?_⟩) ?_ ?_
     rotate_left
     ·intro w'
      go_simp;with_reducible rfl
     rotate_left
     ·simp only [Act.put,List.setIfInBounds_toArray,List.set_cons_zero,List.set_cons_succ,i64_w,i32_w]
      rfl
     refine one_ (i:=15) (N:=some 7) #[true,true,true,true,true,true,true,true,true,true,true,true,true,true,true,true,false,false] rfl rfl (one_of HT_.out (by kernel_rfl)) (by decide) (fun K hK => ?_)
     refine box_step ?hg (N:=7) ?hd (cs:=#[.int .u64 0,.int .u64 0]) (t:=87) ?hr ?_;(case hd => rfl);(case hg => rfl);(case hr => first | (go_simp;done) | (go_simp;rfl))
     intro gb200 hg w30 hbox hb
     have n0_:=Aside0.mk (blk_below (g:=gb184) kA hb);have n1_:=Aside0.mk (blk_below (g:=gb189) kA hb);have n2_:=Aside0.mk (blk_below (g:=gb190) kA hb);have n3_:=Aside0.mk (blk_below (g:=gb194) kA hb);have n4_:=Aside0.mk (below_step bA hb);have n5_:=Aside0.mk (hbox);have n6_:=Aside0.mk (gwA hg bA);have n7_:=Aside0.mk (gwA hg bA);have n8_:=Aside0.mk (neA (g:=gb184) hg kA);have n9_:=Aside0.mk (neB (g:=gb184) hg kA);have n10_:=Aside0.mk (neA (g:=gb189) hg kA);have n11_:=Aside0.mk (neB (g:=gb189) hg kA);have n12_:=Aside0.mk (neA (g:=gb190) hg kA);have n13_:=Aside0.mk (neB (g:=gb190) hg kA);have n14_:=Aside0.mk (neA (g:=gb194) hg kA);have n15_:=Aside0.mk (neB (g:=gb194) hg kA);clear BK184 BK189 BK190 BK194 HB;have BK184:=n0_;have BK189:=n1_;have BK190:=n2_;have BK194:=n3_;have HB:=n4_;have BK200:=n5_;have GW200:=n6_;have GE200:=n7_;have NB184_200:=n8_;have NB200_184:=n9_;have NB189_200:=n10_;have NB200_189:=n11_;have NB190_200:=n12_;have NB200_190:=n13_;have NB194_200:=n14_;have NB200_194:=n15_;clear n0_ n1_ n2_ n3_ n4_ n5_ n6_ n7_ n8_ n9_ n10_ n11_ n12_ n13_ n14_ n15_ hb hbox hg
     refine hK.out _ _ ⟨(blk_cell BK190.out 0).trans rfl,(blk_cell BK190.out 1).trans rfl,(blk_cell BK184.out 0).trans rfl,(blk_cell BK184.out 1).trans rfl,(blk_cell BK184.out 2).trans rfl,(blk_cell BK184.out 3).trans rfl,(blk_cell BK184.out 4).trans rfl,(blk_cell BK184.out 5).trans rfl,(blk_cell BK184.out 6).trans rfl,(blk_cell BK184.out 7).trans rfl⟩ (fun hHeld => ?_)
     clear hK K
     refine norm_ (a':=?_) ?_ ?_
     rotate_left
     ·show Act.put _ (some 7) _ = _
      simp only [Act.put,List.setIfInBounds_toArray,List.set_cons_zero,List.set_cons_succ,i64_w,i32_w]
      rfl
     exact norm_ (by simp only [putAll,Act.put,List.setIfInBounds_toArray,List.set_cons_zero,List.set_cons_succ]) (hCont (gb200) _ ⟨hHeld,kA,kA,kA,kA,kA,GW200.out,GE200.out,NB184_200.out,NB200_184.out,NB189_200.out,NB200_189.out,NB190_200.out,NB200_190.out,NB194_200.out,NB200_194.out,bA⟩)
    ·skip
     refine box_step ?hg (N:=7) ?hd (cs:=#[.int .u64 0,.int .u64 0]) (t:=87) ?hr ?_;(case hd => rfl);(case hg => rfl);(case hr => first | (go_simp;done) | (go_simp;rfl))
     intro gb200 hg w29 hbox hb
     have n0_:=Aside0.mk (blk_below (g:=gb184) kA hb);have n1_:=Aside0.mk (blk_below (g:=gb189) kA hb);have n2_:=Aside0.mk (blk_below (g:=gb190) kA hb);have n3_:=Aside0.mk (blk_below (g:=gb194) kA hb);have n4_:=Aside0.mk (below_step bA hb);have n5_:=Aside0.mk (hbox);have n6_:=Aside0.mk (gwA hg bA);have n7_:=Aside0.mk (gwA hg bA);have n8_:=Aside0.mk (neA (g:=gb184) hg kA);have n9_:=Aside0.mk (neB (g:=gb184) hg kA);have n10_:=Aside0.mk (neA (g:=gb189) hg kA);have n11_:=Aside0.mk (neB (g:=gb189) hg kA);have n12_:=Aside0.mk (neA (g:=gb190) hg kA);have n13_:=Aside0.mk (neB (g:=gb190) hg kA);have n14_:=Aside0.mk (neA (g:=gb194) hg kA);have n15_:=Aside0.mk (neB (g:=gb194) hg kA);clear BK184 BK189 BK190 BK194 HB;have BK184:=n0_;have BK189:=n1_;have BK190:=n2_;have BK194:=n3_;have HB:=n4_;have BK200:=n5_;have GW200:=n6_;have GE200:=n7_;have NB184_200:=n8_;have NB200_184:=n9_;have NB189_200:=n10_;have NB200_189:=n11_;have NB190_200:=n12_;have NB200_190:=n13_;have NB194_200:=n14_;have NB200_194:=n15_;clear n0_ n1_ n2_ n3_ n4_ n5_ n6_ n7_ n8_ n9_ n10_ n11_ n12_ n13_ n14_ n15_ hb hbox hg
     refine hK.out _ _ ⟨(blk_cell BK190.out 0).trans rfl,(blk_cell BK190.out 1).trans rfl,(blk_cell BK184.out 0).trans rfl,(blk_cell BK184.out 1).trans rfl,(blk_cell BK184.out 2).trans rfl,(blk_cell BK184.out 3).trans rfl,(blk_cell BK184.out 4).trans rfl,(blk_cell BK184.out 5).trans rfl,(blk_cell BK184.out 6).trans rfl,(blk_cell BK184.out 7).trans rfl⟩ (fun hHeld => ?_)
     clear hK K
     refine norm_ (a':=?_) ?_ ?_
     rotate_left
     ·show Act.put _ (some 7) _ = _
      simp only [Act.put,List.setIfInBounds_toArray,List.set_cons_zero,List.set_cons_succ,i64_w,i32_w]
      rfl
     refine one_ (i:=11) (N:=some 31) #[true,true,true,true,true,true,true,true,true,true,true,true,false,false,false,true,false,false] rfl rfl (one_of HT_.out (by kernel_rfl)) (by decide) (fun K hK => ?_)
     refine goes_ Tryd.func67 (by kernel_rfl) rfl #[.agg #[.int .u64 t187,.int .u64 t188],.int .u64 (IntKind.u64.wrap (wrap64 ((wrap64 (a0_3 * t195)) + t196)))] (by rfl) rfl rfl aA ?_
     with_reducible refine (wide_Times.calls t187 t188 (IntKind.u64.wrap (wrap64 ((wrap64 (a0_3 * t195)) + t196))) t197 t198 t199 _ A6.out).mono ?_
     rintro e w30 ⟨rfl,hb⟩
     refine ⟨_,rfl,?_⟩;have n0_:=Aside0.mk (blk_below (g:=gb184) kA hb);have n1_:=Aside0.mk (blk_below (g:=gb189) kA hb);have n2_:=Aside0.mk (blk_below (g:=gb190) kA hb);have n3_:=Aside0.mk (blk_below (g:=gb194) kA hb);have n4_:=Aside0.mk (blk_below (g:=gb200) kA hb);have n5_:=Aside0.mk (below_step bA hb);clear BK184 BK189 BK190 BK194 BK200 HB;have BK184:=n0_;have BK189:=n1_;have BK190:=n2_;have BK194:=n3_;have BK200:=n4_;have HB:=n5_;clear n0_ n1_ n2_ n3_ n4_ n5_;(try clear hb)
     refine hK.out _ _ ⟨(blk_cell BK190.out 0).trans rfl,(blk_cell BK190.out 1).trans rfl,(blk_cell BK184.out 0).trans rfl,(blk_cell BK184.out 1).trans rfl,(blk_cell BK184.out 2).trans rfl,(blk_cell BK184.out 3).trans rfl,(blk_cell BK184.out 4).trans rfl,(blk_cell BK184.out 5).trans rfl,(blk_cell BK184.out 6).trans rfl,(blk_cell BK184.out 7).trans rfl⟩ (fun hHeld => ?_)
     clear hK K
     refine norm_ (a':=?_) ?_ ?_
     rotate_left
     ·show Act.put _ (some 31) _ = _
      simp only [Act.put,List.setIfInBounds_toArray,List.set_cons_zero,List.set_cons_succ,i64_w,i32_w]
      rfl
     refine pure_ (i:=12) (N:=some 19) (v:=?_) (a':=?_) #[true,true,true,true,true,true,true,true,true,true,true,true,true,false,false,true,false,false] rfl rfl (any_of HT_.out (by kernel_rfl)) (fun _ _ _ h => h) (Or.inl ⟨by rfl,?_⟩) ?_ ?_
     rotate_left
     ·intro w'
      go_simp;with_reducible rfl
     rotate_left
     ·simp only [Act.put,List.setIfInBounds_toArray,List.set_cons_zero,List.set_cons_succ,i64_w,i32_w]
      rfl
     refine pure_ (i:=13) (N:=some 32) (v:=?_) (a':=?_) #[true,true,true,true,true,true,true,true,true,true,true,true,true,true,false,true,false,false] rfl rfl (any_of HT_.out (by kernel_rfl)) (fun _ _ _ h => h) (Or.inl ⟨by rfl,?_⟩) ?_ ?_
     rotate_left
     ·intro w'
      go_simp;with_reducible rfl
     rotate_left
     ·simp only [Act.put,List.setIfInBounds_toArray,List.set_cons_zero,List.set_cons_succ,i64_w,i32_w]
      rfl
     refine pure_ (i:=14) (N:=some 33) (v:=?_) (a':=?_) #[true,true,true,true,true,true,true,true,true,true,true,true,true,true,true,true,false,false] rfl rfl (any_of HT_.out (by kernel_rfl)) (fun _ _ _ h => h) (Or.inl ⟨by rfl,?_⟩) ?_ ?_
     rotate_left
     ·intro w'
      go_simp;with_reducible rfl
     rotate_left
     ·simp only [Act.put,List.setIfInBounds_toArray,List.set_cons_zero,List.set_cons_succ,i64_w,i32_w]
      rfl
     exact norm_ (by simp only [putAll,Act.put,List.setIfInBounds_toArray,List.set_cons_zero,List.set_cons_succ]) (hCont (gb200) _ ⟨hHeld,kA,kA,kA,kA,kA,GW200.out,GE200.out,NB184_200.out,NB200_184.out,NB189_200.out,NB200_189.out,NB190_200.out,NB200_190.out,NB194_200.out,NB200_194.out,bA⟩)
   ·skip
    refine box_step ?hg (N:=7) ?hd (cs:=#[.int .u64 0,.int .u64 0]) (t:=87) ?hr ?_;(case hd => rfl);(case hg => rfl);(case hr => first | (go_simp;done) | (go_simp;rfl))
    intro gb200 hg w28 hbox hb
    have n0_:=Aside0.mk (blk_below (g:=gb184) kA hb);have n1_:=Aside0.mk (blk_below (g:=gb189) kA hb);have n2_:=Aside0.mk (blk_below (g:=gb190) kA hb);have n3_:=Aside0.mk (blk_below (g:=gb194) kA hb);have n4_:=Aside0.mk (below_step bA hb);have n5_:=Aside0.mk (hbox);have n6_:=Aside0.mk (gwA hg bA);have n7_:=Aside0.mk (gwA hg bA);have n8_:=Aside0.mk (neA (g:=gb184) hg kA);have n9_:=Aside0.mk (neB (g:=gb184) hg kA);have n10_:=Aside0.mk (neA (g:=gb189) hg kA);have n11_:=Aside0.mk (neB (g:=gb189) hg kA);have n12_:=Aside0.mk (neA (g:=gb190) hg kA);have n13_:=Aside0.mk (neB (g:=gb190) hg kA);have n14_:=Aside0.mk (neA (g:=gb194) hg kA);have n15_:=Aside0.mk (neB (g:=gb194) hg kA);clear BK184 BK189 BK190 BK194 HB;have BK184:=n0_;have BK189:=n1_;have BK190:=n2_;have BK194:=n3_;have HB:=n4_;have BK200:=n5_;have GW200:=n6_;have GE200:=n7_;have NB184_200:=n8_;have NB200_184:=n9_;have NB189_200:=n10_;have NB200_189:=n11_;have NB190_200:=n12_;have NB200_190:=n13_;have NB194_200:=n14_;have NB200_194:=n15_;clear n0_ n1_ n2_ n3_ n4_ n5_ n6_ n7_ n8_ n9_ n10_ n11_ n12_ n13_ n14_ n15_ hb hbox hg
    refine hK.out _ _ ⟨(blk_cell BK190.out 0).trans rfl,(blk_cell BK190.out 1).trans rfl,(blk_cell BK184.out 0).trans rfl,(blk_cell BK184.out 1).trans rfl,(blk_cell BK184.out 2).trans rfl,(blk_cell BK184.out 3).trans rfl,(blk_cell BK184.out 4).trans rfl,(blk_cell BK184.out 5).trans rfl,(blk_cell BK184.out 6).trans rfl,(blk_cell BK184.out 7).trans rfl⟩ (fun hHeld => ?_)
    clear hK K
    refine norm_ (a':=?_) ?_ ?_
    rotate_left
    ·show Act.put _ (some 7) _ = _
     simp only [Act.put,List.setIfInBounds_toArray,List.set_cons_zero,List.set_cons_succ,i64_w,i32_w]
     rfl
    refine one_ (i:=8) (N:=some 28) #[true,true,true,true,true,true,true,true,true,false,false,false,false,false,false,true,false,false] rfl rfl (one_of HT_.out (by kernel_rfl)) (by decide) (fun K hK => ?_)
    refine goes_ Tryd.func65 (by kernel_rfl) rfl #[.agg #[.int .i64 a0_0,.int .i64 a0_1,.int .i64 a0_2,.int .i64 a0_3,.int .i64 a0_4,.int .i64 a0_5,.int .i64 a0_6,.int .i64 a0_7]] (by rfl) rfl rfl aA ?_
    with_reducible refine (config_asked_fairSize.calls a0_0 a0_1 a0_2 a0_3 a0_4 a0_5 a0_6 a0_7 t196 _ A5.out).mono ?_
    rintro e w29 ⟨rfl,hb⟩
    refine ⟨_,rfl,?_⟩;have n0_:=Aside0.mk (blk_below (g:=gb184) kA hb);have n1_:=Aside0.mk (blk_below (g:=gb189) kA hb);have n2_:=Aside0.mk (blk_below (g:=gb190) kA hb);have n3_:=Aside0.mk (blk_below (g:=gb194) kA hb);have n4_:=Aside0.mk (blk_below (g:=gb200) kA hb);have n5_:=Aside0.mk (below_step bA hb);clear BK184 BK189 BK190 BK194 BK200 HB;have BK184:=n0_;have BK189:=n1_;have BK190:=n2_;have BK194:=n3_;have BK200:=n4_;have HB:=n5_;clear n0_ n1_ n2_ n3_ n4_ n5_;(try clear hb)
    refine hK.out _ _ ⟨(blk_cell BK190.out 0).trans rfl,(blk_cell BK190.out 1).trans rfl,(blk_cell BK184.out 0).trans rfl,(blk_cell BK184.out 1).trans rfl,(blk_cell BK184.out 2).trans rfl,(blk_cell BK184.out 3).trans rfl,(blk_cell BK184.out 4).trans rfl,(blk_cell BK184.out 5).trans rfl,(blk_cell BK184.out 6).trans rfl,(blk_cell BK184.out 7).trans rfl⟩ (fun hHeld => ?_)
    clear hK K
    refine norm_ (a':=?_) ?_ ?_
    rotate_left
    ·show Act.put _ (some 28) _ = _
     simp only [Act.put,List.setIfInBounds_toArray,List.set_cons_zero,List.set_cons_succ,i64_w,i32_w]
     rfl
    refine pure_ (i:=9) (N:=some 29) (v:=?_) (a':=?_) #[true,true,true,true,true,true,true,true,true,true,false,false,false,false,false,true,false,false] rfl rfl (any_of HT_.out (by kernel_rfl)) (fun _ _ _ h => h) (Or.inl ⟨by rfl,?_⟩) ?_ ?_
    rotate_left
    ·intro w'
     go_simp;with_reducible rfl
    rotate_left
    ·simp only [Act.put,List.setIfInBounds_toArray,List.set_cons_zero,List.set_cons_succ,i64_w,i32_w]
     rfl
    refine pure_ (i:=10) (N:=some 30) (v:=?_) (a':=?_) #[true,true,true,true,true,true,true,true,true,true,true,false,false,false,false,true,false,false] rfl rfl (any_of HT_.out (by kernel_rfl)) (fun _ _ _ h => h) (Or.inl ⟨by rfl,?_⟩) ?_ ?_
    rotate_left
    ·intro w'
     go_simp;with_reducible rfl
    rotate_left
    ·simp only [Act.put,List.setIfInBounds_toArray,List.set_cons_zero,List.set_cons_succ,i64_w,i32_w]
     rfl
    refine one_ (i:=11) (N:=some 31) #[true,true,true,true,true,true,true,true,true,true,true,true,false,false,false,true,false,false] rfl rfl (one_of HT_.out (by kernel_rfl)) (by decide) (fun K hK => ?_)
    refine goes_ Tryd.func67 (by kernel_rfl) rfl #[.agg #[.int .u64 t187,.int .u64 t188],.int .u64 (IntKind.u64.wrap (wrap64 ((wrap64 (a0_3 * t195)) + t196)))] (by rfl) rfl rfl aA ?_
    with_reducible refine (wide_Times.calls t187 t188 (IntKind.u64.wrap (wrap64 ((wrap64 (a0_3 * t195)) + t196))) t197 t198 t199 _ A6.out).mono ?_
    rintro e w30 ⟨rfl,hb⟩
    refine ⟨_,rfl,?_⟩;have n0_:=Aside0.mk (blk_below (g:=gb184) kA hb);have n1_:=Aside0.mk (blk_below (g:=gb189) kA hb);have n2_:=Aside0.mk (blk_below (g:=gb190) kA hb);have n3_:=Aside0.mk (blk_below (g:=gb194) kA hb);have n4_:=Aside0.mk (blk_below (g:=gb200) kA hb);have n5_:=Aside0.mk (below_step bA hb);clear BK184 BK189 BK190 BK194 BK200 HB;have BK184:=n0_;have BK189:=n1_;have BK190:=n2_;have BK194:=n3_;have BK200:=n4_;have HB:=n5_;clear n0_ n1_ n2_ n3_ n4_ n5_;(try clear hb)
    refine hK.out _ _ ⟨(blk_cell BK190.out 0).trans rfl,(blk_cell BK190.out 1).trans rfl,(blk_cell BK184.out 0).trans rfl,(blk_cell BK184.out 1).trans rfl,(blk_cell BK184.out 2).trans rfl,(blk_cell BK184.out 3).trans rfl,(blk_cell BK184.out 4).trans rfl,(blk_cell BK184.out 5).trans rfl,(blk_cell BK184.out 6).trans rfl,(blk_cell BK184.out 7).trans rfl⟩ (fun hHeld => ?_)
    clear hK K
    refine norm_ (a':=?_) ?_ ?_
    rotate_left
    ·show Act.put _ (some 31) _ = _
     simp only [Act.put,List.setIfInBounds_toArray,List.set_cons_zero,List.set_cons_succ,i64_w,i32_w]
     rfl
    refine pure_ (i:=12) (N:=some 19) (v:=?_) (a':=?_) #[true,true,true,true,true,true,true,true,true,true,true,true,true,false,false,true,false,false] rfl rfl (any_of HT_.out (by kernel_rfl)) (fun _ _ _ h => h) (Or.inl ⟨by rfl,?_⟩) ?_ ?_
    rotate_left
    ·intro w'
     go_simp;with_reducible rfl
    rotate_left
    ·simp only [Act.put,List.setIfInBounds_toArray,List.set_cons_zero,List.set_cons_succ,i64_w,i32_w]
     rfl
    refine pure_ (i:=13) (N:=some 32) (v:=?_) (a':=?_) #[true,true,true,true,true,true,true,true,true,true,true,true,true,true,false,true,false,false] rfl rfl (any_of HT_.out (by kernel_rfl)) (fun _ _ _ h => h) (Or.inl ⟨by rfl,?_⟩) ?_ ?_
    rotate_left
    ·intro w'
     go_simp;with_reducible rfl
    rotate_left
    ·simp only [Act.put,List.setIfInBounds_toArray,List.set_cons_zero,List.set_cons_succ,i64_w,i32_w]
     rfl
    refine pure_ (i:=14) (N:=some 33) (v:=?_) (a':=?_) #[true,true,true,true,true,true,true,true,true,true,true,true,true,true,true,true,false,false] rfl rfl (any_of HT_.out (by kernel_rfl)) (fun _ _ _ h => h) (Or.inl ⟨by rfl,?_⟩) ?_ ?_
    rotate_left
    ·intro w'
     go_simp;with_reducible rfl
    rotate_left
    ·simp only [Act.put,List.setIfInBounds_toArray,List.set_cons_zero,List.set_cons_succ,i64_w,i32_w]
     rfl
    exact norm_ (by simp only [putAll,Act.put,List.setIfInBounds_toArray,List.set_cons_zero,List.set_cons_succ]) (hCont (gb200) _ ⟨hHeld,kA,kA,kA,kA,kA,GW200.out,GE200.out,NB184_200.out,NB200_184.out,NB189_200.out,NB200_189.out,NB190_200.out,NB200_190.out,NB194_200.out,NB200_194.out,bA⟩)
  ·skip
   refine box_step ?hg (N:=7) ?hd (cs:=#[.int .u64 0,.int .u64 0]) (t:=87) ?hr ?_;(case hd => rfl);(case hg => rfl);(case hr => first | (go_simp;done) | (go_simp;rfl))
   intro gb200 hg w27 hbox hb
   have n0_:=Aside0.mk (blk_below (g:=gb184) kA hb);have n1_:=Aside0.mk (blk_below (g:=gb189) kA hb);have n2_:=Aside0.mk (blk_below (g:=gb190) kA hb);have n3_:=Aside0.mk (blk_below (g:=gb194) kA hb);have n4_:=Aside0.mk (below_step bA hb);have n5_:=Aside0.mk (hbox);have n6_:=Aside0.mk (gwA hg bA);have n7_:=Aside0.mk (gwA hg bA);have n8_:=Aside0.mk (neA (g:=gb184) hg kA);have n9_:=Aside0.mk (neB (g:=gb184) hg kA);have n10_:=Aside0.mk (neA (g:=gb189) hg kA);have n11_:=Aside0.mk (neB (g:=gb189) hg kA);have n12_:=Aside0.mk (neA (g:=gb190) hg kA);have n13_:=Aside0.mk (neB (g:=gb190) hg kA);have n14_:=Aside0.mk (neA (g:=gb194) hg kA);have n15_:=Aside0.mk (neB (g:=gb194) hg kA);clear BK184 BK189 BK190 BK194 HB;have BK184:=n0_;have BK189:=n1_;have BK190:=n2_;have BK194:=n3_;have HB:=n4_;have BK200:=n5_;have GW200:=n6_;have GE200:=n7_;have NB184_200:=n8_;have NB200_184:=n9_;have NB189_200:=n10_;have NB200_189:=n11_;have NB190_200:=n12_;have NB200_190:=n13_;have NB194_200:=n14_;have NB200_194:=n15_;clear n0_ n1_ n2_ n3_ n4_ n5_ n6_ n7_ n8_ n9_ n10_ n11_ n12_ n13_ n14_ n15_ hb hbox hg
   refine hK.out _ _ ⟨(blk_cell BK190.out 0).trans rfl,(blk_cell BK190.out 1).trans rfl,(blk_cell BK184.out 0).trans rfl,(blk_cell BK184.out 1).trans rfl,(blk_cell BK184.out 2).trans rfl,(blk_cell BK184.out 3).trans rfl,(blk_cell BK184.out 4).trans rfl,(blk_cell BK184.out 5).trans rfl,(blk_cell BK184.out 6).trans rfl,(blk_cell BK184.out 7).trans rfl⟩ (fun hHeld => ?_)
   clear hK K
   refine norm_ (a':=?_) ?_ ?_
   rotate_left
   ·show Act.put _ (some 7) _ = _
    simp only [Act.put,List.setIfInBounds_toArray,List.set_cons_zero,List.set_cons_succ,i64_w,i32_w]
    rfl
   refine one_ (i:=5) (N:=some 25) #[true,true,true,true,true,true,false,true,false,false,false,false,false,false,false,true,false,false] rfl rfl (one_of HT_.out (by kernel_rfl)) (by decide) (fun K hK => ?_)
   refine goes_ Tryd.func68 (by kernel_rfl) rfl #[.agg #[.int .i64 a0_0,.int .i64 a0_1,.int .i64 a0_2,.int .i64 a0_3,.int .i64 a0_4,.int .i64 a0_5,.int .i64 a0_6,.int .i64 a0_7]] (by rfl) rfl rfl aA ?_
   with_reducible refine (config_asked_bound.calls a0_0 a0_1 a0_2 a0_3 a0_4 a0_5 a0_6 a0_7 t195 _ A4.out).mono ?_
   rintro e w28 ⟨rfl,hb⟩
   refine ⟨_,rfl,?_⟩;have n0_:=Aside0.mk (blk_below (g:=gb184) kA hb);have n1_:=Aside0.mk (blk_below (g:=gb189) kA hb);have n2_:=Aside0.mk (blk_below (g:=gb190) kA hb);have n3_:=Aside0.mk (blk_below (g:=gb194) kA hb);have n4_:=Aside0.mk (blk_below (g:=gb200) kA hb);have n5_:=Aside0.mk (below_step bA hb);clear BK184 BK189 BK190 BK194 BK200 HB;have BK184:=n0_;have BK189:=n1_;have BK190:=n2_;have BK194:=n3_;have BK200:=n4_;have HB:=n5_;clear n0_ n1_ n2_ n3_ n4_ n5_;(try clear hb)
   refine hK.out _ _ ⟨(blk_cell BK190.out 0).trans rfl,(blk_cell BK190.out 1).trans rfl,(blk_cell BK184.out 0).trans rfl,(blk_cell BK184.out 1).trans rfl,(blk_cell BK184.out 2).trans rfl,(blk_cell BK184.out 3).trans rfl,(blk_cell BK184.out 4).trans rfl,(blk_cell BK184.out 5).trans rfl,(blk_cell BK184.out 6).trans rfl,(blk_cell BK184.out 7).trans rfl⟩ (fun hHeld => ?_)
   clear hK K
   refine norm_ (a':=?_) ?_ ?_
   rotate_left
   ·show Act.put _ (some 25) _ = _
    simp only [Act.put,List.setIfInBounds_toArray,List.set_cons_zero,List.set_cons_succ,i64_w,i32_w]
    rfl
   refine pure_ (i:=6) (N:=some 26) (v:=?_) (a':=?_) #[true,true,true,true,true,true,true,true,false,false,false,false,false,false,false,true,false,false] rfl rfl (any_of HT_.out (by kernel_rfl)) (fun _ _ _ h => h) (Or.inl ⟨by rfl,?_⟩) ?_ ?_
   rotate_left
   ·intro w'
    go_simp;with_reducible rfl
   rotate_left
   ·simp only [Act.put,List.setIfInBounds_toArray,List.set_cons_zero,List.set_cons_succ,i64_w,i32_w]
    rfl
   refine one_ (i:=8) (N:=some 28) #[true,true,true,true,true,true,true,true,true,false,false,false,false,false,false,true,false,false] rfl rfl (one_of HT_.out (by kernel_rfl)) (by decide) (fun K hK => ?_)
   refine goes_ Tryd.func65 (by kernel_rfl) rfl #[.agg #[.int .i64 a0_0,.int .i64 a0_1,.int .i64 a0_2,.int .i64 a0_3,.int .i64 a0_4,.int .i64 a0_5,.int .i64 a0_6,.int .i64 a0_7]] (by rfl) rfl rfl aA ?_
   with_reducible refine (config_asked_fairSize.calls a0_0 a0_1 a0_2 a0_3 a0_4 a0_5 a0_6 a0_7 t196 _ A5.out).mono ?_
   rintro e w29 ⟨rfl,hb⟩
   refine ⟨_,rfl,?_⟩;have n0_:=Aside0.mk (blk_below (g:=gb184) kA hb);have n1_:=Aside0.mk (blk_below (g:=gb189) kA hb);have n2_:=Aside0.mk (blk_below (g:=gb190) kA hb);have n3_:=Aside0.mk (blk_below (g:=gb194) kA hb);have n4_:=Aside0.mk (blk_below (g:=gb200) kA hb);have n5_:=Aside0.mk (below_step bA hb);clear BK184 BK189 BK190 BK194 BK200 HB;have BK184:=n0_;have BK189:=n1_;have BK190:=n2_;have BK194:=n3_;have BK200:=n4_;have HB:=n5_;clear n0_ n1_ n2_ n3_ n4_ n5_;(try clear hb)
   refine hK.out _ _ ⟨(blk_cell BK190.out 0).trans rfl,(blk_cell BK190.out 1).trans rfl,(blk_cell BK184.out 0).trans rfl,(blk_cell BK184.out 1).trans rfl,(blk_cell BK184.out 2).trans rfl,(blk_cell BK184.out 3).trans rfl,(blk_cell BK184.out 4).trans rfl,(blk_cell BK184.out 5).trans rfl,(blk_cell BK184.out 6).trans rfl,(blk_cell BK184.out 7).trans rfl⟩ (fun hHeld => ?_)
   clear hK K
   refine norm_ (a':=?_) ?_ ?_
   rotate_left
   ·show Act.put _ (some 28) _ = _
    simp only [Act.put,List.setIfInBounds_toArray,List.set_cons_zero,List.set_cons_succ,i64_w,i32_w]
    rfl
   refine pure_ (i:=9) (N:=some 29) (v:=?_) (a':=?_) #[true,true,true,true,true,true,true,true,true,true,false,false,false,false,false,true,false,false] rfl rfl (any_of HT_.out (by kernel_rfl)) (fun _ _ _ h => h) (Or.inl ⟨by rfl,?_⟩) ?_ ?_
   rotate_left
   ·intro w'
    go_simp;with_reducible rfl
   rotate_left
   ·simp only [Act.put,List.setIfInBounds_toArray,List.set_cons_zero,List.set_cons_succ,i64_w,i32_w]
    rfl
   refine pure_ (i:=10) (N:=some 30) (v:=?_) (a':=?_) #[true,true,true,true,true,true,true,true,true,true,true,false,false,false,false,true,false,false] rfl rfl (any_of HT_.out (by kernel_rfl)) (fun _ _ _ h => h) (Or.inl ⟨by rfl,?_⟩) ?_ ?_
   rotate_left
   ·intro w'
    go_simp;with_reducible rfl
   rotate_left
   ·simp only [Act.put,List.setIfInBounds_toArray,List.set_cons_zero,List.set_cons_succ,i64_w,i32_w]
    rfl
   refine one_ (i:=11) (N:=some 31) #[true,true,true,true,true,true,true,true,true,true,true,true,false,false,false,true,false,false] rfl rfl (one_of HT_.out (by kernel_rfl)) (by decide) (fun K hK => ?_)
   refine goes_ Tryd.func67 (by kernel_rfl) rfl #[.agg #[.int .u64 t187,.int .u64 t188],.int .u64 (IntKind.u64.wrap (wrap64 ((wrap64 (a0_3 * t195)) + t196)))] (by rfl) rfl rfl aA ?_
   with_reducible refine (wide_Times.calls t187 t188 (IntKind.u64.wrap (wrap64 ((wrap64 (a0_3 * t195)) + t196))) t197 t198 t199 _ A6.out).mono ?_
   rintro e w30 ⟨rfl,hb⟩
   refine ⟨_,rfl,?_⟩;have n0_:=Aside0.mk (blk_below (g:=gb184) kA hb);have n1_:=Aside0.mk (blk_below (g:=gb189) kA hb);have n2_:=Aside0.mk (blk_below (g:=gb190) kA hb);have n3_:=Aside0.mk (blk_below (g:=gb194) kA hb);have n4_:=Aside0.mk (blk_below (g:=gb200) kA hb);have n5_:=Aside0.mk (below_step bA hb);clear BK184 BK189 BK190 BK194 BK200 HB;have BK184:=n0_;have BK189:=n1_;have BK190:=n2_;have BK194:=n3_;have BK200:=n4_;have HB:=n5_;clear n0_ n1_ n2_ n3_ n4_ n5_;(try clear hb)
   refine hK.out _ _ ⟨(blk_cell BK190.out 0).trans rfl,(blk_cell BK190.out 1).trans rfl,(blk_cell BK184.out 0).trans rfl,(blk_cell BK184.out 1).trans rfl,(blk_cell BK184.out 2).trans rfl,(blk_cell BK184.out 3).trans rfl,(blk_cell BK184.out 4).trans rfl,(blk_cell BK184.out 5).trans rfl,(blk_cell BK184.out 6).trans rfl,(blk_cell BK184.out 7).trans rfl⟩ (fun hHeld => ?_)
   clear hK K
   refine norm_ (a':=?_) ?_ ?_
   rotate_left
   ·show Act.put _ (some 31) _ = _
    simp only [Act.put,List.setIfInBounds_toArray,List.set_cons_zero,List.set_cons_succ,i64_w,i32_w]
    rfl
   refine pure_ (i:=12) (N:=some 19) (v:=?_) (a':=?_) #[true,true,true,true,true,true,true,true,true,true,true,true,true,false,false,true,false,false] rfl rfl (any_of HT_.out (by kernel_rfl)) (fun _ _ _ h => h) (Or.inl ⟨by rfl,?_⟩) ?_ ?_
   rotate_left
   ·intro w'
    go_simp;with_reducible rfl
   rotate_left
   ·simp only [Act.put,List.setIfInBounds_toArray,List.set_cons_zero,List.set_cons_succ,i64_w,i32_w]
    rfl
   refine pure_ (i:=13) (N:=some 32) (v:=?_) (a':=?_) #[true,true,true,true,true,true,true,true,true,true,true,true,true,true,false,true,false,false] rfl rfl (any_of HT_.out (by kernel_rfl)) (fun _ _ _ h => h) (Or.inl ⟨by rfl,?_⟩) ?_ ?_
   rotate_left
   ·intro w'
    go_simp;with_reducible rfl
   rotate_left
   ·simp only [Act.put,List.setIfInBounds_toArray,List.set_cons_zero,List.set_cons_succ,i64_w,i32_w]
    rfl
   refine pure_ (i:=14) (N:=some 33) (v:=?_) (a':=?_) #[true,true,true,true,true,true,true,true,true,true,true,true,true,true,true,true,false,false] rfl rfl (any_of HT_.out (by kernel_rfl)) (fun _ _ _ h => h) (Or.inl ⟨by rfl,?_⟩) ?_ ?_
   rotate_left
   ·intro w'
    go_simp;with_reducible rfl
   rotate_left
   ·simp only [Act.put,List.setIfInBounds_toArray,List.set_cons_zero,List.set_cons_succ,i64_w,i32_w]
    rfl
   exact norm_ (by simp only [putAll,Act.put,List.setIfInBounds_toArray,List.set_cons_zero,List.set_cons_succ]) (hCont (gb200) _ ⟨hHeld,kA,kA,kA,kA,kA,GW200.out,GE200.out,NB184_200.out,NB200_184.out,NB189_200.out,NB200_189.out,NB190_200.out,NB200_190.out,NB194_200.out,NB200_194.out,bA⟩)
 rintro gb200 w31 ⟨hS_,h0_,h1_,h2_,h3_,h4_,h5_,h6_,h7_,h8_,h9_,h10_,h11_,h12_,h13_,h14_,h15_⟩
 have n0_ : Aside0 (w31.heap[gb184]? = some (.cells #[.int .i64 a0_0,.int .i64 a0_1,.int .i64 a0_2,.int .i64 a0_3,.int .i64 a0_4,.int .i64 a0_5,.int .i64 a0_6,.int .i64 a0_7] 77 (0,0))):=⟨h0_⟩
 have n1_ : Aside0 (w31.heap[gb189]? = some (.cells #[.int .u64 t185,.int .u64 t186] 87 (0,0))):=⟨h1_⟩
 have n2_ : Aside0 (w31.heap[gb190]? = some (.cells #[.int .u64 t187,.int .u64 t188] 87 (0,0))):=⟨h2_⟩
 have n3_ : Aside0 (w31.heap[gb194]? = some (.cells #[.int .u64 t191,.int .u64 t192] 87 (0,0))):=⟨h3_⟩
 have n4_ : Aside0 (w31.heap[gb200]? = some (.cells #[.int .u64 0,.int .u64 0] 87 (0,0))):=⟨h4_⟩
 have n5_ : Aside0 (w.heap.size ≤ gb200):=⟨h5_⟩
 have n6_ : Aside0 (w.heap.size ≤ gb200):=⟨h6_⟩
 have n7_ : Aside0 (gb184 ≠ gb200):=⟨h7_⟩
 have n8_ : Aside0 (gb200 ≠ gb184):=⟨h8_⟩
 have n9_ : Aside0 (gb189 ≠ gb200):=⟨h9_⟩
 have n10_ : Aside0 (gb200 ≠ gb189):=⟨h10_⟩
 have n11_ : Aside0 (gb190 ≠ gb200):=⟨h11_⟩
 have n12_ : Aside0 (gb200 ≠ gb190):=⟨h12_⟩
 have n13_ : Aside0 (gb194 ≠ gb200):=⟨h13_⟩
 have n14_ : Aside0 (gb200 ≠ gb194):=⟨h14_⟩
 have n15_ : Aside0 (Below w.heap.size w w31):=⟨h15_⟩
 clear BK184 BK189 BK190 BK194 HB h0_ h1_ h2_ h3_ h4_ h5_ h6_ h7_ h8_ h9_ h10_ h11_ h12_ h13_ h14_ h15_;have BK184:=n0_;have BK189:=n1_;have BK190:=n2_;have BK194:=n3_;have BK200:=n4_;have GW200:=n5_;have GE200:=n6_;have NB184_200:=n7_;have NB200_184:=n8_;have NB189_200:=n9_;have NB200_189:=n10_;have NB190_200:=n11_;have NB200_190:=n12_;have NB194_200:=n13_;have NB200_194:=n14_;have HB:=n15_;clear n0_ n1_ n2_ n3_ n4_ n5_ n6_ n7_ n8_ n9_ n10_ n11_ n12_ n13_ n14_ n15_
 have hHeld : w31.cell? ⟨gb190,0,none⟩ = some (.int .u64 t187) ∧ w31.cell? ⟨gb190,1,none⟩ = some (.int .u64 t188) ∧ w31.cell? ⟨gb184,0,none⟩ = some (.int .i64 a0_0) ∧ w31.cell? ⟨gb184,1,none⟩ = some (.int .i64 a0_1) ∧ w31.cell? ⟨gb184,2,none⟩ = some (.int .i64 a0_2) ∧ w31.cell? ⟨gb184,3,none⟩ = some (.int .i64 a0_3) ∧ w31.cell? ⟨gb184,4,none⟩ = some (.int .i64 a0_4) ∧ w31.cell? ⟨gb184,5,none⟩ = some (.int .i64 a0_5) ∧ w31.cell? ⟨gb184,6,none⟩ = some (.int .i64 a0_6) ∧ w31.cell? ⟨gb184,7,none⟩ = some (.int .i64 a0_7):=hS_
 refine norm_ (a':=?_) ?_ ?_
 rotate_left
 ·simp only [putAll,Act.put,List.setIfInBounds_toArray,List.set_cons_zero,List.set_cons_succ]
  rfl
 refine one_ (i:=16) (N:=none) #[true,true,true,true,true,true,true,true,true,true,true,true,true,true,true,true,true,false] rfl rfl (one_of HT_.out (by kernel_rfl)) (by decide) (fun K hK => ?_)
 have hs32 : w31.cell? ⟨gb200,0,none⟩ = some (.int .u64 0):=(blk_cell BK200.out 0).trans rfl
 have hfs32:=blk_frozen BK200.out 0
 have hns32_0:=NB184_200.out
 have hns32_1:=NB189_200.out
 have hns32_2:=NB190_200.out
 have hns32_3:=NB194_200.out
 have hms32_0:=NB200_184.out
 have hms32_1:=NB200_189.out
 have hms32_2:=NB200_190.out
 have hms32_3:=NB200_194.out
 have hs33 : w31.cell? ⟨gb200,1,none⟩ = some (.int .u64 0):=(blk_cell BK200.out 1).trans rfl
 have hfs33:=blk_frozen BK200.out 1
 have hns33_0:=NB184_200.out
 have hns33_1:=NB189_200.out
 have hns33_2:=NB190_200.out
 have hns33_3:=NB194_200.out
 have hms33_0:=NB200_184.out
 have hms33_1:=NB200_189.out
 have hms33_2:=NB200_190.out
 have hms33_3:=NB200_194.out
 refine skip_ (w1:=?_) (by rfl) rfl ?_ ?_
 rotate_left
 ·go_simp
  rfl
 refine hK.out _ _ ⟨((cell_far (p:=⟨gb200,_,none⟩) NB190_200.out _).trans (((cell_far (p:=⟨gb200,_,none⟩) NB190_200.out _).trans (hHeld.1)))),((cell_far (p:=⟨gb200,_,none⟩) NB190_200.out _).trans (((cell_far (p:=⟨gb200,_,none⟩) NB190_200.out _).trans (hHeld.2.1)))),((cell_far (p:=⟨gb200,_,none⟩) NB184_200.out _).trans (((cell_far (p:=⟨gb200,_,none⟩) NB184_200.out _).trans (hHeld.2.2.1)))),((cell_far (p:=⟨gb200,_,none⟩) NB184_200.out _).trans (((cell_far (p:=⟨gb200,_,none⟩) NB184_200.out _).trans (hHeld.2.2.2.1)))),((cell_far (p:=⟨gb200,_,none⟩) NB184_200.out _).trans (((cell_far (p:=⟨gb200,_,none⟩) NB184_200.out _).trans (hHeld.2.2.2.2.1)))),((cell_far (p:=⟨gb200,_,none⟩) NB184_200.out _).trans (((cell_far (p:=⟨gb200,_,none⟩) NB184_200.out _).trans (hHeld.2.2.2.2.2.1)))),((cell_far (p:=⟨gb200,_,none⟩) NB184_200.out _).trans (((cell_far (p:=⟨gb200,_,none⟩) NB184_200.out _).trans (hHeld.2.2.2.2.2.2.1)))),((cell_far (p:=⟨gb200,_,none⟩) NB184_200.out _).trans (((cell_far (p:=⟨gb200,_,none⟩) NB184_200.out _).trans (hHeld.2.2.2.2.2.2.2.1)))),((cell_far (p:=⟨gb200,_,none⟩) NB184_200.out _).trans (((cell_far (p:=⟨gb200,_,none⟩) NB184_200.out _).trans (hHeld.2.2.2.2.2.2.2.2.1)))),((cell_far (p:=⟨gb200,_,none⟩) NB184_200.out _).trans (((cell_far (p:=⟨gb200,_,none⟩) NB184_200.out _).trans (hHeld.2.2.2.2.2.2.2.2.2))))⟩ (fun hHeld => ?_)
 clear hK K
 refine pure_ (i:=17) (N:=some 8) (v:=?_) (a':=?_) #[true,true,true,true,true,true,true,true,true,true,true,true,true,true,true,true,true,true] rfl rfl (any_of HT_.out (by kernel_rfl)) (fun _ _ _ h => h) (Or.inl ⟨by rfl,?_⟩) ?_ ?_
 rotate_left
 ·intro w'
  go_simp;with_reducible rfl
 rotate_left
 ·simp only [Act.put,List.setIfInBounds_toArray,List.set_cons_zero,List.set_cons_succ,i64_w,i32_w]
  rfl
 refine done_ (done_of HT_.out (by kernel_rfl)) ?_
 have hnb34:=NB194_200.out
 have hnc34:=NB200_194.out
 have hcz35_0 : w31.cell? ⟨gb194,0,none⟩ = some (.int .u64 t191):=(blk_cell BK194.out 0).trans rfl
 have hcz35_1 : w31.cell? ⟨gb194,1,none⟩ = some (.int .u64 t192):=(blk_cell BK194.out 1).trans rfl
 have hfz35_0:=blk_frozen BK194.out 0
 have hfz35_1:=blk_frozen BK194.out 1
 have hnb36:=NB200_184.out
 have hnc36:=NB184_200.out
 have hnb37:=NB200_189.out
 have hnc37:=NB189_200.out
 have hnb38:=NB200_190.out
 have hnc38:=NB190_200.out
 have hcz39_0 : w31.cell? ⟨gb200,0,none⟩ = some (.int .u64 0):=(blk_cell BK200.out 0).trans rfl
 have hcz39_1 : w31.cell? ⟨gb200,1,none⟩ = some (.int .u64 0):=(blk_cell BK200.out 1).trans rfl
 have hfz39_0:=blk_frozen BK200.out 0
 have hfz39_1:=blk_frozen BK200.out 1
 by_cases c8 : t201 > 0
 ·rw [if_pos c8] at H
  have c8b0 : decide (0 < t201) = true:=decide_eq_true c8
  clear c8
  obtain rfl:=Option.some.inj H
  try go_wp2_with (first | ((with_reducible refine gate_callee (f:=69) rfl ?_);refine goesL_ (some 36) rfl rfl Tryd.func69 (by kernel_rfl) rfl #[.agg #[.int .u64 t191,.int .u64 t192],.agg #[.int .u64 t197,.int .u64 t198]] rfl aA ?_;(with_reducible refine (wide_Cmp.calls t191 t192 t197 t198 t201 _ A7.out).mono ?_);rintro e w40 ⟨rfl,hb⟩;refine ⟨_,rfl,?_⟩;have n0_:=Aside0.mk (blk_below (g:=gb184) (o:=.cells #[.int .i64 a0_0,.int .i64 a0_1,.int .i64 a0_2,.int .i64 a0_3,.int .i64 a0_4,.int .i64 a0_5,.int .i64 a0_6,.int .i64 a0_7] 77 (0,0)) (by (with_reducible repeat (first | refine blk_drewN ?_ _ | refine blk_drew ?_ | refine blk_alloc ?_ _));refine blk_far ?_ NB184_200.out _;(with_reducible repeat (first | refine blk_drewN ?_ _ | refine blk_drew ?_ | refine blk_alloc ?_ _));refine blk_far ?_ NB184_200.out _;exact kA) hb);have n1_:=Aside0.mk (blk_below (g:=gb189) (o:=.cells #[.int .u64 t185,.int .u64 t186] 87 (0,0)) (by (with_reducible repeat (first | refine blk_drewN ?_ _ | refine blk_drew ?_ | refine blk_alloc ?_ _));refine blk_far ?_ NB189_200.out _;(with_reducible repeat (first | refine blk_drewN ?_ _ | refine blk_drew ?_ | refine blk_alloc ?_ _));refine blk_far ?_ NB189_200.out _;exact kA) hb);have n2_:=Aside0.mk (blk_below (g:=gb190) (o:=.cells #[.int .u64 t187,.int .u64 t188] 87 (0,0)) (by (with_reducible repeat (first | refine blk_drewN ?_ _ | refine blk_drew ?_ | refine blk_alloc ?_ _));refine blk_far ?_ NB190_200.out _;(with_reducible repeat (first | refine blk_drewN ?_ _ | refine blk_drew ?_ | refine blk_alloc ?_ _));refine blk_far ?_ NB190_200.out _;exact kA) hb);have n3_:=Aside0.mk (blk_below (g:=gb194) (o:=.cells #[.int .u64 t191,.int .u64 t192] 87 (0,0)) (by (with_reducible repeat (first | refine blk_drewN ?_ _ | refine blk_drew ?_ | refine blk_alloc ?_ _));refine blk_far ?_ NB194_200.out _;(with_reducible repeat (first | refine blk_drewN ?_ _ | refine blk_drew ?_ | refine blk_alloc ?_ _));refine blk_far ?_ NB194_200.out _;exact kA) hb);have n4_:=Aside0.mk (blk_below (g:=gb200) (o:=.cells #[.int .u64 t197,.int .u64 t198] 87 (0,0)) (by (with_reducible repeat (first | refine blk_drewN ?_ _ | refine blk_drew ?_ | refine blk_alloc ?_ _));refine blk_put (cs:=#[.int .u64 t197,.int .u64 0]) ?_ 1 _ rfl;(with_reducible repeat (first | refine blk_drewN ?_ _ | refine blk_drew ?_ | refine blk_alloc ?_ _));refine blk_put (cs:=#[.int .u64 0,.int .u64 0]) ?_ 0 _ rfl;exact kA) hb);have n5_:=Aside0.mk (below_step bA hb);clear BK184 BK189 BK190 BK194 BK200 HB;have BK184:=n0_;have BK189:=n1_;have BK190:=n2_;have BK194:=n3_;have BK200:=n4_;have HB:=n5_;clear n0_ n1_ n2_ n3_ n4_ n5_;(try clear hb)))
  go_ret
  exact ⟨by first | rfl | (simp [errW_none,errW_some] <;> rfl) | (simp [*,errW_none,errW_some] <;> rfl),bA⟩
 ·rw [if_neg c8] at H
  have c8b0 : decide (0 < t201) = false:=decide_eq_false c8
  clear c8
  obtain rfl:=Option.some.inj H
  try go_wp2_with (first | ((with_reducible refine gate_callee (f:=69) rfl ?_);refine goesL_ (some 36) rfl rfl Tryd.func69 (by kernel_rfl) rfl #[.agg #[.int .u64 t191,.int .u64 t192],.agg #[.int .u64 t197,.int .u64 t198]] rfl aA ?_;(with_reducible refine (wide_Cmp.calls t191 t192 t197 t198 t201 _ A7.out).mono ?_);rintro e w40 ⟨rfl,hb⟩;refine ⟨_,rfl,?_⟩;have n0_:=Aside0.mk (blk_below (g:=gb184) (o:=.cells #[.int .i64 a0_0,.int .i64 a0_1,.int .i64 a0_2,.int .i64 a0_3,.int .i64 a0_4,.int .i64 a0_5,.int .i64 a0_6,.int .i64 a0_7] 77 (0,0)) (by (with_reducible repeat (first | refine blk_drewN ?_ _ | refine blk_drew ?_ | refine blk_alloc ?_ _));refine blk_far ?_ NB184_200.out _;(with_reducible repeat (first | refine blk_drewN ?_ _ | refine blk_drew ?_ | refine blk_alloc ?_ _));refine blk_far ?_ NB184_200.out _;exact kA) hb);have n1_:=Aside0.mk (blk_below (g:=gb189) (o:=.cells #[.int .u64 t185,.int .u64 t186] 87 (0,0)) (by (with_reducible repeat (first | refine blk_drewN ?_ _ | refine blk_drew ?_ | refine blk_alloc ?_ _));refine blk_far ?_ NB189_200.out _;(with_reducible repeat (first | refine blk_drewN ?_ _ | refine blk_drew ?_ | refine blk_alloc ?_ _));refine blk_far ?_ NB189_200.out _;exact kA) hb);have n2_:=Aside0.mk (blk_below (g:=gb190) (o:=.cells #[.int .u64 t187,.int .u64 t188] 87 (0,0)) (by (with_reducible repeat (first | refine blk_drewN ?_ _ | refine blk_drew ?_ | refine blk_alloc ?_ _));refine blk_far ?_ NB190_200.out _;(with_reducible repeat (first | refine blk_drewN ?_ _ | refine blk_drew ?_ | refine blk_alloc ?_ _));refine blk_far ?_ NB190_200.out _;exact kA) hb);have n3_:=Aside0.mk (blk_below (g:=gb194) (o:=.cells #[.int .u64 t191,.int .u64 t192] 87 (0,0)) (by (with_reducible repeat (first | refine blk_drewN ?_ _ | refine blk_drew ?_ | refine blk_alloc ?_ _));refine blk_far ?_ NB194_200.out _;(with_reducible repeat (first | refine blk_drewN ?_ _ | refine blk_drew ?_ | refine blk_alloc ?_ _));refine blk_far ?_ NB194_200.out _;exact kA) hb);have n4_:=Aside0.mk (blk_below (g:=gb200) (o:=.cells #[.int .u64 t197,.int .u64 t198] 87 (0,0)) (by (with_reducible repeat (first | refine blk_drewN ?_ _ | refine blk_drew ?_ | refine blk_alloc ?_ _));refine blk_put (cs:=#[.int .u64 t197,.int .u64 0]) ?_ 1 _ rfl;(with_reducible repeat (first | refine blk_drewN ?_ _ | refine blk_drew ?_ | refine blk_alloc ?_ _));refine blk_put (cs:=#[.int .u64 0,.int .u64 0]) ?_ 0 _ rfl;exact kA) hb);have n5_:=Aside0.mk (below_step bA hb);clear BK184 BK189 BK190 BK194 BK200 HB;have BK184:=n0_;have BK189:=n1_;have BK190:=n2_;have BK194:=n3_;have BK200:=n4_;have HB:=n5_;clear n0_ n1_ n2_ n3_ n4_ n5_;(try clear hb)))
  go_ret
  exact ⟨by first | rfl | (simp [errW_none,errW_some] <;> rfl) | (simp [*,errW_none,errW_some] <;> rfl),bA⟩

end Go.Proofs.YtgjjfnjnjnbfgaaDoor.GLG
