/- The texts of this claim, put together by program, what it does not name left out: part 1. Conditions: each theorem's own. -/
import Derived.Test.YtodibpddlibneaaGreatDoorY0
set_option maxHeartbeats 8000000
set_option maxRecDepth 100000
namespace Go.Proofs.YtodibpddlibneaaGreatDoor.T
open Go.RowKit YtodibpddlibneaaGreatDoorW.PrintWords YtodibpddlibneaaGreatDoorW.PrintLast H Go.Maps
set_option linter.unusedVariables false
set_option linter.unusedSimpArgs false
/-- The numbers below j of those whose parent is p,rising. -/
def kidsV (ls : List Acc) (p : Int) : Nat → List Int
  | 0 => []
  | j + 1 => if (ls.map Acc.par).getD j (-1) = p ∧ j < ls.length then kidsV ls p j ++ [(j : Int)] else kidsV ls p j
theorem kidsV_len (ls : List Acc) (p : Int) : ∀ j,(kidsV ls p j).length ≤ j
  | 0 => by simp [kidsV]
  | j + 1 => by
    have:=kidsV_len ls p j;rw [kidsV];split
    · rw [List.length_append];simp;omega
    · omega
theorem kidsV_step {ls : List Acc} {j : Nat} {a : Acc} (h : ls[j]? = some a) (p : Int) : kidsV ls p (j + 1) = if a.par = p then kidsV ls p j ++ [(j : Int)] else kidsV ls p j:=by
  have hl:=(List.getElem?_eq_some_iff.1 h).1;have e : (ls.map Acc.par).getD j (-1) = a.par:=by rw [List.getD_eq_getElem?_getD,List.getElem?_map,h];rfl
  rw [kidsV,e]
  by_cases q : a.par = p
  · rw [if_pos ⟨q,hl⟩,if_pos q]
  · rw [if_neg (fun h => q h.1),if_neg q]
def shV (ls : List Acc) (n : Int) : Int:=(ls.map Acc.sh).getD n.toNat 0
/-- The shares of some,together (64 bits). -/
def sisV (ls : List Acc) (ks : List Int) : Int:=ks.foldl (fun s k => IntKind.u64.wrap (s + IntKind.u64.wrap (shV ls k))) 0
theorem take_snoc {xs : List Int} {j : Nat} (h : j < xs.length) : xs.take (j + 1) = xs.take j ++ [rd xs (j : Int)]:=by
  rw [List.take_add_one,lG h];simp [rd,List.getD_eq_getElem?_getD,lG h]
theorem sisV_step {ls : List Acc} {ks : List Int} {j : Nat} (h : j < ks.length) : sisV ls (ks.take (j + 1)) = IntKind.u64.wrap (sisV ls (ks.take j) + IntKind.u64.wrap (shV ls (rd ks (j : Int)))):=by
  unfold sisV;rw [take_snoc h,List.foldl_append];rfl
theorem sh_cell {w : World} {ad : Addr} {n : Nat} {ls : List Acc} (h : Rd Ec w (some ad) n ls) {i : Nat} (hi : i < n) : w.cell? ⟨(ad.add (i * 5)).block,(ad.add (i * 5)).off + 2,none⟩ = some (.int .i64 (shV ls (i : Int))):=by
  obtain ⟨a,ha⟩ : ∃ a,ls[i]? = some a:=⟨_,lG (by rw [h.1];exact hi)⟩;have e2 : shV ls (i : Int) = a.sh:=by
    unfold shV;rw [Int.toNat_natCast,List.getD_eq_getElem?_getD,List.getElem?_map,ha];rfl
  rw [e2];exact (acc_cells h ha).2.2.1
theorem sisters_calls (w : World) (ad : Addr) (n c : Nat) (ls : List Acc) (B : Option Addr) (m d : Nat) (ks : List Int) (hr : Rd Ec w (some ad) n ls) (hk : Rd (Ei .i64) w B m ks) (hin : ∀ k ∈ ks,0 ≤ k ∧ k < n) :
    Calls Tryz.prog 75 #[.slice (some ad) n c,.slice B m d] w fun e w' => e = .returned (.int .u64 (sisV ls ks)) ∧ w = w':=by
  have hlen:=hk.2.1;have HR:=Am hr;have HK:=Am hk;have HM:=Am hk.1;have HI:=Am hin;clear hr hk hin;go_enter Tryz.func75,Tryz.ntmps75;go_wp2_with fail
  go_loopg [5,10] m (fun k v5 v10 wr => ∃ (j : Nat) (s : Int),v5 = .int .u64 s ∧ v10 = .int .i64 j ∧ Aside0 (j + k = m) ∧ j ≤ m ∧ Aside0 (s = sisV ls (ks.take j)) ∧ w = wr)
  case atStart => exact ⟨0,0,rfl,rfl,⟨by omega⟩,by omega,⟨rfl⟩,rfl⟩
  case round =>
    obtain ⟨j,s,rfl,rfl,HD,hj,HS,rfl⟩:=hrel
    cases gk with
    | zero =>
      obtain rfl : j = m:=by have:=HD.out;omega
      have HF:=Am (show s = sisV ls ks by rw [HS.out,List.take_of_length_le (by rw [HM.out];exact Nat.le_refl _)]);go_wp2;go_ret;exact ⟨by rw [← HF.out];rfl,rfl⟩
    | succ e =>
      have hlt : j < m:=by have:=HD.out;omega
      have hlt1 : decide ((j : Int) < (m : Int)) = true:=dT (by omega);have hji : (j : Int) < (m : Int):=by omega
      have hjl : j < ks.length:=by rw [HM.out];exact hlt
      obtain ⟨bd,rfl,hcj⟩:=HK.out.int j hlt;have hmem : rd ks (j : Int) ∈ ks:=by
        have : rd ks (j : Int) = ks[j]:=by simp [rd,List.getD_eq_getElem?_getD,lG hjl]
        rw [this];exact List.getElem_mem hjl
      obtain ⟨hq0,hq1⟩:=HI.out _ hmem;obtain ⟨q,hq⟩ : ∃ q : Nat,rd ks (j : Int) = q:=⟨(rd ks (j : Int)).toNat,by omega⟩;have HST:=Am (show sisV ls (ks.take (j + 1)) = IntKind.u64.wrap (s + IntKind.u64.wrap (shV ls (q : Int))) by rw [sisV_step hjl,hq,← HS.out]);rw [hq] at hcj;have hqn : q < n:=by omega
      have hqn2 : (q : Int) < (n : Int):=by omega
      have hsq:=sh_cell HR.out hqn;clear hmem hq0 hq1 hq;go_wp2_with fail
      go_roundg e
      case measure => omega
      case rel => exact ⟨j + 1,_,rfl,by go_num,⟨by have:=HD.out;omega⟩,by omega,⟨HST.out.symm⟩,rfl⟩
def NILS : DataW Value:=.held (.slice none 0 0)
theorem look_of {w : World} {kb n : Nat} {D : DataW Value} {p : Int} {v : Value} (h : w.ownsMap Tryz.prog 3 RK kb n D) (hp : (Lit.int .i64 p).wf = true) (hat : D.atKey (.int .i64 p) NILS = .held v) :
    (Instr.lookup 105 (.map (some kb)) (.int .i64 p) false).run Tryz.prog w = .ok v w:=by
  obtain ⟨u,ps,hr,hv⟩:=h.lookup (int_keyed Tryz.underlying3) Tryz.underlying105 (z:=.slice none 0 0) (by kernel_rfl) (zd:=NILS) (zp:=[]) rfl (keyOf_int_mk Tryz.underlying3 hp);have e : DataW.held u = D.atKey (.int .i64 p) NILS:=(Prod.mk.inj (oI hv)).1;rw [hat] at e;injection e with e;subst e;exact hr
/-- The children of each,below j. -/
structure KMap (w : World) (P : Nat) (f : Nat → Int) (kb n : Nat) (D : DataW Value) (ls : List Acc) (j : Nat) : Prop where
  own : w.ownsMap Tryz.prog 3 RK kb n D
  rows : ∀ p : Int,0 ≤ p → (Lit.int .i64 p).wf = true → ∃ A cc,D.atKey (.int .i64 p) NILS = .held (.slice A (kidsV ls p j).length cc) ∧ w.ownsRow P 3 (Ei .i64).sz (.slice A (kidsV ls p j).length cc) (kidsV ls p j).length (flat (Ei .i64) (kidsV ls p j)) ∧ ∀ b,(Value.slice A (kidsV ls p j).length cc).ownBlock = some b → f b = 10 + p
  fk : f kb = 4
theorem KMap.lt {w w' : World} {P : Nat} {f f' : Nat → Int} {kb n : Nat} {D : DataW Value} {ls : List Acc} {j : Nat} {T : Int → Prop} (h : KMap w P f kb n D ls j) (hl : Lt w f w' f' T) (hT : ∀ x,4 ≤ x → ¬ T x) : KMap w' P f' kb n D ls j:=by
  refine ⟨map_tn h.own hl.tn (by rw [h.fk];exact hT _ (by decide)),fun p h0 hp => ?_,by rw [hl.lab _ h.own.lt];exact h.fk⟩;obtain ⟨A,cc,h1,h2,h3⟩:=h.rows p h0 hp;exact ⟨A,cc,h1,own_tn h2 hl.tn (fun b hb => by rw [h3 b hb];exact hT _ (by omega)),fun b hb => by rw [hl.lab b (h2.lt b hb).2];exact h3 b hb⟩
/-- What kids answers: no map,or that of the children. -/
def KidsI (w : World) (ls : List Acc) (e : Ending) (w' : World) : Prop:=
  w.grownBy w' none ∧ ((loadE ls ≠ 0 ∧ e = .returned (.tuple #[.map none,.bool false])) ∨ (loadE ls = 0 ∧ ∃ kb n D f,e = .returned (.tuple #[.map (some kb),.bool true]) ∧ KMap w' w.heap.size f kb n D ls ls.length ∧ ∀ k,k < w.heap.size → f k = -1000))
theorem kids_calls (w : World) (ad : Addr) (n c : Nat) (x : Acc) (r : List Acc) (hr : Rd Ec w (some ad) n (x :: r)) (hc : n ≤ c) (hok : AccOk (x :: r)) :
    Calls Tryz.prog 70 #[.slice (some ad) n c] w (KidsI w (x :: r)):=by
  have hlen:=hr.2.1;have HC:=Am (load_calls w ad n c x r hr hc hok);have HR:=Am hr;have HN:=Am hr.1;have HOK:=Am hok;have hmk : ∀ W : World,(Instr.makeMap 105 none).run Tryz.prog W = .ok (.map (some W.heap.size)) (W.alloc (.map #[] 0)):=fun W => rfl
  clear hr hok hc;go_enter Tryz.func70,Tryz.ntmps70;go_wp2_with fail
  refine (HC.out).mono ?_;rintro e w1 ⟨⟨o,rfl⟩,hg⟩;have HG1:=Am hg;obtain ⟨ev,hev⟩ : ∃ ev,ev = loadE (x :: r):=⟨_,rfl⟩;have HEV:=Am hev;rw [← hev];clear hg hev HC
  by_cases h0 : ev = 0
  · have b0 : (ev != 0) = false:=by simp [h0]
    have HE0:=Am (show loadE (x :: r) = 0 by rw [← HEV.out,h0]);have hn64 : n ≤ 64:=by
      have h1:=HE0.out;unfold loadE at h1;simp only at h1;split at h1
      · cases h1
      · split at h1
        · cases h1
        · have:=HN.out;omega
    clear h0;go_upto_region 5 with (fail)
    have HM0:=Am (World.ownsMap_made w1 Tryz.prog 3 RK);have HG2:=Am (gT HG1.out (gA w1 (.map #[] 0) none));obtain ⟨kb,hkb⟩ : ∃ kb,kb = w1.heap.size:=⟨_,rfl⟩;have HKB : Aside0 (w.heap.size ≤ kb):=⟨by rw [hkb];exact HG1.out.size⟩;rw [← hkb] at HM0 ⊢;generalize w1.alloc (.map #[] 0) = w2 at HM0 HG2 ⊢;clear hkb hmk b0;go_wp2_with fail
    have HK0:=Am (show KMap w2 w.heap.size (fun k => if k < w.heap.size then -1000 else 4) kb 0 (.map []) (x :: r) 0 from ⟨HM0.out,fun p _ _ => ⟨none,0,rfl,own_nil _ _ _ _,fun b hb => by simp [Value.ownBlock] at hb⟩,by show (if _ then _ else _) = _;rw [if_neg (by have:=HKB.out;omega)]⟩);go_loopg [19] n (fun k v19 wr => ∃ (j m : Nat) (D : DataW Value) (f : Nat → Int),v19 = .int .i64 j ∧ Aside0 (j + k = n) ∧ j ≤ n ∧ Aside0 (KMap wr w.heap.size f kb m D (x :: r) j) ∧ Aside0 (m ≤ j) ∧ Aside0 (∀ i,i < w.heap.size → f i = -1000) ∧ Aside0 (w.grownBy wr none))
    case atStart => exact ⟨0,0,_,_,rfl,⟨by omega⟩,by omega,HK0,⟨Nat.le_refl _⟩,⟨fun i hi => if_pos hi⟩,HG2⟩
    case round =>
      clear HK0 HG2 HM0;obtain ⟨j,m0,D,f,rfl,HD,hj,HK,HM,HLOW,HG⟩:=hrel
      cases gk with
      | zero =>
        obtain rfl : j = n:=by have:=HD.out;omega
        go_wp2;go_ret2;refine ⟨HG.out,.inr ⟨HE0.out,kb,m0,D,f,rfl,?_,HLOW.out⟩⟩;rw [HN.out];exact HK.out
      | succ d =>
        have hlt : j < n:=by have:=HD.out;omega
        have hlt1 : decide ((j : Int) < (n : Int)) = true:=dT (by omega);have hji : (j : Int) < (n : Int):=by omega
        obtain ⟨a,ha⟩ : ∃ a,(x :: r)[j]? = some a:=⟨_,lG (by rw [HN.out];exact hlt)⟩;have HA:=Am ha;obtain ⟨h0,h1,h2,h3,h4⟩:=acc_cells (HR.out.gb HG.out) ha;have HPW:=Am (HOK.out a (List.mem_of_getElem? ha)).2;have HX1:=Am (heap_alloc_new wr (.cells #[.string a.nm,.int .i64 a.par,.int .i64 a.sh,.bool a.cl,.int .u64 a.us] 31));have HG2:=Am (gT HG.out (gA wr (.cells #[.string a.nm,.int .i64 a.par,.int .i64 a.sh,.bool a.cl,.int .u64 a.us] 31) none));have HK1:=Am (HK.out.lt (Lt.gb (f:=f) (T:=fun _ => False) (gA wr (.cells #[.string a.nm,.int .i64 a.par,.int .i64 a.sh,.bool a.cl,.int .u64 a.us] 31) none)) (fun _ _ h => h));obtain ⟨bx,hbx⟩ : ∃ bx,bx = wr.heap.size:=⟨_,rfl⟩;rw [← hbx] at HX1;have HPZ0:=Am HG.out.size;have HRO:=Am (show ∀ q : Int,0 ≤ q → (Lit.int .i64 q).wf = true → ∃ A cc,D.atKey (.int .i64 q) NILS = .held (.slice A (kidsV (x :: r) q j).length cc) ∧ (wr.alloc (.cells #[.string a.nm,.int .i64 a.par,.int .i64 a.sh,.bool a.cl,.int .u64 a.us] 31)).ownsRow w.heap.size 3 (Ei .i64).sz (.slice A (kidsV (x :: r) q j).length cc) (kidsV (x :: r) q j).length (flat (Ei .i64) (kidsV (x :: r) q j)) ∧ ∀ b,(Value.slice A (kidsV (x :: r) q j).length cc).ownBlock = some b → f b = 10 + q ∧ b < bx from fun q h0 hw => by
          obtain ⟨A,cc,e1,e2,e3⟩:=HK.out.rows q h0 hw;exact ⟨A,cc,e1,own_kept e2 (gA wr (.cells #[.string a.nm,.int .i64 a.par,.int .i64 a.sh,.bool a.cl,.int .u64 a.us] 31) none) (by simp),fun b hb => ⟨e3 b hb,by rw [hbx];exact (e2.lt b hb).2⟩⟩)
        clear ha HK HG;go_upto_region 8 with (fail)
        rw [← hbx];generalize wr.alloc (.cells #[.string a.nm,.int .i64 a.par,.int .i64 a.sh,.bool a.cl,.int .u64 a.us] 31) = W1 at HX1 HG2 HK1 HRO ⊢;clear h0 h1 h2 h3 h4 hbx;have k1:=cell_of (j:=1) (v:=.int .i64 a.par) HX1.out rfl
        by_cases hp : 0 ≤ a.par
        · have b1 : decide (0 ≤ a.par) = true:=dT hp
          go_upto_region 9 with (fail)
          obtain ⟨p,hpe⟩ : ∃ p,p = a.par:=⟨_,rfl⟩;have HPE:=Am hpe;rw [← hpe] at HX1 HPW hp ⊢;clear k1 b1 hpe;obtain ⟨A,cc,hat,hrow,hlab'⟩:=HRO.out p hp HPW.out;have hlab:=fun b hb => (hlab' b hb).1
          have hlabx:=fun b hb => (hlab' b hb).2
          clear hlab';obtain ⟨ks,hks⟩ : ∃ ks,ks = kidsV (x :: r) p j:=⟨_,rfl⟩;obtain ⟨m,hm⟩ : ∃ m,m = ks.length:=⟨_,rfl⟩;have HKS:=Am hks;have hm64 : m ≤ 64:=by have:=kidsV_len (x :: r) p j;rw [hm,hks];omega
          have hm0 : m0 ≤ 64:=by have:=HM.out;omega
          rw [← hks,← hm] at hat hrow hlab hlabx;have HRX:=Am hlabx;have HAT:=Am hat;have HR1:=Am hrow;have HRL:=Am hlab;have HMK:=Am hm;have HFK:=Am HK1.out.fk;have HP0:=Am hp;have HLN:=Am (show (ks ++ [(j : Int)]).length = m + 1 by rw [List.length_append,hm];rfl);obtain ⟨P,hPe⟩ : ∃ P,P = w.heap.size:=⟨_,rfl⟩;have HPEQ:=Am hPe;have HPZ:=Am (show P ≤ W1.heap.size by rw [hPe];exact HG2.out.size);rw [← hPe] at HR1;have HXd:=Am (show W1.drew.heap[bx]? = some (.cells #[.string a.nm,.int .i64 p,.int .i64 a.sh,.bool a.cl,.int .u64 a.us] 31 (0,0)) from HX1.out);have HOd:=Am (show W1.drew.ownsMap Tryz.prog 3 RK kb m0 D from HK1.out.own);have HRd:=Am (own_kept HR1.out (gb_drew W1 none) (by simp));clear hat hrow hlab hlabx hks hm hp hPe;refine start_ (n:=11) (S:=fun w' => w'.cell? ⟨bx,1,none⟩ = some (.int .i64 p) ∧ (Instr.lookup 105 (.map (some kb)) (.int .i64 p) false).run Tryz.prog w' = .ok (.slice A m cc) w') (ds:=[10]) #[nn,nn,nn,nn,nn,nn,nn,nn,nn,nn,nn] (by kernel_rfl) rfl rfl ⟨cell_of (j:=1) HXd.out rfl,look_of HOd.out HPW.out HAT.out⟩ (fun hHeld => ?_);refine pu_ 0 (some 27) (bm 11 1) (by kernel_rfl) ?_;refine pu_ 1 (some 28) (bm 11 3) (by kernel_rfl) ?_;refine pu_ 3 (some 30) (bm 11 11) (by kernel_rfl) ?_;refine pu_ 4 (some 31) (bm 11 27) (by kernel_rfl) ?_;refine pu_ 7 (some 34) (bm 11 155) (by kernel_rfl) ?_;refine tk_ 2 (some 29) (bm 11 159) (by kernel_rfl) hHeld ?_;refine tk_ 5 (some 32) (bm 11 191) (by kernel_rfl) hHeld ?_;refine tk_ 6 (some 33) (bm 11 255) (by kernel_rfl) hHeld ?_;refine one_ (i:=8) (N:=some 35) (bm 11 511) rfl rfl (by kernel_rfl) (by decide) (fun K hK => ?_);refine value_ (w1:=?_) (v:=?_) (by rfl) rfl ?_ ?_
          rotate_left 2
          · go_simp
            constructor
            · rfl
            · rfl
          have HX6:=Am (blk_kept HXd.out (gA _ (.cells #[.int .i64 j] 3) none) (by simp));have HO6:=Am (HOd.out.alloc (.cells #[.int .i64 j] 3));have HR6:=Am (own_kept HRd.out (gA _ (.cells #[.int .i64 j] 3) none) (by simp));have HL6:=Am (show Rd (Ei .i64) (W1.drew.alloc (.cells #[.int .i64 j] 3)) (some ⟨W1.drew.heap.size,0,none⟩) 1 [(j : Int)] from rd_lit (Ei .i64) W1.drew 3 [(j : Int)] (by simp));have HZ6 : Aside0 (P ≤ (W1.drew.alloc (.cells #[.int .i64 j] 3)).heap.size):=⟨by have h2:=HPZ.out;simp at h2 ⊢;omega⟩;refine hK.out _ _ ⟨cell_of (j:=1) HX6.out rfl,look_of HO6.out HPW.out HAT.out⟩ (fun hHeld => ?_);clear hK K;refine norm_ (a':=?_) ?_ ?_
          rotate_left
          · show Act.put _ (some 35) _ = _
            simp only [NR];rfl
          refine one_ (i:=9) (N:=some 36) (bm 11 1023) rfl rfl (by kernel_rfl) (by decide) (fun K hK => ?_);refine app_at_step (Ei .i64) (by rfl) rfl P (.tmp 33) (.tmp 35) 32 3 (.int .i64 0) 8 rfl Tryz.underlying32 (by kernel_rfl) rfl (by decide) (.slice A m cc) m ks [(j : Int)] _ 1 1 rfl rfl HR6.out HL6.out HZ6.out (by omega) ?_;intro v7 w7 ho hg hat;obtain ⟨A7,c7,rfl,-,-,-⟩:=own_open HLN.out ho;have HO7:=Am ho;have HG7:=Am hg;have HA7:=Am hat;have HX7:=Am (blk_kept HX6.out hg (fun e => by have:=HRX.out bx e.symm;omega));have HM7:=Am (HO6.out.kept hg (fun e => by have h3:=HRL.out kb e.symm;have h4:=HFK.out;have h5:=HP0.out;omega));clear ho hg hat;obtain ⟨W8,hup,ho8,hg8⟩:=HM7.out.update (int_keyed Tryz.underlying3) Tryz.underlying105 (by simp only [maxLen];omega) (keyOf_int_mk (k:=3) (q:=.i64) Tryz.underlying3 HPW.out) (val:=.slice A7 (m + 1 : Nat) c7) (d:=.held (.slice A7 (m + 1 : Nat) c7)) (ps:=[]) rfl;have HO8:=Am ho8;have HG8:=Am hg8;clear ho8 hg8;refine hK.out _ _ ⟨cell_of (j:=1) HX7.out rfl,look_of HM7.out HPW.out HAT.out⟩ (fun hHeld => ?_);clear hK K;refine norm_ (a':=?_) ?_ ?_
          rotate_left
          · show Act.put _ (some 36) _ = _
            simp only [NR];rfl
          refine last_ (i:=10) (N:=none) (bm 11 2047) rfl rfl (by kernel_rfl) (by decide) (fun K hK => ?_);refine skip_ (w1:=?_) (by rfl) rfl ?_ ?_
          rotate_left
          · go_simp
            rfl
          refine hK.out _ _ ?_;clear hK K;refine done_ (by kernel_rfl) ?_;go_wp2_with fail
          go_roundg d
          case measure => omega
          case rel =>
            have hT : Tn W1 W8 (fun b => f b = 4 ∨ f b = 10 + p):=
              (((Tn.drew W1 _).trans' (Tn.alloc _ _ _)).trans' (Tn.of_gb HG7.out (fun b hb => .inr (HRL.out b hb)))).trans' (Tn.of_gb HG8.out (fun b hb => by cases hb;exact .inl HFK.out))
            obtain ⟨f2,hl2,hf2⟩:=Lt.new (f:=f) (T:=fun y => y = 4 ∨ y = 10 + p) hT (10 + p);have hp0:=HP0.out;have hkl : kb < W1.heap.size:=HK1.out.own.lt;have hIs : Maps.IsMap D:=HK1.out.own.isMap;have hA7 : ∀ b,(Value.slice A7 (m + 1 : Nat) c7).ownBlock = some b → (f b = 10 + p ∧ b < W1.heap.size) ∨ W1.heap.size ≤ b:=fun b hb => by
              rcases HA7.out with e | e
              · rw [hb] at e
                exact .inl ⟨HRL.out b e.symm,(HR1.out.lt b e.symm).2⟩
              · rw [hb] at e
                have:=oI e;simp at this;exact .inr (by omega)
            refine ⟨j + 1,m0 + 1,_,f2,by go_num,⟨by have:=HD.out;omega⟩,by omega,⟨⟨HO8.out,fun q h0 hw => ?_,by rw [hl2.lab kb hkl];exact HFK.out⟩⟩,⟨by have:=HM.out;omega⟩,⟨fun i hi => by rw [hl2.lab i (by have:=HPZ.out;have:=HPEQ.out;omega)];exact HLOW.out i hi⟩,⟨?_⟩⟩
            · rw [kidsV_step HA.out,← HPE.out]
              by_cases e : q = p
              · subst e
                rw [if_pos rfl,← HKS.out,HLN.out];refine ⟨A7,c7,Maps.atKey_put_same hIs (show WideAt.IsKeyLit (Lit.int .i64 q) from trivial) _ _,?_,fun b hb => ?_⟩
                · rw [← HPEQ.out]
                  exact own_tn HO7.out (Tn.of_gb HG8.out (F:=fun b => b = kb) (fun b hb => by cases hb;rfl)) (fun b hb e => by
                    rcases hA7 b hb with ⟨h1,_⟩ | h1
                    · rw [e,HFK.out] at h1;omega
                    · omega)
                · rcases hA7 b hb with ⟨h1,h2⟩ | h1
                  · rw [hl2.lab b h2];exact h1
                  · exact hf2 b h1
              · rw [if_neg (fun h => e h.symm)]
                obtain ⟨A9,c9,h1,h2,h3⟩:=HK1.out.rows q h0 hw;refine ⟨A9,c9,?_,own_tn h2 hT (fun b hb hF => by have:=h3 b hb;omega),fun b hb => by rw [hl2.lab b (h2.lt b hb).2];exact h3 b hb⟩;rw [Maps.atKey_put_other (fun h => e (by injection h))];exact h1
            · have hz:=HG2.out.size
              refine ⟨hT.os.trans HG2.out.os,hT.tape.trans HG2.out.tape,hT.output.trans HG2.out.output,Nat.le_trans hz hT.size,fun i hi _ => ?_⟩;rw [hT.block i (by omega) (by rw [HLOW.out i hi];omega)];exact HG2.out.block i hi (by simp)
        · have b1 : decide (0 ≤ a.par) = false:=dF hp
          go_wp2_with fail
          go_roundg d
          case measure => omega
          case rel =>
            refine ⟨j + 1,m0,D,f,by go_num,⟨by have:=HD.out;omega⟩,by omega,⟨⟨HK1.out.own,fun p h0 hw => ?_,HK1.out.fk⟩⟩,⟨by have:=HM.out;omega⟩,HLOW,HG2⟩;rw [kidsV_step HA.out,if_neg (by omega)];exact HK1.out.rows p h0 hw
  · have b0 : (ev != 0) = true:=by simp [h0]
    have HE0:=Am (show loadE (x :: r) ≠ 0 by rw [← HEV.out];exact h0);clear h0;go_wp2;go_ret2;exact ⟨HG1.out,.inl ⟨HE0.out,rfl⟩⟩
theorem KMap.tn {w w' : World} {P : Nat} {f : Nat → Int} {kb n : Nat} {D : DataW Value} {ls : List Acc} {j : Nat} {F : Nat → Prop} (h : KMap w P f kb n D ls j) (hl : Tn w w' F) (hT : ∀ k,F k → f k < 4) : KMap w' P f kb n D ls j:=by
  refine ⟨map_tn h.own hl (fun hF => by have:=hT _ hF;have:=h.fk;omega),fun p h0 hp => ?_,h.fk⟩;obtain ⟨A,cc,h1,h2,h3⟩:=h.rows p h0 hp;exact ⟨A,cc,h1,own_tn h2 hl (fun b hb hF => by have:=hT _ hF;have:=h3 b hb;omega),h3⟩
theorem KMap.relab {w : World} {P : Nat} {f g : Nat → Int} {kb n : Nat} {D : DataW Value} {ls : List Acc} {j : Nat} (h : KMap w P f kb n D ls j) (hg : ∀ k,P ≤ k → k < w.heap.size → g k = f k) (hkb : P ≤ kb) : KMap w P g kb n D ls j:=by
  refine ⟨h.own,fun p h0 hp => ?_,by rw [hg kb hkb h.own.lt];exact h.fk⟩;obtain ⟨A,cc,h1,h2,h3⟩:=h.rows p h0 hp;exact ⟨A,cc,h1,h2,fun b hb => by rw [hg b (h2.lt b hb).1 (h2.lt b hb).2];exact h3 b hb⟩
theorem num_cell {w : World} {B b n c : Nat} {k : IntKind} {e : TypeId} {xs : List Int} (h : w.ownsRow B e (Ei k).sz (.slice (some ⟨b,0,none⟩) n c) n (flat (Ei k) xs)) {j : Nat} (hj : j < n) (hl : xs.length = n) : w.cell? ⟨b,j,none⟩ = some (.int k (rd xs (j : Int))):=by
  have hx : xs[j]? = some xs[j]:=lG (by omega)
  have:=own_cell (E:=Ei k) h j 0 _ hx (Nat.one_pos) (.int k xs[j]) rfl;rw [show j * (Ei k).sz + 0 = j by simp [Ei]] at this;rw [this];have : rd xs (j : Int) = xs[j]:=by simp [rd,List.getD_eq_getElem?_getD,lG (show j < xs.length by omega)]
  rw [this]
theorem num_put {w : World} {B b n c : Nat} {k : IntKind} {e : TypeId} {xs : List Int} (h : w.ownsRow B e (Ei k).sz (.slice (some ⟨b,0,none⟩) n c) n (flat (Ei k) xs)) {j : Nat} (hj : j < n) (hl : xs.length = n) (y : Int) :
    (w.setCell ⟨b,j,none⟩ (.int k y)).ownsRow B e (Ei k).sz (.slice (some ⟨b,0,none⟩) n c) n (flat (Ei k) (xs.set j y)):=by
  have hx : xs[j]? = some xs[j]:=lG (by omega)
  have:=own_put (E:=Ei k) h j 0 _ y (.int k y) hx (Nat.one_pos) rfl;rwa [show j * (Ei k).sz + 0 = j by simp [Ei]] at this
theorem i64_wf {q : Int} (h0 : -9223372036854775808 ≤ q) (h1 : q ≤ 9223372036854775807) : (Lit.int .i64 q).wf = true:=by
  have a : IntKind.i64.min ≤ q:=by rw [show IntKind.i64.min = -9223372036854775808 by decide];exact h0
  have b : q ≤ IntKind.i64.max:=by rw [show IntKind.i64.max = 9223372036854775807 by decide];exact h1
  unfold Lit.wf;simp only [dT a,dT b,Bool.and_self]
theorem rd_set_ne {xs : List Int} {q p : Nat} {y : Int} (h : q ≠ p) : rd (xs.set q y) (p : Int) = rd xs (p : Int):=by
  simp [rd,List.getD_eq_getElem?_getD,List.getElem?_set_ne h]
abbrev St2:=List Int × List Int
/-- What one child's turn writes ahead of its own walk. -/
def setV (ls : List Acc) (p : Int) (st : St2) (i : Int) : St2:=
  (st.1.set i.toNat (IntKind.u64.wrap (rd st.1 p * IntKind.u64.wrap (shV ls i))),st.2.set i.toNat (IntKind.u64.wrap (rd st.2 p * sisV ls (kidsV ls p ls.length))))
def foldV (g : Int → St2 → St2) (ls : List Acc) (p : Int) (ks : List Int) (st : St2) : St2:=ks.foldl (fun s i => g i (setV ls p s i)) st
/-- What stands while the fractions are written. -/
structure Shr (w : World) (P : Nat) (f : Nat → Int) (kb m : Nat) (D : DataW Value) (ls : List Acc) (ad : Addr) (n c g1 g2 g3 g4 g5 nb db : Nat) (fv : Value) : Prop where
  rd : Rd Ec w (some ad) n ls
  km : KMap w P f kb m D ls ls.length
  b1 : w.heap[g1]? = some (.cells #[.slice (some ad) n c] 24 (0,0))
  b2 : w.heap[g2]? = some (.cells #[.map (some kb)] 105 (0,0))
  b3 : w.heap[g3]? = some (.cells #[.slice (some ⟨nb,0,none⟩) n n] 42 (0,0))
  b4 : w.heap[g4]? = some (.cells #[.slice (some ⟨db,0,none⟩) n n] 42 (0,0))
  b5 : w.heap[g5]? = some (.cells #[fv] 109 (0,0))
  fa : f ad.block < 0
  f1 : f g1 = 2
  f2 : f g2 = 2
  f3 : f g3 = 2
  f4 : f g4 = 2
  f5 : f g5 = 2
  fn : f nb = 0
  fd : f db = 1
def F01 (f : Nat → Int) (k : Nat) : Prop:=f k = 0 ∨ f k = 1
theorem Shr.tn {w w' : World} {P : Nat} {f : Nat → Int} {kb m : Nat} {D : DataW Value} {ls : List Acc} {ad : Addr} {n c g1 g2 g3 g4 g5 nb db : Nat} {fv : Value} (h : Shr w P f kb m D ls ad n c g1 g2 g3 g4 g5 nb db fv) (t : Tn w w' (F01 f)) : Shr w' P f kb m D ls ad n c g1 g2 g3 g4 g5 nb db fv:=by
  have no2 : ∀ g,f g = 2 → ¬ F01 f g:=fun g hg hF => by rcases hF with e | e <;> omega
  refine ⟨h.rd.tn t (fun a ha _ hF => by cases ha;have:=h.fa;rcases hF with e | e <;> omega),h.km.tn t (fun k hF => by rcases hF with e | e <;> omega),blk_tn h.b1 t (no2 _ h.f1),blk_tn h.b2 t (no2 _ h.f2),blk_tn h.b3 t (no2 _ h.f3),blk_tn h.b4 t (no2 _ h.f4),blk_tn h.b5 t (no2 _ h.f5),h.fa,h.f1,h.f2,h.f3,h.f4,h.f5,h.fn,h.fd⟩
/-- What one walk answers and leaves. -/
def DownI (w : World) (Q : Nat) (f : Nat → Int) (n nb db : Nat) (st : St2) (e : Ending) (w' : World) : Prop:=
  e = .returned (.tuple #[]) ∧ st.1.length = n ∧ st.2.length = n ∧ w'.ownsRow Q 29 (Ei .u64).sz (.slice (some ⟨nb,0,none⟩) n n) n (flat (Ei .u64) st.1) ∧ w'.ownsRow Q 29 (Ei .u64).sz (.slice (some ⟨db,0,none⟩) n n) n (flat (Ei .u64) st.2) ∧ Tn w w' (F01 f)
def capsV (g1 g2 g3 g4 g5 : Nat) : Array Value:=#[.pointer (some ⟨g1,0,none⟩),.pointer (some ⟨g2,0,none⟩),.pointer (some ⟨g3,0,none⟩),.pointer (some ⟨g4,0,none⟩),.pointer (some ⟨g5,0,none⟩)]
theorem down_walk (P Q : Nat) (f : Nat → Int) (kb m : Nat) (D : DataW Value) (ls : List Acc) (ad : Addr) (n c g1 g2 g3 g4 g5 nb db : Nat) (g : Int → St2 → St2) (p : Nat) (hpn : p < n)
    (hin : ∀ k ∈ kidsV ls (p : Int) n,0 ≤ k ∧ k < n) (hnp : ∀ k ∈ kidsV ls (p : Int) n,k ≠ p)
    (IH : ∀ i ∈ kidsV ls (p : Int) n,∀ (w : World) (st : St2),Shr w P f kb m D ls ad n c g1 g2 g3 g4 g5 nb db (.func (.func 76) #[] (capsV g1 g2 g3 g4 g5)) → st.1.length = n → st.2.length = n → w.ownsRow Q 29 (Ei .u64).sz (.slice (some ⟨nb,0,none⟩) n n) n (flat (Ei .u64) st.1) → w.ownsRow Q 29 (Ei .u64).sz (.slice (some ⟨db,0,none⟩) n n) n (flat (Ei .u64) st.2) →
      Calls Tryz.prog 76 (#[.int .i64 i] ++ capsV g1 g2 g3 g4 g5) w (DownI w Q f n nb db (g i st)))
    (w : World) (st : St2) (hs : Shr w P f kb m D ls ad n c g1 g2 g3 g4 g5 nb db (.func (.func 76) #[] (capsV g1 g2 g3 g4 g5))) (h1 : st.1.length = n) (h2 : st.2.length = n)
    (ho : w.ownsRow Q 29 (Ei .u64).sz (.slice (some ⟨nb,0,none⟩) n n) n (flat (Ei .u64) st.1)) (hd : w.ownsRow Q 29 (Ei .u64).sz (.slice (some ⟨db,0,none⟩) n n) n (flat (Ei .u64) st.2)) :
    Calls Tryz.prog 76 (#[.int .i64 p] ++ capsV g1 g2 g3 g4 g5) w (DownI w Q f n nb db (foldV g ls (p : Int) (kidsV ls (p : Int) n) st)):=by
  have HLS:=Am (show ls.length = n from hs.rd.1);have hn64:=hs.rd.2.1;have hpn2 : (p : Int) < (n : Int):=by omega
  have hpw : (Lit.int .i64 (p : Int)).wf = true:=i64_wf (by omega) (by omega);obtain ⟨A,cc,hat,hrow,hlab⟩:=hs.km.rows (p : Int) (by omega) hpw;rw [HLS.out] at hat hrow hlab;have hlk:=look_of hs.km.own hpw hat;obtain ⟨ks,hks⟩ : ∃ ks,ks = kidsV ls (p : Int) n:=⟨_,rfl⟩;have HKS:=Am hks;rw [← hks] at hin hnp IH hat hrow hlab hlk ⊢;obtain ⟨r,hr⟩ : ∃ r,r = ks.length:=⟨_,rfl⟩;have HRL:=Am hr;rw [← hr] at hat hrow hlab hlk;have HB:=Am hrow;have HLB:=Am hlab;have HAT:=Am hat;obtain ⟨A',c',he,hrk,-,-⟩:=own_open hr.symm hrow;injection he with e1 e2 e3;subst e1 e3;have HRK:=Am hrk;have hr64:=hrk.2.1;have HSI:=Am (sisters_calls w ad n c ls A r cc ks hs.rd hrk hin);have HIN:=Am hin;have HNP:=Am hnp;have HIH:=Am IH;have HS:=Am hs;have HNB : Aside0 (nb ≠ db):=⟨fun e => by have h3:=hs.fn;have h4:=hs.fd;rw [e] at h3;omega⟩;have HO:=Am ho;have HD:=Am hd;have HL1:=Am h1;have HL2:=Am h2;have k1:=cell_of (j:=0) hs.b1 rfl;have k2:=cell_of (j:=0) hs.b2 rfl;clear hrow hlab hat hks hr hrk hin hnp IH hs ho hd h1 h2 hpw;show Calls Tryz.prog 76 #[.int .i64 p,.pointer (some ⟨g1,0,none⟩),.pointer (some ⟨g2,0,none⟩),.pointer (some ⟨g3,0,none⟩),.pointer (some ⟨g4,0,none⟩),.pointer (some ⟨g5,0,none⟩)] w _;go_enter Tryz.func76,Tryz.ntmps76;go_wp2_with fail
  refine (HSI.out).mono ?_;rintro e w1 ⟨rfl,rfl⟩;obtain ⟨all,hall⟩ : ∃ all,all = sisV ls ks:=⟨_,rfl⟩;have HALL:=Am hall;rw [← hall];clear hall HSI;go_wp2_with fail
  go_loopg [19] r (fun k v19 wr => ∃ (j : Nat) (s : St2),v19 = .int .i64 j ∧ Aside0 (j + k = r) ∧ j ≤ r ∧ Aside0 (foldV g ls (p : Int) (ks.take j) st = s) ∧ Aside0 (s.1.length = n) ∧ Aside0 (s.2.length = n) ∧ Aside0 (wr.ownsRow Q 29 (Ei .u64).sz (.slice (some ⟨nb,0,none⟩) n n) n (flat (Ei .u64) s.1)) ∧ Aside0 (wr.ownsRow Q 29 (Ei .u64).sz (.slice (some ⟨db,0,none⟩) n n) n (flat (Ei .u64) s.2)) ∧ Aside0 (Tn w wr (F01 f)))
  case atStart => exact ⟨0,st,rfl,⟨by omega⟩,by omega,⟨rfl⟩,HL1,HL2,HO,HD,⟨Tn.refl _ _⟩⟩
  case round =>
    clear HO HD HL1 HL2 k1 k2 hlk;obtain ⟨j,⟨ns,ds⟩,rfl,HDJ,hj,HE,HLN,HLD,HN,HDD,HT⟩:=hrel
    cases gk with
    | zero =>
      obtain rfl : j = r:=by have:=HDJ.out;omega
      go_wp2
      go_end0
      refine ⟨rfl,?_⟩;have hE:=HE.out;rw [List.take_of_length_le (by rw [HRL.out];exact Nat.le_refl _)] at hE;rw [hE];exact ⟨HLN.out,HLD.out,HN.out,HDD.out,HT.out⟩
    | succ d =>
      have hlt : j < r:=by have:=HDJ.out;omega
      have hlt1 : decide ((j : Int) < (r : Int)) = true:=dT (by omega);have hji : (j : Int) < (r : Int):=by omega
      have hjl : j < ks.length:=by rw [← HRL.out];exact hlt
      have HS1:=Am (HS.out.tn HT.out);have HRK1:=Am (HRK.out.tn HT.out (fun a ha h0 hF => by
        subst ha;have h3:=HLB.out a.block;have hform:=(own_form HB.out).2 a rfl;rw [hform] at h3;have h4:=h3 rfl;simp at h4;rcases hF with e | e <;> omega))
      obtain ⟨bd,rfl,hcj⟩:=HRK1.out.int j hlt;have hmem : rd ks (j : Int) ∈ ks:=by
        have : rd ks (j : Int) = ks[j]:=by simp [rd,List.getD_eq_getElem?_getD,lG hjl]
        rw [this];exact List.getElem_mem hjl
      obtain ⟨hq0,hq1⟩:=HIN.out _ hmem;have hqp0:=HNP.out _ hmem;have HCI:=HIH.out _ hmem;obtain ⟨q,hq⟩ : ∃ q : Nat,rd ks (j : Int) = q:=⟨(rd ks (j : Int)).toNat,by omega⟩;have HST:=Am (show foldV g ls (p : Int) (ks.take (j + 1)) st = g (q : Int) (setV ls (p : Int) (ns,ds) (q : Int)) by rw [take_snoc hjl,hq,← HE.out];unfold foldV;rw [List.foldl_append];rfl);rw [hq] at hcj HCI hqp0;have hqp : q ≠ p:=fun e => hqp0 (by rw [e])
      have HCQ:=Am HCI;have hqn : q < n:=by omega
      have hqn2 : (q : Int) < (n : Int):=by omega
      clear hmem hq0 hq1 hq HCI hqp0;go_upto_region 4 with (fail)
      have HSd:=Am (HS1.out.tn (Tn.drew wr _));have HNd:=Am (own_kept HN.out (gb_drew wr none) (by simp));have HDd:=Am (own_kept HDD.out (gb_drew wr none) (by simp));have hcn:=num_cell HN.out hqn HLN.out;have hcd : ∀ v,(wr.setCell ⟨nb,q,none⟩ v).cell? ⟨db,q,none⟩ = some (.int .u64 (rd ds (q : Int))):=fun v => num_cell (own_tn HDD.out (Tn.set nb q _ (F:=fun k => k = nb) rfl) (fun k hk e => by cases hk;exact HNB.out e.symm)) hqn HLD.out
      have hfn:=own_frozen HN.out q;have hfd:=own_frozen HDD.out q;refine start_ (n:=25) (S:=fun w' => w'.cell? ⟨g1,0,none⟩ = some (.slice (some ad) n c) ∧ w'.cell? ⟨g3,0,none⟩ = some (.slice (some ⟨nb,0,none⟩) n n) ∧ w'.cell? ⟨g4,0,none⟩ = some (.slice (some ⟨db,0,none⟩) n n) ∧ w'.cell? ⟨nb,p,none⟩ = some (.int .u64 (rd ns (p : Int))) ∧ w'.cell? ⟨db,p,none⟩ = some (.int .u64 (rd ds (p : Int))) ∧ w'.cell? ⟨(ad.add (q * 5)).block,(ad.add (q * 5)).off + 2,none⟩ = some (.int .i64 (shV ls (q : Int)))) (ds:=[24]) #[nn,nn,nn,nn,nn,nn,nn,nn,nn,nn,nn,nn,nn,nn,nn,nn,nn,nn,nn,nn,nn,nn,nn,nn,nn] (by kernel_rfl) rfl rfl ⟨cell_of (j:=0) HSd.out.b1 rfl,cell_of (j:=0) HSd.out.b3 rfl,cell_of (j:=0) HSd.out.b4 rfl,num_cell HNd.out hpn HLN.out,num_cell HDd.out hpn HLD.out,sh_cell HSd.out.rd hqn⟩ (fun hHeld => ?_);refine pu_ 1 (some 24) (bm 25 2) (by kernel_rfl) ?_;refine pu_ 3 (some 26) (bm 25 10) (by kernel_rfl) ?_;refine pu_ 5 (some 28) (bm 25 42) (by kernel_rfl) ?_;refine pu_ 9 (some 32) (bm 25 554) (by kernel_rfl) ?_;refine pu_ 16 (some 39) (bm 25 66090) (by kernel_rfl) ?_;refine pu_ 19 (some 42) (bm 25 590378) (by kernel_rfl) ?_;refine tk_ 0 (some 23) (bm 25 590379) (by kernel_rfl) hHeld ?_;refine tk_ 2 (some 25) (bm 25 590383) (by kernel_rfl) hHeld ?_;refine tk_ 4 (some 27) (bm 25 590399) (by kernel_rfl) hHeld ?_;refine pu_ 6 (some 29) (bm 25 590463) (by kernel_rfl) ?_;refine tk_ 7 (some 30) (bm 25 590591) (by kernel_rfl) hHeld ?_;refine tk_ 8 (some 31) (bm 25 590847) (by kernel_rfl) hHeld ?_;refine pu_ 10 (some 33) (bm 25 591871) (by kernel_rfl) ?_;refine pu_ 11 (some 34) (bm 25 593919) (by kernel_rfl) ?_;refine tk_ 12 (some 35) (bm 25 598015) (by kernel_rfl) hHeld ?_;refine pu_ 13 (some 36) (bm 25 606207) (by kernel_rfl) ?_;refine pu_ 14 (some 37) (bm 25 622591) (by kernel_rfl) ?_;refine tk_ 15 (some 38) (bm 25 655359) (by kernel_rfl) hHeld ?_;refine pu_ 17 (some 40) (bm 25 786431) (by kernel_rfl) ?_;refine tk_ 18 (some 41) (bm 25 1048575) (by kernel_rfl) hHeld ?_;refine pu_ 20 (some 43) (bm 25 2097151) (by kernel_rfl) ?_;refine pu_ 21 (some 44) (bm 25 4194303) (by kernel_rfl) ?_;refine one_ (i:=22) (N:=none) (bm 25 8388607) rfl rfl (by kernel_rfl) (by decide) (fun K hK => ?_);refine skip_ (w1:=?_) (by rfl) rfl ?_ ?_
      rotate_left
      · go_simp
        rfl
      refine hK.out _ _ ⟨cell_of (j:=0) (HSd.out.tn (Tn.set nb q _ (Or.inl HSd.out.fn))).b1 rfl,cell_of (j:=0) (HSd.out.tn (Tn.set nb q _ (Or.inl HSd.out.fn))).b3 rfl,cell_of (j:=0) (HSd.out.tn (Tn.set nb q _ (Or.inl HSd.out.fn))).b4 rfl,(num_cell (num_put HNd.out hqn HLN.out _) hpn (by simpa using HLN.out)).trans (by rw [rd_set_ne hqp]),num_cell (own_tn HDd.out (Tn.set nb q _ (F:=fun k => k = nb) rfl) (fun k hk e => by cases hk;exact HNB.out e.symm)) hpn HLD.out,sh_cell (HSd.out.tn (Tn.set nb q _ (Or.inl HSd.out.fn))).rd hqn⟩ (fun hHeld => ?_);clear hK K;refine pu_ 23 (some 45) (bm 25 16777215) (by kernel_rfl) ?_;refine last_ (i:=24) (N:=none) (bm 25 33554431) rfl rfl (by kernel_rfl) (by decide) (fun K hK => ?_);refine skip_ (w1:=?_) (by rfl) rfl ?_ ?_
      rotate_left
      · go_simp
        rfl
      refine hK.out _ _ ?_;clear hK K;refine done_ (by kernel_rfl) ?_;obtain ⟨X,hX⟩ : ∃ X,X = IntKind.u64.wrap (rd ns (p : Int) * IntKind.u64.wrap (shV ls (q : Int))):=⟨_,rfl⟩;obtain ⟨Y,hY⟩ : ∃ Y,Y = IntKind.u64.wrap (rd ds (p : Int) * all):=⟨_,rfl⟩;have HXY:=Am (show setV ls (p : Int) (ns,ds) (q : Int) = (ns.set q X,ds.set q Y) by rw [hX,hY,HALL.out,HKS.out,← HLS.out];rfl);rw [← hX,← hY];have HN3:=Am (own_kept (own_tn (num_put HN.out hqn HLN.out X) (Tn.set db q (.int .u64 Y) (F:=fun k => k = db) rfl) (fun k hk e => by cases hk;exact HNB.out e)) (gb_drew _ none) (by simp));have HD3:=Am (own_kept (num_put (own_tn HDD.out (Tn.set nb q (.int .u64 X) (F:=fun k => k = nb) rfl) (fun k hk e => by cases hk;exact HNB.out e.symm)) hqn HLD.out Y) (gb_drew _ none) (by simp));have HT3:=Am (HT.out.trans' (((Tn.set nb q (.int .u64 X) (Or.inl HSd.out.fn)).trans' (Tn.set db q (.int .u64 Y) (Or.inr HSd.out.fd))).trans' (Tn.drew _ (F01 f))));generalize ((wr.setCell { block:=nb,off:=q } (.int .u64 X)).setCell { block:=db,off:=q } (.int .u64 Y)).drew = w3 at HN3 HD3 HT3 ⊢;have HS3:=Am (HS.out.tn HT3.out);have hc5:=cell_of (j:=0) HS3.out.b5 rfl;clear hX hY hcn hcd hfn hfd hcj;go_wp2_with fail
      refine (HCQ.out w3 (setV ls (p : Int) (ns,ds) (q : Int)) HS3.out (by rw [HXY.out];simpa using HLN.out) (by rw [HXY.out];simpa using HLD.out) (by rw [HXY.out];exact HN3.out) (by rw [HXY.out];exact HD3.out)).mono ?_;rintro e w4 ⟨rfl,e1,e2,e3,e4,e5⟩;have HE1:=Am e1;have HE2:=Am e2;have HE3:=Am e3;have HE4:=Am e4;have HE5:=Am e5;clear e1 e2 e3 e4 e5 HCQ hc5;go_wp2_with fail
      go_roundg d
      case measure => omega
      case rel => exact ⟨j + 1,_,by go_num,⟨by have:=HDJ.out;omega⟩,by omega,⟨HST.out⟩,HE1,HE2,HE3,HE4,⟨HT3.out.trans' HE5.out⟩⟩
/-- What the walk down from p writes,as far as k deep. -/
def downV (ls : List Acc) : Nat → Int → St2 → St2
  | 0,_,st => st
  | k + 1,p,st => foldV (downV ls k) ls p (kidsV ls p ls.length) st
theorem down_calls (P Q : Nat) (f : Nat → Int) (kb m : Nat) (D : DataW Value) (ls : List Acc) (ad : Addr) (n c g1 g2 g3 g4 g5 nb db : Nat) (hln : ls.length = n)
    (hin : ∀ p k,k ∈ kidsV ls p n → 0 ≤ k ∧ k < n) (hd : ∀ p k,0 ≤ p → k ∈ kidsV ls p n → depV ls k = depV ls p + 1) (h4 : ∀ p : Int,0 ≤ p → p < n → depV ls p ≤ 4) :
    ∀ (k : Nat) (p : Int),0 ≤ p → p < n → 5 ≤ depV ls p + k → ∀ (w : World) (st : St2),Shr w P f kb m D ls ad n c g1 g2 g3 g4 g5 nb db (.func (.func 76) #[] (capsV g1 g2 g3 g4 g5)) → st.1.length = n → st.2.length = n → w.ownsRow Q 29 (Ei .u64).sz (.slice (some ⟨nb,0,none⟩) n n) n (flat (Ei .u64) st.1) → w.ownsRow Q 29 (Ei .u64).sz (.slice (some ⟨db,0,none⟩) n n) n (flat (Ei .u64) st.2) →
      Calls Tryz.prog 76 (#[.int .i64 p] ++ capsV g1 g2 g3 g4 g5) w (DownI w Q f n nb db (downV ls k p st)):=by
  intro k
  induction k with
  | zero => intro p h0 h1 hk;have:=h4 p h0 h1;omega
  | succ k ih =>
    intro p h0 h1 hk w st hs l1 l2 o1 o2;obtain ⟨q,rfl⟩ : ∃ q : Nat,p = q:=⟨p.toNat,by omega⟩;rw [show downV ls (k + 1) (q : Int) st = foldV (downV ls k) ls (q : Int) (kidsV ls (q : Int) n) st by rw [downV,hln]];exact down_walk P Q f kb m D ls ad n c g1 g2 g3 g4 g5 nb db (downV ls k) q (by omega) (hin q) (fun k' hk' e => by have:=hd q k' h0 hk';rw [e] at this;omega)
      (fun i hi w' st' h l1' l2' o1' o2' => ih i (hin q i hi).1 (hin q i hi).2 (by have:=hd q i h0 hi;omega) w' st' h l1' l2' o1' o2') w st hs l1 l2 o1 o2
theorem parV_lt {ls : List Acc} {m : Nat} (h : m < ls.length) : (ls.map Acc.par).getD m (-1) = parV ls (m : Int):=by
  unfold parV;rw [Int.toNat_natCast,List.getD_eq_getElem?_getD,List.getD_eq_getElem?_getD,List.getElem?_map,lG h];rfl
theorem parV_at {ls : List Acc} {m : Nat} {a : Acc} (h : ls[m]? = some a) : parV ls (m : Int) = a.par:=by
  unfold parV;rw [Int.toNat_natCast,List.getD_eq_getElem?_getD,List.getElem?_map,h];rfl
theorem shV_at {ls : List Acc} {m : Nat} {a : Acc} (h : ls[m]? = some a) : shV ls (m : Int) = a.sh:=by
  unfold shV;rw [Int.toNat_natCast,List.getD_eq_getElem?_getD,List.getElem?_map,h];rfl
theorem kids_mem {ls : List Acc} {p k : Int} : ∀ {j : Nat},j ≤ ls.length → (k ∈ kidsV ls p j ↔ 0 ≤ k ∧ k < j ∧ parV ls k = p)
  | 0,_ => by simp [kidsV];omega
  | j + 1,h => by
    have ih:=kids_mem (ls:=ls) (p:=p) (k:=k) (j:=j) (by omega);rw [kidsV,parV_lt (by omega : j < ls.length)]
    by_cases e : parV ls (j : Int) = p
    · rw [if_pos ⟨e,by omega⟩,List.mem_append,ih,List.mem_singleton]
      constructor
      · rintro (⟨a,b,c⟩ | rfl)
        · exact ⟨a,by omega,c⟩
        · exact ⟨by omega,by omega,e⟩
      · rintro ⟨a,b,c⟩
        by_cases hk : k = j
        · exact .inr hk
        · exact .inl ⟨a,by omega,c⟩
    · rw [if_neg (fun h => e h.1),ih]
      constructor
      · rintro ⟨a,b,c⟩
        exact ⟨a,by omega,c⟩
      · rintro ⟨a,b,c⟩
        refine ⟨a,?_,c⟩
        by_cases hk : k = j
        · rw [hk] at c;exact absurd c e
        · omega
/-- A list that Load takes. -/
structure Tree (ls : List Acc) : Prop where
  pos : 0 < ls.length
  le : ls.length ≤ 64
  root : (ls.map Acc.par).getD 0 0 = -1
  pars : Pars ls
  dep : ∀ n : Nat,n < ls.length → 0 ≤ depV ls n ∧ depV ls n ≤ 4
  sh : ∀ n : Nat,n < ls.length → 1 ≤ shV ls n ∧ shV ls n ≤ 4096
theorem rows_sh {ls : List Acc} : ∀ (k i : Nat),i + k = ls.length → rowsE ls k i = 0 → ∀ (n : Nat),i ≤ n → n < ls.length → shB (shV ls n) = true
  | 0,i,hk,_,n,h1,h2 => by omega
  | k + 1,i,hk,h,n,h1,h2 => by
    have hi : i < ls.length:=by omega
    rw [rowsE,lG hi] at h;simp only at h
    by_cases hr : rowE ls i ls[i] = 0
    · rw [if_pos hr] at h
      rcases Nat.eq_or_lt_of_le h1 with e | e
      · subst e
        rw [shV_at (lG hi)];unfold rowE at hr;split at hr
        · cases hr
        · split at hr
          · cases hr
          · split at hr
            · cases hr
            · split at hr
              · cases hr
              · rename_i e;simpa using e
      · exact rows_sh k (i + 1) (by omega) h n e h2
    · rw [if_neg hr] at h;exact absurd h hr
theorem deps_ok {ls : List Acc} : ∀ (k i : Nat),depsE ls k i = 0 → ∀ n,i ≤ n → n < i + k → depE ls n = 0
  | 0,i,_,n,h1,h2 => by omega
  | k + 1,i,h,n,h1,h2 => by
    rw [depsE] at h
    by_cases e : depE ls i = 0
    · rw [if_pos e] at h
      rcases Nat.eq_or_lt_of_le h1 with q | q
      · rw [← q];exact e
      · exact deps_ok k (i + 1) h n q (by omega)
    · rw [if_neg e] at h;exact absurd h e
theorem tree_of {ls : List Acc} (h : loadE ls = 0) : Tree ls:=by
  match ls,h with
  | [],h => cases h
  | a :: r,h =>
    unfold loadE at h;simp only at h;split at h
    · cases h
    · rename_i h1
      split at h
      · cases h
      · rename_i h2
        split at h
        · rename_i h3
          have hr:=accEq_iff (a:=zeroU a) (b:=rootA) (by cases he : accEq (zeroU a) rootA with | true => rfl | false => exact absurd he h1);have hp : a.par = -1:=congrArg Acc.par hr;have hs : a.sh = 1:=congrArg Acc.sh hr;refine ⟨by simp,by omega,by simp [hp],load_pars (by simpa using h3) (by simp),fun n hn => ?_,fun n hn => ?_⟩
          · have:=deps_ok _ _ h n (by omega) (by omega)
            unfold depE at this;split at this
            · cases this
            · split at this
              · cases this
              · omega
          · by_cases h0 : n = 0
            · subst h0
              have:=shV_at (ls:=a :: r) (m:=0) rfl;rw [this,hs];omega
            · have:=rows_sh (ls:=a :: r) r.length 1 (by simp;omega) h3 n (by omega) hn
              unfold shB at this;simp at this;exact this
        · rename_i h3;exact absurd h h3
theorem depL_more {ls : List Acc} : ∀ (k : Nat) (d n : Int),0 ≤ d → 0 ≤ depL ls k d n → depL ls (k + 1) d n = depL ls k d n
  | 0,d,n,_,h => by simp [depL] at h
  | k + 1,d,n,hd,h => by
    rw [depL] at h;rw [depL]
    conv => rhs;rw [depL]
    by_cases e : n = 0
    · rw [if_pos e,if_pos e]
    · rw [if_neg e] at h ⊢
      rw [if_neg e];exact depL_more k (d + 1) _ (by omega) h
theorem depL_shift {ls : List Acc} : ∀ (k : Nat) (d n : Int),0 ≤ d → 0 ≤ depL ls k (d + 1) n → depL ls k d n = depL ls k (d + 1) n - 1 ∧ d ≤ depL ls k d n
  | 0,d,n,_,h => by simp [depL] at h
  | k + 1,d,n,hd,h => by
    rw [depL] at h ⊢
    conv => lhs;rhs;rw [depL]
    by_cases e : n = 0
    · rw [if_pos e,if_pos e];omega
    · rw [if_neg e] at h ⊢
      rw [if_neg e]
      have:=depL_shift k (d + 1) _ (by omega) h;omega
theorem Tree.par {ls : List Acc} (t : Tree ls) {n : Int} (h0 : 0 < n) (h1 : n < ls.length) : 0 ≤ parV ls n ∧ parV ls n < ls.length ∧ depV ls n = depV ls (parV ls n) + 1:=by
  obtain ⟨a,b⟩:=t.pars n h0 h1;refine ⟨a,b,?_⟩;have hd:=t.dep n.toNat (by omega);rw [Int.toNat_of_nonneg (by omega)] at hd;have e : depV ls n = depL ls ls.length (0 + 1) (parV ls n):=by
    unfold depV;rw [depL,if_neg (by omega)]
  have hs:=depL_shift (ls:=ls) ls.length 0 (parV ls n) (by omega) (by omega);have hm:=depL_more ls.length 0 (parV ls n) (by omega) hs.2;have e2 : depV ls (parV ls n) = depL ls (ls.length + 1) 0 (parV ls n):=rfl;omega
theorem dep_zero {ls : List Acc} {n : Int} (h : depV ls n = 0) : n = 0:=by
  by_cases e : n = 0
  · exact e
  · exfalso
    unfold depV at h;rw [depL,if_neg e] at h
    have:=depL_shift (ls:=ls) ls.length 0 (parV ls n) (by omega) (by omega);omega
theorem dep_root (ls : List Acc) : depV ls 0 = 0:=by unfold depV;rw [depL,if_pos rfl]
theorem Tree.par0 {ls : List Acc} (t : Tree ls) : parV ls 0 = -1:=t.root
/-- Who is among the children of whom. -/
theorem Tree.kid {ls : List Acc} (t : Tree ls) {p k : Int} (hp : 0 ≤ p) (h : k ∈ kidsV ls p ls.length) : 0 < k ∧ k < ls.length ∧ parV ls k = p ∧ depV ls k = depV ls p + 1:=by
  obtain ⟨a,b,c⟩:=(kids_mem (Nat.le_refl _)).1 h;have h0 : 0 < k:=by
    by_cases e : k = 0
    · rw [e,t.par0] at c;omega
    · omega
  obtain ⟨_,_,d⟩:=t.par h0 b;exact ⟨h0,b,c,by rw [d,c]⟩
/-- i lies below p,at most k steps. -/
def Rch (ls : List Acc) : Nat → Int → Int → Prop
  | 0,_,_ => False
  | k + 1,p,i => i ∈ kidsV ls p ls.length ∨ ∃ j ∈ kidsV ls p ls.length,Rch ls k j i
theorem Rch.snoc {ls : List Acc} : ∀ {k : Nat} {p j i : Int},Rch ls k p j → i ∈ kidsV ls j ls.length → Rch ls (k + 1) p i
  | 0,_,_,_,h,_ => h.elim
  | k + 1,p,j,i,h,hi => by
    rcases h with h | ⟨x,hx,h⟩
    · refine .inr ⟨j,h,?_⟩
      cases k with
      | zero => exact .inl hi
      | succ k => exact .inl hi
    · exact .inr ⟨x,hx,Rch.snoc h hi⟩
theorem Rch.more {ls : List Acc} : ∀ {k : Nat} {p i : Int},Rch ls k p i → Rch ls (k + 1) p i
  | 0,_,_,h => h.elim
  | k + 1,p,i,h => by
    rcases h with h | ⟨x,hx,h⟩
    · exact .inl h
    · exact .inr ⟨x,hx,Rch.more h⟩
theorem rch_all {ls : List Acc} (t : Tree ls) : ∀ (d : Nat) (i : Int),0 ≤ i → i < ls.length → depV ls i ≤ d → i = 0 ∨ Rch ls d 0 i
  | 0,i,h0,h1,hd => by
    have:=t.dep i.toNat (by omega);rw [Int.toNat_of_nonneg h0] at this;exact .inl (dep_zero (ls:=ls) (by omega))
  | d + 1,i,h0,h1,hd => by
    by_cases e : i = 0
    · exact .inl e
    · obtain ⟨a,b,c⟩:=t.par (by omega) h1
      have hk : i ∈ kidsV ls (parV ls i) ls.length:=(kids_mem (Nat.le_refl _)).2 ⟨h0,h1,rfl⟩;rcases rch_all t d _ a b (by omega) with q | q
      · rw [q] at hk;exact .inr (.inl hk)
      · exact .inr (q.snoc hk)
/-- From an account up to the root. -/
def clm {α : Type} (a : α) (g : Int → α → α) (ls : List Acc) : Nat → Int → α
  | 0,_ => a
  | k + 1,i => if i = 0 then a else g i (clm a g ls k (parV ls i))
theorem clm_more {α : Type} {a : α} {g : Int → α → α} {ls : List Acc} (t : Tree ls) : ∀ (k : Nat) (i : Int),0 ≤ i → i < ls.length → depV ls i ≤ k → clm a g ls (k + 1) i = clm a g ls k i
  | 0,i,h0,h1,hd => by
    have:=t.dep i.toNat (by omega);rw [Int.toNat_of_nonneg h0] at this;show (if i = 0 then a else _) = a;rw [if_pos (dep_zero (ls:=ls) (by omega))]
  | k + 1,i,h0,h1,hd => by
    rw [clm]
    conv => rhs;rw [clm]
    by_cases e : i = 0
    · rw [if_pos e,if_pos e]
    · rw [if_neg e,if_neg e]
      obtain ⟨a,b,c⟩:=t.par (by omega) h1;rw [clm_more t k _ a b (by omega)]
theorem clm_step {α : Type} {a : α} {g : Int → α → α} {ls : List Acc} (t : Tree ls) {i : Int} (h0 : 0 < i) (h1 : i < ls.length) : clm a g ls 4 i = g i (clm a g ls 4 (parV ls i)):=by
  obtain ⟨x,b,c⟩:=t.par h0 h1;have hd:=t.dep i.toNat (by omega);rw [Int.toNat_of_nonneg (by omega)] at hd
  have:=clm_more (a:=a) (g:=g) t 4 i (by omega) h1 (by omega);rw [← this,clm,if_neg (by omega)]
theorem clm_root {α : Type} {a : α} {g : Int → α → α} {ls : List Acc} : clm a g ls 4 0 = a:=by rw [clm,if_pos rfl]
/-- A walk down the tree: what it makes right. -/
theorem down_ok {σ : Type} {ls : List Acc} (set : Int → σ → Int → σ) (ok : σ → Int → Prop) (inv : σ → Prop) (dn : Nat → Int → σ → σ) (hz : ∀ p s,dn 0 p s = s) (hs : ∀ k p s,dn (k + 1) p s = (kidsV ls p ls.length).foldl (fun s i => dn k i (set p s i)) s)
    (hset : ∀ p s i,0 ≤ p → i ∈ kidsV ls p ls.length → ok s p → inv s → inv (set p s i) ∧ ok (set p s i) i ∧ ∀ j,ok s j → ok (set p s i) j) :
    ∀ (k : Nat) (p : Int) (s : σ),0 ≤ p → ok s p → inv s → inv (dn k p s) ∧ (∀ j,ok s j → ok (dn k p s) j) ∧ ∀ j,Rch ls k p j → ok (dn k p s) j
  | 0,p,s,_,_,hi => by rw [hz];exact ⟨hi,fun _ h => h,fun _ h => h.elim⟩
  | k + 1,p,s,h0,hp,hi => by
    rw [hs];have key : ∀ (ks : List Int) (s : σ),(∀ i ∈ ks,i ∈ kidsV ls p ls.length) → ok s p → inv s →
        inv (ks.foldl (fun s i => dn k i (set p s i)) s) ∧ (∀ j,ok s j → ok (ks.foldl (fun s i => dn k i (set p s i)) s) j) ∧ ∀ i ∈ ks,ok (ks.foldl (fun s i => dn k i (set p s i)) s) i ∧ ∀ j,Rch ls k i j → ok (ks.foldl (fun s i => dn k i (set p s i)) s) j:=by
      intro ks
      induction ks with
      | nil => exact fun s _ _ hi => ⟨hi,fun _ h => h,fun _ h => by cases h⟩
      | cons i r ih =>
        intro s hk hp hi;have hik:=hk i (List.mem_cons_self ..);have hi0 : 0 ≤ i:=((kids_mem (Nat.le_refl _)).1 hik).1;obtain ⟨a,b,c⟩:=hset p s i h0 hik hp hi;obtain ⟨a',b',c'⟩:=down_ok set ok inv dn hz hs hset k i (set p s i) hi0 b a;obtain ⟨a'',b'',c''⟩:=ih (dn k i (set p s i)) (fun j hj => hk j (List.mem_cons_of_mem _ hj)) (b' _ (c _ hp)) a';refine ⟨a'',fun j hj => b'' _ (b' _ (c _ hj)),fun j hj => ?_⟩;rcases List.mem_cons.1 hj with e | e
        · subst e
          exact ⟨b'' _ (b' _ b),fun q hq => b'' _ (c' q hq)⟩
        · exact c'' j e
    obtain ⟨a,b,c⟩:=key _ s (fun _ h => h) hp hi;refine ⟨a,b,fun j hj => ?_⟩;rcases hj with hj | ⟨x,hx,hj⟩
    · exact (c j hj).1
    · exact (c x hx).2 j hj
/-- An account's share of the whole: of its parent's. -/
def shG (ls : List Acc) (i : Int) (x : Int × Int) : Int × Int:=
  (IntKind.u64.wrap (x.1 * IntKind.u64.wrap (shV ls i)),IntKind.u64.wrap (x.2 * sisV ls (kidsV ls (parV ls i) ls.length)))
def partV (ls : List Acc) (i : Int) : Int × Int:=clm (1,1) (shG ls) ls 4 i
def numsV (ls : List Acc) : List Int:=(List.range ls.length).map (fun i : Nat => (partV ls (i : Int)).1)
def densV (ls : List Acc) : List Int:=(List.range ls.length).map (fun i : Nat => (partV ls (i : Int)).2)
def startV (n : Nat) : St2:=((List.replicate n (0 : Int)).set 0 1,(List.replicate n (0 : Int)).set 0 1)
theorem rd_set_eq {xs : List Int} {q : Nat} {y : Int} (h : q < xs.length) : rd (xs.set q y) (q : Int) = y:=by
  simp [rd,List.getD_eq_getElem?_getD,h]
theorem list_of_rd {xs : List Int} {n : Nat} {F : Int → Int} (hl : xs.length = n) (h : ∀ i : Nat,i < n → rd xs (i : Int) = F i) : xs = (List.range n).map (fun i : Nat => F (i : Int)):=by
  refine List.ext_getElem (by simp [hl]) fun i h1 h2 => ?_
  have:=h i (by omega);simp [rd,List.getD_eq_getElem?_getD,h1] at this;simp [this]
theorem down_gives {ls : List Acc} (t : Tree ls) : downV ls 5 0 (startV ls.length) = (numsV ls,densV ls):=by
  have hp:=t.pos;obtain ⟨a,b,c⟩:=down_ok (ls:=ls) (fun p s i => setV ls p s i) (fun s i => rd s.1 i = (partV ls i).1 ∧ rd s.2 i = (partV ls i).2) (fun s => s.1.length = ls.length ∧ s.2.length = ls.length) (downV ls) (fun p s => rfl) (fun k p s => rfl)
    (fun p s i h0 hi hok hinv => by
      obtain ⟨k0,k1,k2,k3⟩:=t.kid h0 hi;obtain ⟨q,rfl⟩ : ∃ q : Nat,i = q:=⟨i.toNat,by omega⟩;have e : partV ls (q : Int) = (IntKind.u64.wrap (rd s.1 p * IntKind.u64.wrap (shV ls (q : Int))),IntKind.u64.wrap (rd s.2 p * sisV ls (kidsV ls p ls.length))):=by
        rw [show partV ls (q : Int) = shG ls (q : Int) (partV ls (parV ls (q : Int))) from clm_step t k0 k1,k2];unfold shG;rw [← hok.1,← hok.2,k2]
      refine ⟨by simp [setV,hinv],?_,fun j hj => ?_⟩
      · unfold setV
        simp only [Int.toNat_natCast];rw [rd_set_eq (by omega),rd_set_eq (by omega),e];exact ⟨rfl,rfl⟩
      · by_cases hjq : j.toNat = q
        · unfold setV
          simp only [Int.toNat_natCast]
          by_cases hj0 : 0 ≤ j
          · obtain rfl : j = q:=by omega
            rw [rd_set_eq (by omega),rd_set_eq (by omega),e];exact ⟨rfl,rfl⟩
          · exfalso;omega
        · unfold setV
          simp only [Int.toNat_natCast,rd,List.getD_eq_getElem?_getD];rw [List.getElem?_set_ne (fun h => hjq h.symm),List.getElem?_set_ne (fun h => hjq h.symm)];simpa [rd,List.getD_eq_getElem?_getD] using hj)
    5 0 (startV ls.length) (by omega) (by
      have:=rd_set_eq (xs:=List.replicate ls.length (0 : Int)) (q:=0) (y:=1) (by simpa using hp);exact ⟨by simpa [startV,partV,clm_root] using this,by simpa [startV,partV,clm_root] using this⟩) (by simp [startV])
  refine Prod.ext ?_ ?_
  · refine list_of_rd (F:=fun i => (partV ls i).1) a.1 fun i hi => ?_
    rcases rch_all t 5 (i : Int) (by omega) (by omega) (by have:=t.dep i hi;omega) with e | e
    · have:=(b 0 (by
        have:=rd_set_eq (xs:=List.replicate ls.length (0 : Int)) (q:=0) (y:=1) (by simpa using hp);exact ⟨by simpa [startV,partV,clm_root] using this,by simpa [startV,partV,clm_root] using this⟩)).1
      rw [e];exact this
    · exact (c _ e).1
  · refine list_of_rd (F:=fun i => (partV ls i).2) a.2 fun i hi => ?_
    rcases rch_all t 5 (i : Int) (by omega) (by omega) (by have:=t.dep i hi;omega) with e | e
    · have:=(b 0 (by
        have:=rd_set_eq (xs:=List.replicate ls.length (0 : Int)) (q:=0) (y:=1) (by simpa using hp);exact ⟨by simpa [startV,partV,clm_root] using this,by simpa [startV,partV,clm_root] using this⟩)).2
      rw [e];exact this
    · exact (c _ e).2
/-- What Shares answers: nothing,or the fractions in two lists of one's own. -/
def SharesI (w : World) (ls : List Acc) (e : Ending) (w' : World) : Prop:=
  w.grownBy w' none ∧ ((loadE ls ≠ 0 ∧ e = .returned (.tuple #[.slice none 0 0,.slice none 0 0])) ∨
    (loadE ls = 0 ∧ ∃ nb db,nb ≠ db ∧ e = .returned (.tuple #[.slice (some ⟨nb,0,none⟩) ls.length ls.length,.slice (some ⟨db,0,none⟩) ls.length ls.length]) ∧
      w'.ownsRow w.heap.size 29 (Ei .u64).sz (.slice (some ⟨nb,0,none⟩) ls.length ls.length) ls.length (flat (Ei .u64) (numsV ls)) ∧ w'.ownsRow w.heap.size 29 (Ei .u64).sz (.slice (some ⟨db,0,none⟩) ls.length ls.length) ls.length (flat (Ei .u64) (densV ls))))
theorem al1 {w : World} {g : Nat} {o o' : Obj} (h : w.heap[g]? = some o) : (w.drew.alloc o').heap[g]? = some o:=blk_kept (show w.drew.heap[g]? = some o from h) (gA w.drew o' none) (by simp)
theorem al2 {w : World} {g : Nat} {o o' : Obj} (h : w.heap[g]? = some o) : ((w.drew.alloc o').alloc o').heap[g]? = some o:=blk_kept (al1 h) (gA _ o' none) (by simp)
/-- Two rows of noughts,made in whatever order;the first is laid into a cell. -/
structure Two4 (w w' : World) (n g3 p q : Nat) : Prop where
  b1 : w'.heap[p]? = some (.cells (madeCells #[.int .u64 0] n) 29 (0,0))
  b2 : w'.heap[q]? = some (.cells (madeCells #[.int .u64 0] n) 29 (0,0))
  b3 : w'.heap[g3]? = some (.cells #[.slice (some ⟨p,0,none⟩) n n] 42 (0,0))
  ne : p ≠ q
  n1 : w.heap.size ≤ p
  n2 : w.heap.size ≤ q
  tn : Tn w w' (fun k => k = g3)
section
variable {w : World} {n g3 : Nat} {v0 : Value} (h : w.heap[g3]? = some (.cells #[v0] 42 (0,0)))
include h
theorem two_a : Two4 w (((w.drew.alloc (.cells (madeCells #[.int .u64 0] n) 29)).alloc (.cells (madeCells #[.int .u64 0] n) 29)).setCell ⟨g3,0,none⟩ (.slice (some ⟨w.heap.size,0,none⟩) n n)) n g3 w.heap.size (w.heap.size + 1):=by
  have hl:=blk_lt' h;have t : Tn ((w.drew.alloc (.cells (madeCells #[.int .u64 0] n) 29)).alloc (.cells (madeCells #[.int .u64 0] n) 29)) _ (fun k => k = g3):=Tn.set g3 0 (.slice (some ⟨w.heap.size,0,none⟩) n n) rfl;refine ⟨blk_tn (blk_kept (heap_alloc_new w.drew _) (gA _ _ none) (by simp)) t (by show ¬ w.heap.size = g3;omega),?_,?_,by omega,by omega,by omega,(((Tn.drew w _).trans' (Tn.alloc _ _ _)).trans' (Tn.alloc _ _ _)).trans' t⟩
  · have:=heap_alloc_new (w.drew.alloc (.cells (madeCells #[.int .u64 0] n) 29)) (.cells (madeCells #[.int .u64 0] n) 29)
    rw [World.size_alloc] at this;exact blk_tn this t (by show ¬ w.heap.size + 1 = g3;omega)
  · exact blk_set 0 _ (al2 h)
theorem two_c : Two4 w (((w.drew.alloc (.cells (madeCells #[.int .u64 0] n) 29)).alloc (.cells (madeCells #[.int .u64 0] n) 29)).setCell ⟨g3,0,none⟩ (.slice (some ⟨w.heap.size + 1,0,none⟩) n n)) n g3 (w.heap.size + 1) w.heap.size:=by
  have hl:=blk_lt' h;have t : Tn ((w.drew.alloc (.cells (madeCells #[.int .u64 0] n) 29)).alloc (.cells (madeCells #[.int .u64 0] n) 29)) _ (fun k => k = g3):=Tn.set g3 0 (.slice (some ⟨w.heap.size + 1,0,none⟩) n n) rfl;refine ⟨?_,blk_tn (blk_kept (heap_alloc_new w.drew _) (gA _ _ none) (by simp)) t (by show ¬ w.heap.size = g3;omega),?_,by omega,by omega,by omega,(((Tn.drew w _).trans' (Tn.alloc _ _ _)).trans' (Tn.alloc _ _ _)).trans' t⟩
  · have:=heap_alloc_new (w.drew.alloc (.cells (madeCells #[.int .u64 0] n) 29)) (.cells (madeCells #[.int .u64 0] n) 29)
    rw [World.size_alloc] at this;exact blk_tn this t (by show ¬ w.heap.size + 1 = g3;omega)
  · exact blk_set 0 _ (al2 h)
theorem two_b : Two4 w (((w.drew.alloc (.cells (madeCells #[.int .u64 0] n) 29)).setCell ⟨g3,0,none⟩ (.slice (some ⟨w.heap.size,0,none⟩) n n)).alloc (.cells (madeCells #[.int .u64 0] n) 29)) n g3 w.heap.size (w.heap.size + 1):=by
  have hl:=blk_lt' h;have t : Tn (w.drew.alloc (.cells (madeCells #[.int .u64 0] n) 29)) _ (fun k => k = g3):=Tn.set g3 0 (.slice (some ⟨w.heap.size,0,none⟩) n n) rfl;refine ⟨blk_kept (blk_tn (heap_alloc_new w.drew _) t (by show ¬ w.heap.size = g3;omega)) (gA _ _ none) (by simp),?_,?_,by omega,by omega,by omega,(((Tn.drew w _).trans' (Tn.alloc _ _ _)).trans' t).trans' (Tn.alloc _ _ _)⟩
  · have:=heap_alloc_new ((w.drew.alloc (.cells (madeCells #[.int .u64 0] n) 29)).setCell ⟨g3,0,none⟩ (.slice (some ⟨w.heap.size,0,none⟩) n n)) (.cells (madeCells #[.int .u64 0] n) 29)
    rwa [World.size_setCell,World.size_alloc] at this
  · exact blk_kept (blk_set 0 _ (al1 h)) (gA _ _ none) (by simp)
end
theorem made_own {w : World} {B b n : Nat} (h : w.heap[b]? = some (.cells (madeCells #[.int .u64 0] n) 29 (0,0))) (hB : B ≤ b) (hn : n ≤ 64) : w.ownsRow B 29 (Ei .u64).sz (.slice (some ⟨b,0,none⟩) n n) n (flat (Ei .u64) (List.replicate n 0)):=by
  have e : (madeCells #[Value.int .u64 0] n).toList = flat (Ei .u64) (List.replicate n 0):=by
    rw [flat_nums];refine List.ext_getElem (by simp [madeCells,nums]) fun i h1 h2 => ?_
    simp [madeCells,nums,Nat.mod_one]
  refine ⟨by rw [flat_len];simp,.inr ⟨b,n,_,rfl,hB,h,Nat.le_refl _,by simp only [maxLen];omega,by rw [size_madeCells];simp [Ei],?_⟩⟩;rw [e,List.take_of_length_le (by rw [flat_len];simp [Ei])]
theorem gb_of_tn {w w' : World} {F : Nat → Prop} (h : Tn w w' F) (hF : ∀ k,F k → w.heap.size ≤ k) : w.grownBy w' none:=
  ⟨h.os,h.tape,h.output,h.size,fun k hk _ => h.block k hk (fun f => by have:=hF k f;omega)⟩
theorem results_c2 {fn : Func} {p p' : Tmp} {ty ty' : TypeId} (h : fn.results = #[.cell p ty,.cell p' ty']) (tmps : Array Value) (w : World) (a a' : Addr) (v v' : Value) (x x' : TypeId)
    (hp : tmps.getD p undef = .pointer (some a)) (hg : w.cell? a = some v) (hu : Tryz.prog.underlying ty = some (.slice x))
    (hp' : tmps.getD p' undef = .pointer (some a')) (hg' : w.cell? a' = some v') (hu' : Tryz.prog.underlying ty' = some (.slice x')) :
    (results fn tmps).run Tryz.prog w = .ok (.tuple #[v,v']) w:=by
  have h1 : tmps[p]?.getD undef = .pointer (some a):=by simpa using hp
  have h2 : tmps[p']?.getD undef = .pointer (some a'):=by simpa using hp'
  simp [results,h,h1,h2,asAddr,loadVar,isAgg,run_underlying hu,run_underlying hu',hg,hg']
theorem kids_nil (w : World) (A : Option Addr) (c : Nat) :
    Calls Tryz.prog 70 #[.slice A 0 c] w (KidsI w []):=by
  have HC:=Am (load_nil w A c);go_enter Tryz.func70,Tryz.ntmps70;go_wp2_with fail
  refine (HC.out).mono ?_;rintro e w1 ⟨⟨o,rfl⟩,hg⟩;have HG1:=Am hg;have hE : loadE [] = 66:=rfl;rw [hE];clear hg HC;go_wp2;go_ret2;exact ⟨HG1.out,.inl ⟨by decide,rfl⟩⟩
theorem Shares_calls (w : World) (A : Option Addr) (n c : Nat) (ls : List Acc) (hr : Rd Ec w A n ls) (hc : n ≤ c) (hok : AccOk ls) :
    Calls Tryz.prog 39 #[.slice A n c] w (SharesI w ls):=by
  have hlen:=hr.2.1;have HR:=Am hr;have HN:=Am hr.1;have HC0:=Am hc;have HOK:=Am hok;have HK : Aside0 (∀ W : World,Rd Ec W A n ls → Calls Tryz.prog 70 #[.slice A n c] W (KidsI W ls)):=⟨fun W h => by
    cases ls with
    | nil => obtain rfl : n = 0:=h.1.symm;exact kids_nil W A c
    | cons x r =>
      obtain ⟨ad,e,_⟩:=h.2.2 (by have:=h.1;simp at this;omega);subst e;exact kids_calls W ad n c x r h hc hok⟩
  clear hr hc hok;go_enter Tryz.func39,Tryz.ntmps39;go_upto_region 1 with (fail)
  obtain ⟨g1,hg1⟩ : ∃ g,g = w.heap.size:=⟨_,rfl⟩;obtain ⟨g3,hg3⟩ : ∃ g,g = w.heap.size + 1:=⟨_,rfl⟩;obtain ⟨g4,hg4⟩ : ∃ g,g = w.heap.size + 1 + 1:=⟨_,rfl⟩;have e3:=gA ((w.alloc (.cells #[.slice A n c] 24)).alloc (.cells #[.slice none 0 0] 42)) (.cells #[.slice none 0 0] 42) none;have e2:=gA (w.alloc (.cells #[.slice A n c] 24)) (.cells #[.slice none 0 0] 42) none;have e1:=gA w (.cells #[.slice A n c] 24) none;have HG1:=Am (gT (gT e1 e2) e3);have HX1:=Am (blk_kept (blk_kept (heap_alloc_new w (.cells #[.slice A n c] 24)) e2 (by simp)) e3 (by simp));have HX3:=Am (blk_kept (heap_alloc_new (w.alloc (.cells #[.slice A n c] 24)) (.cells #[.slice none 0 0] 42)) e3 (by simp));have HX4:=Am (heap_alloc_new ((w.alloc (.cells #[.slice A n c] 24)).alloc (.cells #[.slice none 0 0] 42)) (.cells #[.slice none 0 0] 42));have HZ1:=Am (show g3 = g1 + 1 ∧ g4 = g1 + 2 ∧ g1 = w.heap.size by omega);simp only [World.size_alloc] at HX3 HX4;rw [← hg1] at HX1;rw [← hg3] at HX3;rw [← hg4] at HX4;rw [← hg4,← hg3,← hg1];clear e1 e2 e3 hg1 hg3 hg4;generalize ((w.alloc (.cells #[.slice A n c] 24)).alloc (.cells #[.slice none 0 0] 42)).alloc (.cells #[.slice none 0 0] 42) = w1 at HG1 HX1 HX3 HX4 ⊢;have HSM:=Am (And.intro (blk_lt' HX1.out) (And.intro (blk_lt' HX3.out) (blk_lt' HX4.out)));have k1:=cell_of (j:=0) HX1.out rfl;go_wp2_with fail
  refine (HK.out w1 (HR.out.gb HG1.out)).mono ?_;rintro e w2 ⟨hg,h⟩;have HG2:=Am hg;have HX1b:=Am (blk_kept HX1.out hg (by simp));have HX3b:=Am (blk_kept HX3.out hg (by simp));have HX4b:=Am (blk_kept HX4.out hg (by simp));clear hg k1 HX1 HX3 HX4 HK;rcases h with ⟨hne,rfl⟩ | ⟨h0,kb,m,D,f,rfl,hkm,hlow⟩
  · have HNE:=Am hne
    clear hne;have HX1c:=Am (blk_kept HX1b.out (gA w2 (.cells #[.map none] 105) none) (by simp));have HX3c:=Am (blk_kept HX3b.out (gA w2 (.cells #[.map none] 105) none) (by simp));have HX4c:=Am (blk_kept HX4b.out (gA w2 (.cells #[.map none] 105) none) (by simp));have HT3:=Am (((Tn.gb0 HG1.out (fun k => k = g3 ∨ k = g4)).trans' (Tn.gb0 HG2.out _)).trans' (Tn.alloc w2 (.cells #[.map none] 105) _));have hne : g4 ≠ g3:=by have:=HZ1.out;omega
    have HNE43:=Am hne;go_upto_region 3 with (fail)
    generalize w2.alloc (.cells #[.map none] 105) = w3 at HX1c HX3c HX4c HT3 ⊢;have hc3:=cell_of (j:=0) HX3c.out rfl;have hf3:=frozen_of (j:=0) HX3c.out;have hc4 : ∀ v,(w3.setCell ⟨g3,0,none⟩ v).cell? ⟨g4,0,none⟩ = some (.slice none 0 0):=fun v => cell_tn (cell_of (j:=0) HX4c.out rfl) (Tn.set g3 0 v (F:=fun k => k = g3) rfl) HNE43.out
    have hf4:=frozen_of (j:=0) HX4c.out;go_wp2;refine bodyPost_ret (results_c2 rfl _ _ ⟨g3,0,none⟩ ⟨g4,0,none⟩ (.slice none 0 0) (.slice none 0 0) _ _ rfl ?_ Tryz.underlying42 rfl ?_ Tryz.underlying42) rfl ?_
    · exact cell_tn (F:=fun k => k = g4) (cell_of (j:=0) (show (w3.setCell ⟨g3,0,none⟩ (.slice none 0 0)).heap[g3]? = some (.cells #[.slice none 0 0] 42 (0,0)) from blk_set 0 _ HX3c.out) rfl) (Tn.set g4 0 _ rfl) (fun e => HNE43.out e.symm)
    · exact cell_of (j:=0) (blk_set 0 (.slice none 0 0) (blk_tn HX4c.out (Tn.set (F:=fun k => k = g3) g3 0 (.slice none 0 0) rfl) HNE43.out)) rfl
    · refine ⟨gb_of_tn (F:=fun k => k = g3 ∨ k = g4) ((HT3.out.trans' (Tn.set g3 0 (.slice none 0 0) (.inl rfl))).trans' (Tn.set g4 0 (.slice none 0 0) (.inr rfl))) (fun k h => by have:=HZ1.out;rcases h with h | h <;> omega),.inl ⟨HNE.out,rfl⟩⟩
  · have HKM:=Am hkm
    have HLOW:=Am hlow;have HT0:=Am (tree_of h0);have HE0:=Am h0;clear hkm hlow h0;go_upto_region 4 with (fail)
    have HX1c:=Am (blk_kept HX1b.out (gA w2 (.cells #[.map (some kb)] 105) none) (by simp));have HX3c:=Am (blk_kept HX3b.out (gA w2 (.cells #[.map (some kb)] 105) none) (by simp));have HX4c:=Am (blk_kept HX4b.out (gA w2 (.cells #[.map (some kb)] 105) none) (by simp));have HX2c:=Am (heap_alloc_new w2 (.cells #[.map (some kb)] 105));have HG3:=Am (gA w2 (.cells #[.map (some kb)] 105) none);obtain ⟨g2,hg2⟩ : ∃ g,g = w2.heap.size:=⟨_,rfl⟩;have HG2S:=Am hg2;rw [← hg2] at HX2c ⊢;clear hg2 HX1b HX3b HX4b;generalize w2.alloc (.cells #[.map (some kb)] 105) = w3 at HX1c HX2c HX3c HX4c HG3 ⊢;have HNE13 : Aside0 (g1 ≠ g3):=⟨by have:=HZ1.out;omega⟩;have HNE43 : Aside0 (g4 ≠ g3):=⟨by have:=HZ1.out;omega⟩;have hmk : ∀ W : World,(Instr.makeSlice 42 (.int .i64 (n : Int)) (.int .i64 (n : Int))).run Tryz.prog W = .ok (.slice (some ⟨W.heap.size,0,none⟩) n n) (W.alloc (.cells (madeCells #[.int .u64 0] n) 29)):=fun W => by
      have:=HT0.out.le;have:=HN.out;exact run_make_row' 42 29 (.int .u64 0) 8 Tryz.underlying42 (by kernel_rfl) rfl .i64 .i64 n (by omega) (by omega) W
    refine start_ (n:=8) (S:=fun w' => w'.cell? ⟨g1,0,none⟩ = some (.slice A n c)) (ds:=[7]) #[nn,nn,nn,nn,nn,nn,nn,nn] (by kernel_rfl) rfl rfl (cell_of (j:=0) (show w3.drew.heap[g1]? = _ from HX1c.out) rfl) (fun hHeld => ?_);refine tk_ 0 (some 14) (bm 8 1) (by kernel_rfl) hHeld ?_;refine pu_ 1 (some 15) (bm 8 3) (by kernel_rfl) ?_;refine tk_ 3 (some 17) (bm 8 11) (by kernel_rfl) hHeld ?_;refine pu_ 4 (some 18) (bm 8 27) (by kernel_rfl) ?_;refine join_ (σ:=Nat × Nat) 1 (bm 8 127) (fun s => [(16,.slice (some ⟨s.1,0,none⟩) n n),(19,.slice (some ⟨s.2,0,none⟩) n n)]) (fun s w' => Two4 w3 w' n g3 s.1 s.2) ?_ ?_
    rotate_left
    · intro hCont
      refine two_ (i:=2) (j:=5) (Ni:=some 16) (Nj:=some 19) (bm 8 31) (bm 8 59) rfl rfl rfl rfl (by kernel_rfl) (by decide) (by decide) (fun K hK => ?_) (fun K hK => ?_)
      · skip
        refine value_ (w1:=?_) (v:=?_) (by rfl) rfl ?_ ?_
        rotate_left 2
        · go_simp
          constructor
          · rfl
          · rfl
        refine hK.out _ _ ((gA _ (.cells (madeCells #[.int .u64 0] n) 29) none).cell hHeld (by simp)) (fun hHeld => ?_);clear hK K;refine norm_ (a':=?_) ?_ ?_
        rotate_left
        · show Act.put _ (some 16) _ = _
          simp only [NR];rfl
        refine two_ (i:=5) (j:=6) (Ni:=some 19) (Nj:=none) (bm 8 63) (bm 8 95) rfl rfl rfl rfl (by kernel_rfl) (by decide) (by decide) (fun K hK => ?_) (fun K hK => ?_)
        · skip
          refine value_ (w1:=?_) (v:=?_) (by rfl) rfl ?_ ?_
          rotate_left 2
          · go_simp
            constructor
            · rfl
            · rfl
          refine hK.out _ _ ((gA _ (.cells (madeCells #[.int .u64 0] n) 29) none).cell hHeld (by simp)) (fun hHeld => ?_);clear hK K;refine norm_ (a':=?_) ?_ ?_
          rotate_left
          · show Act.put _ (some 19) _ = _
            simp only [NR];rfl
          refine one_ (i:=6) (N:=none) (bm 8 127) rfl rfl (by kernel_rfl) (by decide) (fun K hK => ?_);have hc3 : ((w3.alloc (.cells (madeCells #[.int .u64 0] n) 29)).alloc (.cells (madeCells #[.int .u64 0] n) 29)).cell? ⟨g3,0,none⟩ = some (.slice none 0 0):=cell_of (j:=0) (al2 HX3c.out) rfl;have hf3 : ((w3.alloc (.cells (madeCells #[.int .u64 0] n) 29)).alloc (.cells (madeCells #[.int .u64 0] n) 29)).frozen? ⟨g3,0,none⟩ = false:=frozen_of (al2 HX3c.out);refine skip_ (w1:=?_) (by rfl) rfl ?_ ?_
          rotate_left
          · go_simp
            rfl
          refine hK.out _ _ (cell_tn (F:=fun k => k = g3) hHeld (Tn.set g3 0 _ rfl) HNE13.out) (fun hHeld => ?_);clear hK K;exact norm_ (by simp only [putAll,Act.put,List.setIfInBounds_toArray,List.set_cons_zero,List.set_cons_succ]) (hCont (w3.heap.size,w3.heap.size + 1) _ (two_a HX3c.out))
        · skip
          have hc3 : (w3.alloc (.cells (madeCells #[.int .u64 0] n) 29)).cell? ⟨g3,0,none⟩ = some (.slice none 0 0):=cell_of (j:=0) (al1 HX3c.out) rfl;have hf3 : (w3.alloc (.cells (madeCells #[.int .u64 0] n) 29)).frozen? ⟨g3,0,none⟩ = false:=frozen_of (al1 HX3c.out);refine skip_ (w1:=?_) (by rfl) rfl ?_ ?_
          rotate_left
          · go_simp
            rfl
          refine hK.out _ _ (cell_tn (F:=fun k => k = g3) hHeld (Tn.set g3 0 _ rfl) HNE13.out) (fun hHeld => ?_);clear hK K;refine one_ (i:=5) (N:=some 19) (bm 8 127) rfl rfl (by kernel_rfl) (by decide) (fun K hK => ?_);refine value_ (w1:=?_) (v:=?_) (by rfl) rfl ?_ ?_
          rotate_left 2
          · go_simp
            constructor
            · rfl
            · rfl
          refine hK.out _ _ ((gA _ (.cells (madeCells #[.int .u64 0] n) 29) none).cell hHeld (by simp)) (fun hHeld => ?_);clear hK K;refine norm_ (a':=?_) ?_ ?_
          rotate_left
          · show Act.put _ (some 19) _ = _
            simp only [NR];rfl
          exact norm_ (by simp only [putAll,Act.put,List.setIfInBounds_toArray,List.set_cons_zero,List.set_cons_succ]) (hCont (w3.heap.size,w3.heap.size + 1) _ (two_b HX3c.out))
      · skip
        refine value_ (w1:=?_) (v:=?_) (by rfl) rfl ?_ ?_
        rotate_left 2
        · go_simp
          constructor
          · rfl
          · rfl
        refine hK.out _ _ ((gA _ (.cells (madeCells #[.int .u64 0] n) 29) none).cell hHeld (by simp)) (fun hHeld => ?_);clear hK K;refine norm_ (a':=?_) ?_ ?_
        rotate_left
        · show Act.put _ (some 19) _ = _
          simp only [NR];rfl
        refine one_ (i:=2) (N:=some 16) (bm 8 63) rfl rfl (by kernel_rfl) (by decide) (fun K hK => ?_);refine value_ (w1:=?_) (v:=?_) (by rfl) rfl ?_ ?_
        rotate_left 2
        · go_simp
          constructor
          · rfl
          · rfl
        refine hK.out _ _ ((gA _ (.cells (madeCells #[.int .u64 0] n) 29) none).cell hHeld (by simp)) (fun hHeld => ?_);clear hK K;refine norm_ (a':=?_) ?_ ?_
        rotate_left
        · show Act.put _ (some 16) _ = _
          simp only [NR];rfl
        refine one_ (i:=6) (N:=none) (bm 8 127) rfl rfl (by kernel_rfl) (by decide) (fun K hK => ?_);have hc3 : ((w3.alloc (.cells (madeCells #[.int .u64 0] n) 29)).alloc (.cells (madeCells #[.int .u64 0] n) 29)).cell? ⟨g3,0,none⟩ = some (.slice none 0 0):=cell_of (j:=0) (al2 HX3c.out) rfl;have hf3 : ((w3.alloc (.cells (madeCells #[.int .u64 0] n) 29)).alloc (.cells (madeCells #[.int .u64 0] n) 29)).frozen? ⟨g3,0,none⟩ = false:=frozen_of (al2 HX3c.out);refine skip_ (w1:=?_) (by rfl) rfl ?_ ?_
        rotate_left
        · go_simp
          rfl
        refine hK.out _ _ (cell_tn (F:=fun k => k = g3) hHeld (Tn.set g3 0 _ rfl) HNE13.out) (fun hHeld => ?_);clear hK K;exact norm_ (by simp only [putAll,Act.put,List.setIfInBounds_toArray,List.set_cons_zero,List.set_cons_succ]) (hCont (w3.heap.size + 1,w3.heap.size) _ (two_c HX3c.out))
    rintro ⟨nb,db⟩ w4 hF;have HF4:=Am hF;have HX1d:=Am (blk_tn HX1c.out hF.tn HNE13.out);have HX4d:=Am (blk_tn HX4c.out hF.tn HNE43.out);have hHeld : w4.cell? ⟨g1,0,none⟩ = some (.slice A n c):=cell_of (j:=0) HX1d.out rfl;have hc4:=cell_of (j:=0) HX4d.out rfl;have hf4:=frozen_of (j:=0) HX4d.out;clear hF;refine norm_ (a':=?_) ?_ ?_
    rotate_left
    · simp only [putAll,Act.put,List.setIfInBounds_toArray,List.set_cons_zero,List.set_cons_succ]
      rfl
    refine last_ (i:=7) (N:=none) (bm 8 255) rfl rfl (by kernel_rfl) (by decide) (fun K hK => ?_);refine skip_ (w1:=?_) (by rfl) rfl ?_ ?_
    rotate_left
    · go_simp
      rfl
    refine hK.out _ _ ?_;clear hK K;refine done_ (by kernel_rfl) ?_;obtain ⟨hz3,hz4,hz1⟩:=HZ1.out;have hg1s : g1 < w3.heap.size:=blk_lt' HX1c.out;have hg2s : g2 < w3.heap.size:=blk_lt' HX2c.out;have hg3s : g3 < w3.heap.size:=blk_lt' HX3c.out;have hg4s : g4 < w3.heap.size:=blk_lt' HX4c.out;have hn1:=HF4.out.n1;have hn2:=HF4.out.n2;have h23 : w1.heap.size ≤ g2:=by rw [HG2S.out];exact HG2.out.size
    have h13 : g1 < w1.heap.size ∧ g3 < w1.heap.size ∧ g4 < w1.heap.size:=HSM.out;have HT5:=Am ((HF4.out.tn.mono (G:=fun k => k = g3 ∨ k = g4) (fun i _ h => .inl h)).trans' (Tn.set g4 0 (.slice (some ⟨db,0,none⟩) n n) (.inr rfl)));have T4 : Tn w4 (w4.setCell ⟨g4,0,none⟩ (.slice (some ⟨db,0,none⟩) n n)) (fun k => k = g4):=Tn.set g4 0 _ rfl;have HX1e:=Am (blk_tn HX1d.out T4 (by show ¬ g1 = g4;omega));have HX2e:=Am (blk_tn HX2c.out HT5.out (by show ¬ (g2 = g3 ∨ g2 = g4);omega));have HX3e:=Am (blk_tn HF4.out.b3 T4 (by show ¬ g3 = g4;omega));have HX4e : Aside0 ((w4.setCell ⟨g4,0,none⟩ (.slice (some ⟨db,0,none⟩) n n)).heap[g4]? = some (.cells #[.slice (some ⟨db,0,none⟩) n n] 42 (0,0))):=⟨blk_set 0 _ HX4d.out⟩;have HNe:=Am (made_own (B:=w3.heap.size) (blk_tn HF4.out.b1 T4 (by show ¬ nb = g4;omega)) hn1 (by have:=HT0.out.le;have:=HN.out;omega));have HDe:=Am (made_own (B:=w3.heap.size) (blk_tn HF4.out.b2 T4 (by show ¬ db = g4;omega)) hn2 (by have:=HT0.out.le;have:=HN.out;omega));have HNB3 : Aside0 (g3 ≠ nb):=⟨by omega⟩;have HNB4 : Aside0 (g4 ≠ nb):=⟨by omega⟩;have HNEB:=Am HF4.out.ne;have HBN:=Am hn1;have HBD:=Am hn2;have HGS:=Am (And.intro hg1s (And.intro hg2s (And.intro hg3s hg4s)));have HG23:=Am h23;clear hz1 hz3 hz4 hg1s hg2s hg3s hg4s hn1 hn2 h23 h13 T4 hmk;clear HX1c HX2c HX3c HX4c HX1d HX4d HF4;generalize w4.setCell ⟨g4,0,none⟩ (.slice (some ⟨db,0,none⟩) n n) = w5 at HT5 HX1e HX2e HX3e HX4e HNe HDe ⊢;have hn0 : 0 < n:=by have:=HT0.out.pos;have:=HN.out;omega
    have hn0i : (0 : Int) < (n : Int):=by omega
    go_upto_region 5 with (fail)
    have hcn : w5.cell? ⟨nb,0,none⟩ = some (.int .u64 (rd (List.replicate n 0) ((0 : Nat) : Int))):=num_cell HNe.out hn0 (by simp);have hcd : ∀ v,(w5.setCell ⟨nb,0,none⟩ v).cell? ⟨db,0,none⟩ = some (.int .u64 (rd (List.replicate n 0) ((0 : Nat) : Int))):=fun v => num_cell (own_tn HDe.out (Tn.set nb 0 v (F:=fun k => k = nb) rfl) (fun k hk e => by cases hk;exact HNEB.out e.symm)) hn0 (by simp)
    have hfn:=own_frozen HNe.out 0;have hfd:=own_frozen HDe.out 0;refine start_ (n:=6) (S:=fun w' => w'.cell? ⟨g3,0,none⟩ = some (.slice (some ⟨nb,0,none⟩) n n) ∧ w'.cell? ⟨g4,0,none⟩ = some (.slice (some ⟨db,0,none⟩) n n)) (ds:=[5]) #[nn,nn,nn,nn,nn,nn] (by kernel_rfl) rfl rfl ⟨cell_of (j:=0) (show w5.drew.heap[g3]? = _ from HX3e.out) rfl,cell_of (j:=0) (show w5.drew.heap[g4]? = _ from HX4e.out) rfl⟩ (fun hHeld => ?_);refine tk_ 0 (some 20) (bm 6 1) (by kernel_rfl) hHeld ?_;refine pu_ 2 (some 22) (bm 6 5) (by kernel_rfl) ?_;refine tk_ 1 (some 21) (bm 6 7) (by kernel_rfl) hHeld ?_;refine one_ (i:=3) (N:=none) (bm 6 15) rfl rfl (by kernel_rfl) (by decide) (fun K hK => ?_);refine skip_ (w1:=?_) (by rfl) rfl ?_ ?_
    rotate_left
    · go_simp
      rfl
    refine hK.out _ _ ⟨cell_tn (cell_of (j:=0) (show w5.drew.heap[g3]? = _ from HX3e.out) rfl) (Tn.set nb 0 _ (F:=fun k => k = nb) rfl) HNB3.out,cell_tn (cell_of (j:=0) (show w5.drew.heap[g4]? = _ from HX4e.out) rfl) (Tn.set nb 0 _ (F:=fun k => k = nb) rfl) HNB4.out⟩ (fun hHeld => ?_);clear hK K;refine pu_ 4 (some 23) (bm 6 31) (by kernel_rfl) ?_;refine last_ (i:=5) (N:=none) (bm 6 63) rfl rfl (by kernel_rfl) (by decide) (fun K hK => ?_);refine skip_ (w1:=?_) (by rfl) rfl ?_ ?_
    rotate_left
    · go_simp
      rfl
    refine hK.out _ _ ?_;clear hK K;refine done_ (by kernel_rfl) ?_;have hnn0 : ¬ (nb = g1 ∨ nb = g2 ∨ nb = g3 ∨ nb = g4):=by have:=HBN.out;have:=HGS.out;omega
    have hdd0 : ¬ (db = g1 ∨ db = g2 ∨ db = g3 ∨ db = g4):=by have:=HBD.out;have:=HGS.out;omega
    have TS : Tn w5 ((w5.setCell ⟨nb,0,none⟩ (.int .u64 1)).setCell ⟨db,0,none⟩ (.int .u64 1)).drew (fun k => k = nb ∨ k = db):=((Tn.set nb 0 _ (.inl rfl)).trans' (Tn.set db 0 _ (.inr rfl))).trans' (Tn.drew _ _);have HX1f:=Am (blk_tn HX1e.out TS (by show ¬ (g1 = nb ∨ g1 = db);omega));have HX2f:=Am (blk_tn HX2e.out TS (by show ¬ (g2 = nb ∨ g2 = db);omega));have HX3f:=Am (blk_tn HX3e.out TS (by show ¬ (g3 = nb ∨ g3 = db);omega));have HX4f:=Am (blk_tn HX4e.out TS (by show ¬ (g4 = nb ∨ g4 = db);omega));have HNf:=Am (own_kept (own_tn (num_put HNe.out hn0 (by simp) 1) (Tn.set db 0 (.int .u64 1) (F:=fun k => k = db) rfl) (fun k hk e => by cases hk;exact HNEB.out e)) (gb_drew _ none) (by simp));have HDf:=Am (own_kept (num_put (own_tn HDe.out (Tn.set nb 0 (.int .u64 1) (F:=fun k => k = nb) rfl) (fun k hk e => by cases hk;exact HNEB.out e.symm)) hn0 (by simp) 1) (gb_drew _ none) (by simp));have HT6:=Am ((HT5.out.mono (G:=fun k => k = g3 ∨ k = g4 ∨ k = nb ∨ k = db) (fun i _ h => by rcases h with h | h <;> omega)).trans' (TS.mono (fun i _ h => by rcases h with h | h <;> omega)));clear hnn0 hdd0 TS HX1e HX2e HX3e HX4e HNe HDe HT5 hcn hcd hfn hfd;generalize ((w5.setCell ⟨nb,0,none⟩ (.int .u64 1)).setCell ⟨db,0,none⟩ (.int .u64 1)).drew = w6 at HT6 HX1f HX2f HX3f HX4f HNf HDf ⊢;go_upto_region 7 with (fail)
    have HX1g:=Am (blk_kept HX1f.out (gA w6 (.cells #[.nilFunc] 109) none) (by simp));have HX2g:=Am (blk_kept HX2f.out (gA w6 (.cells #[.nilFunc] 109) none) (by simp));have HX3g:=Am (blk_kept HX3f.out (gA w6 (.cells #[.nilFunc] 109) none) (by simp));have HX4g:=Am (blk_kept HX4f.out (gA w6 (.cells #[.nilFunc] 109) none) (by simp));have HX5g:=Am (heap_alloc_new w6 (.cells #[.nilFunc] 109));have HNg:=Am (own_kept HNf.out (gA w6 (.cells #[.nilFunc] 109) none) (by simp));have HDg:=Am (own_kept HDf.out (gA w6 (.cells #[.nilFunc] 109) none) (by simp));have HT7:=Am (HT6.out.trans' (Tn.alloc w6 (.cells #[.nilFunc] 109) _));have hs6:=HT6.out.size;have hnl:=(HNf.out.lt nb rfl).2;have hdl:=(HDf.out.lt db rfl).2;have h1l:=blk_lt' HX1f.out;have h2l:=blk_lt' HX2f.out;have h3l:=blk_lt' HX3f.out;have h4l:=blk_lt' HX4f.out;obtain ⟨g5,hg5⟩ : ∃ g,g = w6.heap.size:=⟨_,rfl⟩;have HN5 : Aside0 (w3.heap.size ≤ g5 ∧ g5 ≠ nb ∧ g5 ≠ db ∧ g5 ≠ g1 ∧ g5 ≠ g2 ∧ g5 ≠ g3 ∧ g5 ≠ g4):=⟨by omega⟩;rw [← hg5] at HX5g ⊢;clear hs6 hnl hdl h1l h2l h3l h4l hg5 HX1f HX2f HX3f HX4f HNf HDf HT6;generalize w6.alloc (.cells #[.nilFunc] 109) = w7 at HT7 HX1g HX2g HX3g HX4g HX5g HNg HDg ⊢;have hc5:=cell_of (j:=0) HX5g.out rfl;have hf5:=frozen_of (j:=0) HX5g.out;have hst : (store ⟨g5,0,none⟩ (.func (.func 76) #[] #[.pointer (some ⟨g1,0,none⟩),.pointer (some ⟨g2,0,none⟩),.pointer (some ⟨g3,0,none⟩),.pointer (some ⟨g4,0,none⟩),.pointer (some ⟨g5,0,none⟩)])).run Tryz.prog w7 = .ok () (w7.setCell ⟨g5,0,none⟩ (.func (.func 76) #[] #[.pointer (some ⟨g1,0,none⟩),.pointer (some ⟨g2,0,none⟩),.pointer (some ⟨g3,0,none⟩),.pointer (some ⟨g4,0,none⟩),.pointer (some ⟨g5,0,none⟩)])):=by
      rw [run_store _ _ _ _ _ rfl,hc5];simp [hf5]
    go_upto_region 8 with (fail)
    have HX5h:=Am (show (w7.setCell ⟨g5,0,none⟩ (.func (.func 76) #[] #[.pointer (some ⟨g1,0,none⟩),.pointer (some ⟨g2,0,none⟩),.pointer (some ⟨g3,0,none⟩),.pointer (some ⟨g4,0,none⟩),.pointer (some ⟨g5,0,none⟩)])).heap[g5]? = some (.cells #[(.func (.func 76) #[] #[.pointer (some ⟨g1,0,none⟩),.pointer (some ⟨g2,0,none⟩),.pointer (some ⟨g3,0,none⟩),.pointer (some ⟨g4,0,none⟩),.pointer (some ⟨g5,0,none⟩)])] 109 (0,0)) from blk_set 0 _ HX5g.out);have T5 : Tn w7 (w7.setCell ⟨g5,0,none⟩ (.func (.func 76) #[] #[.pointer (some ⟨g1,0,none⟩),.pointer (some ⟨g2,0,none⟩),.pointer (some ⟨g3,0,none⟩),.pointer (some ⟨g4,0,none⟩),.pointer (some ⟨g5,0,none⟩)])) (fun k => k = g5):=Tn.set g5 0 _ rfl;obtain ⟨i5,i51,i52,i53,i54,i55,i56⟩:=HN5.out;have HX1h:=Am (blk_tn HX1g.out T5 (by show ¬ g1 = g5;omega));have HX2h:=Am (blk_tn HX2g.out T5 (by show ¬ g2 = g5;omega));have HX3h:=Am (blk_tn HX3g.out T5 (by show ¬ g3 = g5;omega));have HX4h:=Am (blk_tn HX4g.out T5 (by show ¬ g4 = g5;omega));have HNh:=Am (own_tn HNg.out T5 (fun k hk e => by cases hk;exact i51 e.symm));have HDh:=Am (own_tn HDg.out T5 (fun k hk e => by cases hk;exact i52 e.symm));have HT8:=Am ((HT7.out.mono (G:=fun k => k = g3 ∨ k = g4 ∨ k = nb ∨ k = db ∨ k = g5) (fun i _ h => by rcases h with h | h | h | h <;> simp [h])).trans' (T5.mono (fun i _ h => by simp [h])));clear T5 i5 i51 i52 i53 i54 i55 i56 hst hc5 hf5 HX1g HX2g HX3g HX4g HX5g HNg HDg HT7;generalize w7.setCell ⟨g5,0,none⟩ (.func (.func 76) #[] #[.pointer (some ⟨g1,0,none⟩),.pointer (some ⟨g2,0,none⟩),.pointer (some ⟨g3,0,none⟩),.pointer (some ⟨g4,0,none⟩),.pointer (some ⟨g5,0,none⟩)]) = w8 at HT8 HX1h HX2h HX3h HX4h HX5h HNh HDh ⊢;obtain ⟨ad,hA,hcell⟩:=HR.out.2.2 hn0;subst hA;have had : ad.block < w.heap.size:=by
      obtain ⟨x,hx⟩ : ∃ x,ls[0]? = some x:=⟨_,lG (by have:=HN.out;omega)⟩
      have:=World.block_lt_of_cell? w _ (acc_cells HR.out hx).1;rwa [H.add_block] at this
    obtain ⟨fL,hfL⟩ : ∃ fL : Nat → Int,fL = fun k => if k = g1 ∨ k = g2 ∨ k = g3 ∨ k = g4 ∨ k = g5 then 2 else if k = nb then 0 else if k = db then 1 else f k:=⟨_,rfl⟩
    have z1:=HZ1.out;have zg1:=HG1.out.size;have zg2:=HG2.out.size;have zg3:=HG3.out.size;have zg:=HG2S.out;have zb:=HBN.out;have zd:=HBD.out;have zn:=HN5.out;have zs:=HSM.out;have zgs:=HGS.out;have hkbP : w1.heap.size ≤ kb:=by
      rcases Nat.lt_or_ge kb w1.heap.size with h | h
      · have h1:=HLOW.out kb h
        have h2:=HKM.out.fk;omega
      · exact h
    have hTA : Tn w w8 (fun k => w.heap.size ≤ k):=(((Tn.gb0 HG1.out _).trans' (Tn.gb0 HG2.out _)).trans' (Tn.gb0 HG3.out _)).trans' (HT8.out.mono (fun i _ h => by show w.heap.size ≤ i;rcases h with h | h | h | h | h <;> omega));have HTA:=Am hTA;have HS:=Am (show Shr w8 w1.heap.size fL kb m D ls ad n c g1 g2 g3 g4 g5 nb db (.func (.func 76) #[] #[.pointer (some ⟨g1,0,none⟩),.pointer (some ⟨g2,0,none⟩),.pointer (some ⟨g3,0,none⟩),.pointer (some ⟨g4,0,none⟩),.pointer (some ⟨g5,0,none⟩)]) from
      ⟨HR.out.tn hTA (fun a ha _ hF => by cases ha;omega),(HKM.out.relab (g:=fL) (fun k h1 h2 => by
          rw [hfL];show (if _ then _ else _) = _;rw [if_neg (by omega),if_neg (by omega),if_neg (by omega)]) hkbP).tn ((Tn.gb0 HG3.out (fun k => k = g3 ∨ k = g4 ∨ k = nb ∨ k = db ∨ k = g5)).trans' HT8.out) (fun k hF => by
          rw [hfL];show (if _ then _ else _) < (4 : Int);rcases hF with h | h | h | h | h
          · rw [if_pos (by omega)];decide
          · rw [if_pos (by omega)];decide
          · split
            · decide
            · decide
          · split
            · decide
            · split
              · decide
              · decide
          · rw [if_pos (by omega)];decide),HX1h.out,HX2h.out,HX3h.out,HX4h.out,HX5h.out,
        by rw [hfL];show (if _ then _ else _) < (0 : Int);rw [if_neg (by omega),if_neg (by omega),if_neg (by omega),HLOW.out _ (by omega)];decide,
        by rw [hfL];exact if_pos (by omega),by rw [hfL];exact if_pos (by omega),by rw [hfL];exact if_pos (by omega),by rw [hfL];exact if_pos (by omega),by rw [hfL];exact if_pos (by omega),
        by rw [hfL];show (if _ then _ else _) = (0 : Int);rw [if_neg (by omega),if_pos rfl],by rw [hfL];show (if _ then _ else _) = (1 : Int);rw [if_neg (by omega),if_neg (by have:=HNEB.out;omega),if_pos rfl]⟩)
    have HFB:=Am (show ∀ k,F01 fL k → k = nb ∨ k = db ∨ (f k = 0 ∨ f k = 1) from fun k hF => by
      unfold F01 at hF;rw [hfL] at hF
      by_cases e1 : k = nb
      · exact .inl e1
      · by_cases e2 : k = db
        · exact .inr (.inl e2)
        · refine .inr (.inr ?_)
          simp only [e1,e2,if_false] at hF;split at hF
          · rcases hF with h | h <;> cases h
          · exact hF)
    have HDC:=Am (down_calls w1.heap.size w3.heap.size fL kb m D ls ad n c g1 g2 g3 g4 g5 nb db HN.out
      (fun p k h => by rw [← HN.out] at h ⊢;have:=(kids_mem (Nat.le_refl _)).1 h;omega)
      (fun p k h0 h => by rw [← HN.out] at h;exact (HT0.out.kid h0 h).2.2.2)
      (fun p h0 h1 => by
        obtain ⟨q,rfl⟩ : ∃ q : Nat,p = q:=⟨p.toNat,by omega⟩;exact (HT0.out.dep q (by have:=HN.out;omega)).2) 5 0 (by omega) (by omega) (by rw [dep_root];decide) w8 (startV n) HS.out (by simp [startV]) (by simp [startV]) HNh.out HDh.out)
    rw [← HN.out,down_gives HT0.out,HN.out] at HDC;have HF34:=Am (And.intro HS.out.f3 HS.out.f4);have HZS:=Am (show w.heap.size ≤ w1.heap.size ∧ w.heap.size ≤ w3.heap.size ∧ w.heap.size ≤ g3 ∧ w.heap.size ≤ g4 ∧ w1.heap.size ≤ w3.heap.size by omega);have HAP:=Am (show nb ≠ g3 ∧ nb ≠ g4 ∧ db ≠ g3 ∧ db ≠ g4 by omega);have hc5:=cell_of (j:=0) HX5h.out rfl;clear zg1 zg2 zg3 zg z1 zb zd zn zs zgs hkbP hTA hcell had HKM HS;go_wp2_with fail
    refine (HDC.out).mono ?_;rintro e w9 ⟨rfl,-,-,hn9,hd9,ht9⟩;have no3 : ¬ F01 fL g3:=fun h => by have:=HF34.out.1;unfold F01 at h;omega
    have no4 : ¬ F01 fL g4:=fun h => by have:=HF34.out.2;unfold F01 at h;omega
    have HX3i:=Am (blk_tn HX3h.out ht9 no3);have HX4i:=Am (blk_tn HX4h.out ht9 no4);have HN9:=Am hn9;have HD9:=Am hd9;have HT9:=Am ht9;have hc3:=cell_of (j:=0) HX3i.out rfl;have hf3:=frozen_of (j:=0) HX3i.out;have hc4 : ∀ v,(w9.setCell ⟨g3,0,none⟩ v).cell? ⟨g4,0,none⟩ = some (.slice (some ⟨db,0,none⟩) n n):=fun v => cell_tn (cell_of (j:=0) HX4i.out rfl) (Tn.set g3 0 v (F:=fun k => k = g3) rfl) HNE43.out
    have hf4:=frozen_of (j:=0) HX4i.out;clear hn9 hd9 ht9 no3 no4 hc5 HDC;go_upto_region 9 with (fail)
    refine start_ (n:=4) (S:=fun w' => w'.cell? ⟨g3,0,none⟩ = some (.slice (some ⟨nb,0,none⟩) n n) ∧ w'.cell? ⟨g4,0,none⟩ = some (.slice (some ⟨db,0,none⟩) n n)) (ds:=[3]) #[nn,nn,nn,nn] (by kernel_rfl) rfl rfl ⟨cell_of (j:=0) (show w9.drew.heap[g3]? = _ from HX3i.out) rfl,cell_of (j:=0) (show w9.drew.heap[g4]? = _ from HX4i.out) rfl⟩ (fun hHeld => ?_);refine tk_ 0 (some 27) (bm 4 1) (by kernel_rfl) hHeld ?_;refine tk_ 1 (some 28) (bm 4 3) (by kernel_rfl) hHeld ?_;refine one_ (i:=2) (N:=none) (bm 4 7) rfl rfl (by kernel_rfl) (by decide) (fun K hK => ?_);refine skip_ (w1:=?_) (by rfl) rfl ?_ ?_
    rotate_left
    · go_simp
      rfl
    refine hK.out _ _ ⟨cell_of (j:=0) (blk_set 0 _ (show w9.drew.heap[g3]? = _ from HX3i.out)) rfl,cell_tn (cell_of (j:=0) (show w9.drew.heap[g4]? = _ from HX4i.out) rfl) (Tn.set g3 0 _ (F:=fun k => k = g3) rfl) HNE43.out⟩ (fun hHeld => ?_);clear hK K;refine last_ (i:=3) (N:=none) (bm 4 15) rfl rfl (by kernel_rfl) (by decide) (fun K hK => ?_);refine skip_ (w1:=?_) (by rfl) rfl ?_ ?_
    rotate_left
    · go_simp
      rfl
    refine hK.out _ _ ?_;clear hK K;refine done_ (by kernel_rfl) ?_;have T1 : Tn w9 (w9.setCell ⟨g3,0,none⟩ (.slice (some ⟨nb,0,none⟩) n n)) (fun k => k = g3):=Tn.set g3 0 _ rfl;have T2 : Tn (w9.setCell ⟨g3,0,none⟩ (.slice (some ⟨nb,0,none⟩) n n)) ((w9.setCell ⟨g3,0,none⟩ (.slice (some ⟨nb,0,none⟩) n n)).setCell ⟨g4,0,none⟩ (.slice (some ⟨db,0,none⟩) n n)).drew (fun k => k = g4):=(Tn.set (F:=fun k => k = g4) g4 0 _ rfl).trans' (Tn.drew _ _);have HX3j:=Am (blk_tn (show (w9.setCell ⟨g3,0,none⟩ (.slice (some ⟨nb,0,none⟩) n n)).heap[g3]? = some (.cells #[.slice (some ⟨nb,0,none⟩) n n] 42 (0,0)) from blk_set 0 _ HX3i.out) T2 (fun e => HNE43.out e.symm));have HX4j:=Am (show ((w9.setCell ⟨g3,0,none⟩ (.slice (some ⟨nb,0,none⟩) n n)).setCell ⟨g4,0,none⟩ (.slice (some ⟨db,0,none⟩) n n)).drew.heap[g4]? = some (.cells #[.slice (some ⟨db,0,none⟩) n n] 42 (0,0)) from blk_set 0 _ (blk_tn HX4i.out T1 HNE43.out));have T12 : Tn w9 ((w9.setCell ⟨g3,0,none⟩ (.slice (some ⟨nb,0,none⟩) n n)).setCell ⟨g4,0,none⟩ (.slice (some ⟨db,0,none⟩) n n)).drew (fun k => k = g3 ∨ k = g4):=(T1.mono (fun _ _ h => .inl h)).trans' (T2.mono (fun _ _ h => .inr h));have HNj:=Am (own_tn HN9.out T12 (fun k hk e => by cases hk;have h:=HAP.out;rcases e with e | e <;> simp only at e <;> omega));have HDj:=Am (own_tn HD9.out T12 (fun k hk e => by cases hk;have h:=HAP.out;rcases e with e | e <;> simp only at e <;> omega));have HTj:=Am ((HTA.out.trans' (HT9.out.mono (G:=fun k => w.heap.size ≤ k) (fun i _ h => by
      show w.heap.size ≤ i;have z:=HZS.out;have zb:=HBN.out;have zd:=HBD.out;rcases HFB.out i h with e | e | e
      · omega
      · omega
      · rcases Nat.lt_or_ge i w1.heap.size with q | q
        · have:=HLOW.out i q;omega
        · omega))).trans' (T12.mono (fun i _ h => by show w.heap.size ≤ i;have z:=HZS.out;rcases h with h | h <;> omega)))
    clear T1 T2 T12 hc3 hf3 hc4 hf4 HX3i HX4i;generalize ((w9.setCell ⟨g3,0,none⟩ (.slice (some ⟨nb,0,none⟩) n n)).setCell ⟨g4,0,none⟩ (.slice (some ⟨db,0,none⟩) n n)).drew = w10 at HX3j HX4j HNj HDj HTj ⊢;go_wp2;refine bodyPost_ret (results_c2 rfl _ _ ⟨g3,0,none⟩ ⟨g4,0,none⟩ (.slice (some ⟨nb,0,none⟩) n n) (.slice (some ⟨db,0,none⟩) n n) _ _ rfl (cell_of (j:=0) HX3j.out rfl) Tryz.underlying42 rfl (cell_of (j:=0) HX4j.out rfl) Tryz.underlying42) rfl ?_;refine ⟨gb_of_tn HTj.out (fun _ h => h),.inr ⟨HE0.out,nb,db,HNEB.out,by rw [HN.out],?_,?_⟩⟩
    · rw [HN.out];exact own_mono HNj.out HZS.out.2.1
    · rw [HN.out];exact own_mono HDj.out HZS.out.2.1
end Go.Proofs.YtodibpddlibneaaGreatDoor.T
namespace Go.Proofs.YtodibpddlibneaaGreatDoor.Q
open Go.RowKit YtodibpddlibneaaGreatDoorW.PrintWords YtodibpddlibneaaGreatDoorW.PrintLast YtodibpddlibneaaGreatDoorW.PrintMore
/-- A word of 64 bits. -/
def U (x : Int) : Prop:=0 ≤ x ∧ x < 18446744073709551616
theorem w64 (x : Int) : IntKind.u64.wrap x = x % 18446744073709551616:=by simp [IntKind.wrap,IntKind.bits,IntKind.signed]
theorem w64_in {x : Int} (h0 : 0 ≤ x) (h1 : x < 18446744073709551616) : IntKind.u64.wrap x = x:=by rw [w64];omega
theorem wraps_u64 (n : Int) (h0 : 0 ≤ n) (h1 : n < 2 ^ 64) : IntKind.u64.wrap n = n:=by rw [w64];omega
theorem and32 {x : Int} (h : U x) : Go.bits .and .u64 x 4294967295 = x % 4294967296:=
  bits_mask .u64 64 (by decide) wraps_u64 32 (by decide) x h.1 (by have:=h.2;omega)
theorem and1 {x : Int} (h : U x) : Go.bits .and .u64 x 1 = x % 2:=
  bits_mask .u64 64 (by decide) wraps_u64 1 (by decide) x h.1 (by have:=h.2;omega)
theorem or_add {x y : Int} (i : Nat) (hx : U x) (hm : x % 2 ^ i = 0) (hy0 : 0 ≤ y) (hy : y < 2 ^ i) (hy1 : y < 18446744073709551616) : Go.bits .or .u64 x y = x + y:=
  bits_join .u64 64 (by decide) wraps_u64 i x y hx.1 hm (by have:=hx.2;omega) hy0 hy (by omega)
theorem shr_at {x : Int} (n : Nat) (h : n ≤ 64) : shr .u64 x (n : Int) = x / 2 ^ n:=by unfold shr;rw [Int.toNat_natCast,show min n IntKind.u64.bits = n from Nat.min_eq_left h]
theorem shl_at {x : Int} (n : Nat) (h : n ≤ 64) : shl .u64 x (n : Int) = (x * 2 ^ n) % 18446744073709551616:=by unfold shl;rw [Int.toNat_natCast,show min n IntKind.u64.bits = n from Nat.min_eq_left h,w64]
theorem wrap64_in {x : Int} (h0 : -9223372036854775808 ≤ x) (h1 : x ≤ 9223372036854775807) : wrap64 x = x:=by unfold wrap64;omega
theorem tdiv_eq {a b : Int} (h : 0 ≤ a) : Int.tdiv a b = a / b:=Int.tdiv_eq_ediv_of_nonneg h
theorem tmod_eq {a b : Int} (h : 0 ≤ a) : Int.tmod a b = a % b:=Int.tmod_eq_emod_of_nonneg h

/-- The product of two words by halves. -/
theorem mul_halves (a b : Int) : a * b = (a / 4294967296) * (b / 4294967296) * 18446744073709551616 + ((a / 4294967296) * (b % 4294967296) + (a % 4294967296) * (b / 4294967296)) * 4294967296 + (a % 4294967296) * (b % 4294967296):=by
  have ha : a = (a / 4294967296) * 4294967296 + a % 4294967296:=by omega
  have hb : b = (b / 4294967296) * 4294967296 + b % 4294967296:=by omega
  generalize a / 4294967296 = p at *;generalize a % 4294967296 = q at *;generalize b / 4294967296 = r at *;generalize b % 4294967296 = s at *;subst ha hb;have e : (p * 4294967296 + q) * (r * 4294967296 + s) = p * r * (4294967296 * 4294967296) + (p * s + q * r) * 4294967296 + q * s:=by
    simp only [Int.add_mul,Int.mul_add];have h1 : p * 4294967296 * (r * 4294967296) = p * r * (4294967296 * 4294967296):=by rw [Int.mul_assoc,Int.mul_left_comm 4294967296,← Int.mul_assoc p]
    have h2 : p * 4294967296 * s = p * s * 4294967296:=by rw [Int.mul_right_comm]
    have h3 : q * (r * 4294967296) = q * r * 4294967296:=by rw [Int.mul_assoc]
    rw [h1,h2,h3];omega
  rw [e];omega
theorem half_bd {x y : Int} (hx0 : 0 ≤ x) (hx : x < 4294967296) (hy0 : 0 ≤ y) (hy : y < 4294967296) : 0 ≤ x * y ∧ x * y ≤ 18446744065119617025:=by
  refine ⟨Int.mul_nonneg hx0 hy0,?_⟩;have h1 : x * y ≤ 4294967295 * y:=Int.mul_le_mul_of_nonneg_right (by omega) hy0;omega
theorem mul_bd {x y : Int} (hx : U x) (hy : U y) : 0 ≤ x * y ∧ x * y ≤ 340282366920938463426481119284349108225:=by
  refine ⟨Int.mul_nonneg hx.1 hy.1,?_⟩;have h1 : x * y ≤ 18446744073709551615 * y:=Int.mul_le_mul_of_nonneg_right (by have:=hx.2;omega) hy.1
  have:=hy.2;omega
/-- A number of two words. -/
def V (h l : Int) : Int:=h * 18446744073709551616 + l
theorem V_hi {h l : Int} (hl : U l) : V h l / 18446744073709551616 = h:=by unfold V;have:=hl.1;have:=hl.2;omega
theorem V_lo {h l : Int} (hl : U l) : V h l % 18446744073709551616 = l:=by unfold V;have:=hl.1;have:=hl.2;omega
def addV (x y : Int) : Int × Int × Bool:=if x + y < 340282366920938463463374607431768211456 then ((x + y) / 18446744073709551616,(x + y) % 18446744073709551616,true) else (18446744073709551615,18446744073709551615,false)
def cmpV (x y : Int) : Int:=if x < y then -1 else if x = y then 0 else 1
theorem or_comm_ (k : IntKind) (x y : Int) : Go.bits .or k x y = Go.bits .or k y x:=by unfold Go.bits;simp only [BitVec.or_comm]
theorem wf_u {a : Int} (h : (Lit.int .u64 a).wf = true) : U a:=by
  simp [Lit.wf,IntKind.min,IntKind.max,IntKind.bits,IntKind.signed] at h;exact ⟨h.1,by omega⟩
end Go.Proofs.YtodibpddlibneaaGreatDoor.Q
namespace Go.Proofs.YtodibpddlibneaaGreatDoor.GSH
open Go.RowKit YtodibpddlibneaaGreatDoorW.PrintWords YtodibpddlibneaaGreatDoorW.PrintLast YtodibpddlibneaaGreatDoorW.PrintMore
attribute [local go_sem] max2_int min2_int max_two min_two max_three min_three max_four min_four   -- for this text's walks alone
set_option linter.unusedVariables false
set_option linter.unusedSimpArgs false
def errW : Option Int → Value
 | none => .nilIface
 | some c => .iface 0 (.int .i64 c)
theorem errW_none : errW none = .nilIface:=rfl
theorem errW_some (c : Int) : errW (some c) = .iface 0 (.int .i64 c):=rfl

structure S31 where
 f0 : ByteArray
 f1 : Int
 f2 : Int
 f3 : Bool
 f4 : Int
def z31 : S31:=⟨(⟨#[]⟩ : ByteArray),(0 : Int),(0 : Int),false,(0 : Int)⟩
def k31 : Kd S31:=Kd.iso (Kd.pair Kd.string (Kd.pair (Kd.int .i64) (Kd.pair (Kd.int .i64) (Kd.pair Kd.bool (Kd.int .u64))))) (fun x : S31 => (x.f0,x.f1,x.f2,x.f3,x.f4))
theorem k31_open {w : World} {x : S31} {cs : List Value} (h : k31.K w x cs) : cs = [.string x.f0,.int .i64 x.f1,.int .i64 x.f2,.bool x.f3,.int .u64 x.f4]:=by
 obtain ⟨_,_,rfl,rfl,⟨_,_,rfl,rfl,⟨_,_,rfl,rfl,⟨_,_,rfl,rfl,rfl⟩⟩⟩⟩:=h;exact rfl
theorem k31_mk (w : World) (x : S31)  : k31.K w x [.string x.f0,.int .i64 x.f1,.int .i64 x.f2,.bool x.f3,.int .u64 x.f4]:=⟨[.string x.f0],[.int .i64 x.f1,.int .i64 x.f2,.bool x.f3,.int .u64 x.f4],rfl,rfl,⟨[.int .i64 x.f1],[.int .i64 x.f2,.bool x.f3,.int .u64 x.f4],rfl,rfl,⟨[.int .i64 x.f2],[.bool x.f3,.int .u64 x.f4],rfl,rfl,⟨[.bool x.f3],[.int .u64 x.f4],rfl,rfl,rfl⟩⟩⟩⟩
def rd_T31 (xs : List S31) (i : Int) : S31:=xs.getD i.toNat z31
theorem at_T31 {w : World} {A : Option Addr} {n : Nat} {xs : List S31} (h : Kd.C k31 w A n xs) (i : Int) (h0 : 0 ≤ i) (h1 : i < n) : ∃ ad ,A = some ad ∧ w.cell? (ad.add (i.toNat * 5)) = some (.string (rd_T31 xs i).f0) ∧ w.cell? ⟨(ad.add (i.toNat * 5)).block,(ad.add (i.toNat * 5)).off + 1,none⟩ = some (.int .i64 (rd_T31 xs i).f1) ∧ w.cell? ⟨(ad.add (i.toNat * 5)).block,(ad.add (i.toNat * 5)).off + 2,none⟩ = some (.int .i64 (rd_T31 xs i).f2) ∧ w.cell? ⟨(ad.add (i.toNat * 5)).block,(ad.add (i.toNat * 5)).off + 3,none⟩ = some (.bool (rd_T31 xs i).f3) ∧ w.cell? ⟨(ad.add (i.toNat * 5)).block,(ad.add (i.toNat * 5)).off + 4,none⟩ = some (.int .u64 (rd_T31 xs i).f4):=by
 obtain ⟨ad,c,e,_,hK,hc0⟩:=Kd.C_get h z31 i h0 h1;have hc : ∀ j u,c[j]? = some u → w.cell? (ad.add (i.toNat * 5 + j)) = some u:=hc0;obtain rfl:=k31_open hK;exact ⟨ad,e,hc 0 _ rfl,by rw [← add_field _ _ 1 (by omega)];exact hc 1 _ rfl,by rw [← add_field _ _ 2 (by omega)];exact hc 2 _ rfl,by rw [← add_field _ _ 3 (by omega)];exact hc 3 _ rfl,by rw [← add_field _ _ 4 (by omega)];exact hc 4 _ rfl⟩

/-- A call of a function without a body,at which the model itself answers: it runs here and now. -/
def CallsX (P : Program) (f : FuncId) (args : Array Value) (w : World) (R : Ending → World → Prop) : Prop:=∃ v w',(callFunc f args).run P w = .ok (.value v) w' ∧ R (.returned v) w'
theorem CallsX.mono {P : Program} {f : FuncId} {args : Array Value} {w : World} {R R' : Ending → World → Prop} (h : CallsX P f args w R) (hr : ∀ e w',R e w' → R' e w') : CallsX P f args w R':=by
 obtain ⟨v,w',h1,h2⟩:=h;exact ⟨v,w',h1,hr _ _ h2⟩
theorem goesX_ {P : Program} {ops : Array Oper} {Q : Exit → Act → World → Prop} {rest : List Oper} {oi : Oper} {a : Act} {w : World} (N : Option Tmp) (hd : oi.dst = N) (hg : oi.guard = none) {f : FuncId} {xs : Array Operand} {ts : Array TypeId} (args : Array Value)
  (hop : oi.op = .call { callee:=.value (.func f),args:=xs,argTypes:=ts }) (hargs : xs.map a.eval = args)
  (h : CallsX P f args w fun e w' => ∃ v,e = .returned v ∧ wpList P ops Q rest (a.put N v) w') : wpList P ops Q (oi :: rest) a w:=by
 refine wpList_plain hg fun K hK => ?_
 obtain ⟨v,w',he,v',hv,hk⟩:=h;have hv' : v = v':=by injection hv
 subst hv';have hrun : (execOp a.eval oi).run P w = .ok (.value v) w':=by
  unfold execOp;simp [hop,resolve,Deferred.ofValue,invoke,Act.eval,hargs,he]
 unfold Oper.wp;rw [hrun];subst hd;exact hK _ _ hk

/-- The Rungs,as the program's text lays them. -/
def rungsL : List Int:=[13043817825332782212,15511800964685064948,16915738899553466670,17664662643191237676,18051468387014017850,18248035989933441396,18347121020861646923,18396865112328554660,18421787711448657617,18434261669329232139,18440501815349552981,18443622680442407997,18445183311048607331,18445963675871538003,18446353870663572144,18446548971154807801,18446646522174239824,18446695297877410578,18446719685777359790,18446731879739425373,18446737976723480911,18446741025216264367,18446742549462845017,18446743311586182573,18446743692647863158,18446743883178706403,18446743978444128763,18446744026076840128,18446744049893195856,18446744061801373732,18446744067755462673,18446744070732507144]
/-- The variable 'rungs' of package ladder holds them. -/
def LaidW (w : World) : Prop:=∀ j : Nat,j < 32 → w.cell? ⟨0,j,none⟩ = some (.int .u64 (rd rungsL (j : Int)))
theorem laid_below {w w1 : World} (hL : LaidW w) (hb : Below w.heap.size w w1) : LaidW w1:=fun j hj => pw_cell_below hb (hL j hj)
def backfilllaw14_sameInts.l0 : Nat → List Int → List Int → Int → Option (Bool)
 | 0,_,_,_ => none
 | k + 1,x0,x1,x5 => if x5 < (x0.length : Int) then (if 0 ≤ x5 then (if x5 < (x1.length : Int) then (if (rd x0 x5) = (rd x1 x5) then (backfilllaw14_sameInts.l0 k x0 x1 (wrap64 (x5 + 1))) else (some false)) else (none)) else (none)) else (some true)
def backfilllaw14_sameInts.f (k : Nat) (l0 : List Int) (l1 : List Int) : Option (Bool):=if (l0.length : Int) = (l1.length : Int) then (backfilllaw14_sameInts.l0 k l0 l1 0) else (some false)
theorem backfilllaw14_sameInts.mono_l : ∀ k,(∀ y0 y1 y2,LeO (backfilllaw14_sameInts.l0 k y0 y1 y2) (backfilllaw14_sameInts.l0 (k + 1) y0 y1 y2))
 | 0 => fun _ _ _ r h => by simp [backfilllaw14_sameInts.l0] at h
 | k + 1 => by
  have ih0:=backfilllaw14_sameInts.mono_l k
  ·intro y0 y1 y2;unfold backfilllaw14_sameInts.l0
   repeat' first
   | (with_reducible exact ih0 _ _ _)
   | (with_reducible exact LeO.refl _)
   | (with_reducible exact LeO.none _)
   | (with_reducible refine LeO.ite ?_ ?_)
   | (with_reducible refine LeO.bind ?_ (fun _ => ?_))
   | exact ih0 _ _ _
   | exact LeO.none _
   | refine LeO.ite ?_ ?_
   | refine LeO.bind ?_ (fun _ => ?_)
theorem backfilllaw14_sameInts.mono : ∀ a0 a1 k,LeO (backfilllaw14_sameInts.f k a0 a1) (backfilllaw14_sameInts.f (k + 1) a0 a1):=by
 intro a0 a1 k;have ih0:=backfilllaw14_sameInts.mono_l k;unfold backfilllaw14_sameInts.f
 repeat' first
   | (with_reducible exact ih0 _ _ _)
   | (with_reducible exact LeO.refl _)
   | (with_reducible exact LeO.none _)
   | (with_reducible refine LeO.ite ?_ ?_)
   | (with_reducible refine LeO.bind ?_ (fun _ => ?_))
   | exact ih0 _ _ _
   | exact LeO.none _
   | refine LeO.ite ?_ ?_
   | refine LeO.bind ?_ (fun _ => ?_)
theorem backfilllaw14_sameInts.calls (k : Nat) (A0 : Option Addr) (c0 : Nat) (l0 : List Int) (A1 : Option Addr) (c1 : Nat) (l1 : List Int) (r : Bool) (w : World) (hr0 : Kd.C (Kd.int .i64) w A0 l0.length l0) (hc0 : l0.length ≤ c0) (hr1 : Kd.C (Kd.int .i64) w A1 l1.length l1) (hc1 : l1.length ≤ c1) (h : backfilllaw14_sameInts.f k l0 l1 = some r) :
  Calls Tryz.prog 9 #[.slice A0 l0.length c0,.slice A1 l1.length c1] w fun e w' => e = .returned (.bool r) ∧ Drawn0 w w':=by
 have HR0:=Am hr0;have HC0:=Am hc0;clear hr0 hc0;have HR1:=Am hr1;have HC1:=Am hc1;clear hr1 hc1;have H : (if (l0.length : Int) = (l1.length : Int) then (backfilllaw14_sameInts.l0 k l0 l1 0) else (some false)) = some r:=h;clear h
 by_cases c3 : (l0.length : Int) = (l1.length : Int)
 ·rw [if_pos c3] at H;have c3b0 : ((l0.length : Int) == (l1.length : Int)) = true:=beq_iff_eq.mpr c3;have c3b1 : ((l0.length : Int) != (l1.length : Int)) = false:=bne_eq_false_iff_eq.mpr c3;have c3b2 : (l0.length == l1.length) = true:=by first | simpa using c3 | (simp at c3 ⊢;omega)
  clear c3;have H':=Am H;clear H;go_enter Tryz.func9,Tryz.ntmps9;go_wp2
  repeat (go_quiet (fail);try go_wp2)
  go_loopg [5] k (fun kq v5 w' => ∃ (x5_1 : Int),v5 = .int .i64 x5_1 ∧ Aside0 (backfilllaw14_sameInts.l0 kq l0 l1 x5_1 = some r) ∧ Aside0 (kq ≤ k) ∧ Drawn0 w w')
  case atStart => exact ⟨(0),(by first | rfl | (simp;done) | (simp [*];done)),H',⟨Nat.le_refl _⟩,by repeat (first | exact Drawn0.refl _ | apply Drawn0.step)⟩
  case round =>
   clear H'
   try clear c1
   try clear p2
   try clear c3
   try clear c3b0
   try clear c3b1
   try clear c3b2
   obtain ⟨x5_1,rfl,HA,HK1,⟨m1,rfl⟩⟩:=hrel
   cases gk with
   | zero => exact absurd HA.out (by simp [backfilllaw14_sameInts.l0])
   | succ k1 =>
    have H:=HA.out;clear HA;simp only [backfilllaw14_sameInts.l0] at H
    by_cases c4 : x5_1 < (l0.length : Int)
    ·rw [if_pos c4] at H;have c4b0 : decide (x5_1 < (l0.length : Int)) = true:=dT c4;clear c4
     by_cases c5 : 0 ≤ x5_1
     ·rw [if_pos c5] at H;have c5b0 : decide (0 ≤ x5_1) = true:=dT c5;clear c5
      by_cases c6 : x5_1 < (l1.length : Int)
      ·rw [if_pos c6] at H;have c6b0 : decide (x5_1 < (l1.length : Int)) = true:=dT c6;clear c6
       by_cases c7 : (rd l0 x5_1) = (rd l1 x5_1)
       ·rw [if_pos c7] at H;have c7b0 : ((rd l0 x5_1) == (rd l1 x5_1)) = true:=beq_iff_eq.mpr c7;have c7b1 : ((rd l0 x5_1) != (rd l1 x5_1)) = false:=bne_eq_false_iff_eq.mpr c7;clear c7;have H':=Am H;clear H;have p101 : 0 ≤ (x5_1 : Int):=of_decide_eq_true (by first | (with_reducible assumption) | assumption);have q101 : x5_1 < (l0.length : Int):=of_decide_eq_true (by first | (with_reducible assumption) | assumption);obtain ⟨ad101,e101,hx101_0⟩:=Kd.at_int HR0.out x5_1 p101 q101
        cases e101;replace p101:=eq_true p101;replace q101:=eq_true q101;have p102 : 0 ≤ (x5_1 : Int):=of_decide_eq_true (by first | (with_reducible assumption) | assumption);have q102 : x5_1 < (l1.length : Int):=of_decide_eq_true (by first | (with_reducible assumption) | assumption);obtain ⟨ad102,e102,hx102_0⟩:=Kd.at_int HR1.out x5_1 p102 q102
        cases e102;replace p102:=eq_true p102;replace q102:=eq_true q102;go_wp2
        repeat (go_quiet (fail);try go_wp2)
        go_roundg k1
        case measure => have:=HK1.out;omega
        case rel => exact ⟨(wrap64 (x5_1 + 1)),(by first | rfl | (simp;done) | (simp [*];done)),H',⟨by have:=HK1.out;omega⟩,by repeat (first | exact Drawn0.refl _ | apply Drawn0.step)⟩
       ·rw [if_neg c7] at H;have c7b0 : ((rd l0 x5_1) == (rd l1 x5_1)) = false:=beq_eq_false_iff_ne.mpr c7;have c7b1 : ((rd l0 x5_1) != (rd l1 x5_1)) = true:=bne_iff_ne.mpr c7;obtain rfl:=oI H;have p101 : 0 ≤ (x5_1 : Int):=of_decide_eq_true (by first | (with_reducible assumption) | assumption);have q101 : x5_1 < (l0.length : Int):=of_decide_eq_true (by first | (with_reducible assumption) | assumption);obtain ⟨ad101,e101,hx101_0⟩:=Kd.at_int HR0.out x5_1 p101 q101
        cases e101;replace p101:=eq_true p101;replace q101:=eq_true q101;have p102 : 0 ≤ (x5_1 : Int):=of_decide_eq_true (by first | (with_reducible assumption) | assumption);have q102 : x5_1 < (l1.length : Int):=of_decide_eq_true (by first | (with_reducible assumption) | assumption);obtain ⟨ad102,e102,hx102_0⟩:=Kd.at_int HR1.out x5_1 p102 q102
        cases e102;replace p102:=eq_true p102;replace q102:=eq_true q102;go_wp2
        repeat (go_quiet (fail);try go_wp2)
        go_ret;exact ⟨by first | rfl | (simp;done) | (simp [*];done),by repeat (first | exact Drawn0.refl _ | apply Drawn0.step)⟩
      ·rw [if_neg c6] at H;exact absurd H (by simp)
     ·rw [if_neg c5] at H;exact absurd H (by simp)
    ·rw [if_neg c4] at H;have c4b0 : decide (x5_1 < (l0.length : Int)) = false:=dF c4;clear c4;obtain rfl:=oI H;go_wp2
     repeat (go_quiet (fail);try go_wp2)
     go_ret;exact ⟨by first | rfl | (simp;done) | (simp [*];done),by repeat (first | exact Drawn0.refl _ | apply Drawn0.step)⟩
 ·rw [if_neg c3] at H;have c3b0 : ((l0.length : Int) == (l1.length : Int)) = false:=beq_eq_false_iff_ne.mpr c3;have c3b1 : ((l0.length : Int) != (l1.length : Int)) = true:=bne_iff_ne.mpr c3;have c3b2 : (l0.length == l1.length) = false:=by first | simpa using c3 | (simp at c3 ⊢;omega)
  obtain rfl:=oI H;go_enter Tryz.func9,Tryz.ntmps9;go_wp2
  repeat (go_quiet (fail);try go_wp2)
  go_ret;exact ⟨by first | rfl | (simp;done) | (simp [*];done),by repeat (first | exact Drawn0.refl _ | apply Drawn0.step)⟩

def config_inside.f (a0 : Int) (a1 : Int) (a2 : Int) : Option (Bool):=if a0 ≥ a1 then (some (decide (a0 ≤ a2))) else (some false)
theorem config_inside.calls (a0 : Int) (a1 : Int) (a2 : Int) (r : Bool) (w : World) (h : config_inside.f a0 a1 a2 = some r) :
  Calls Tryz.prog 63 #[.int .i64 a0,.int .i64 a1,.int .i64 a2] w fun e w' => e = .returned (.bool r) ∧ Drawn0 w w':=by
 have H : (if a0 ≥ a1 then (some (decide (a0 ≤ a2))) else (some false)) = some r:=h;clear h
 by_cases c4 : a0 ≥ a1
 ·rw [if_pos c4] at H;have c4b0 : decide (a1 ≤ a0) = true:=dT c4;clear c4;obtain rfl:=oI H;go_enter Tryz.func63,Tryz.ntmps63;go_wp2;go_ret;exact ⟨by first | rfl | (simp;done) | (simp [*];done),by repeat (first | exact Drawn0.refl _ | apply Drawn0.step)⟩
 ·rw [if_neg c4] at H;have c4b0 : decide (a1 ≤ a0) = false:=dF c4;clear c4;obtain rfl:=oI H;go_enter Tryz.func63,Tryz.ntmps63;go_wp2;go_ret;exact ⟨by first | rfl | (simp;done) | (simp [*];done),by repeat (first | exact Drawn0.refl _ | apply Drawn0.step)⟩

mutual
def config_asked_ranges.j0 : Nat → Bool → Int → Int → Int → Int → Int → Int → Int → Int → Option (Int)
 | 0,_,_,_,_,_,_,_,_,_ => none
 | k + 1,x3,x104000,x104001,x104002,x104003,x104004,x104005,x104006,x104007 => (config_inside.f x104003 1 1048576).bind fun t107 => (if t107 = true then ((config_inside.f x104004 0 1048576).bind fun t108 => (if t108 = true then ((config_inside.f x104005 0 1048576).bind fun t109 => (config_asked_ranges.j1 k x3 t109 x104000 x104001 x104002 x104003 x104004 x104005 x104006 x104007)) else (config_asked_ranges.j1 k x3 false x104000 x104001 x104002 x104003 x104004 x104005 x104006 x104007))) else (config_asked_ranges.j1 k x3 false x104000 x104001 x104002 x104003 x104004 x104005 x104006 x104007))
def config_asked_ranges.j1 : Nat → Bool → Bool → Int → Int → Int → Int → Int → Int → Int → Int → Option (Int)
 | 0,_,_,_,_,_,_,_,_,_,_ => none
 | k + 1,x3,x4,x104000,x104001,x104002,x104003,x104004,x104005,x104006,x104007 => if x3 = true then (if x4 = true then ((config_inside.f x104006 1 1048576).bind fun t110 => (if t110 = true then ((config_inside.f x104007 1 1073741824).bind fun t111 => (if t111 = true then (some 0) else (some 110))) else (some 110))) else (some 110)) else (some 110)
end
def config_asked_ranges.f (k : Nat) (a0_0 : Int) (a0_1 : Int) (a0_2 : Int) (a0_3 : Int) (a0_4 : Int) (a0_5 : Int) (a0_6 : Int) (a0_7 : Int) : Option (Int):=(config_inside.f a0_0 1 256).bind fun t104 => (if t104 = true then ((config_inside.f a0_1 1 128).bind fun t105 => (if t105 = true then ((config_inside.f a0_2 1 1048576).bind fun t106 => (config_asked_ranges.j0 k t106 a0_0 a0_1 a0_2 a0_3 a0_4 a0_5 a0_6 a0_7)) else (config_asked_ranges.j0 k false a0_0 a0_1 a0_2 a0_3 a0_4 a0_5 a0_6 a0_7))) else (config_asked_ranges.j0 k false a0_0 a0_1 a0_2 a0_3 a0_4 a0_5 a0_6 a0_7))
theorem config_asked_ranges.calls (k : Nat) (a0_0 : Int) (a0_1 : Int) (a0_2 : Int) (a0_3 : Int) (a0_4 : Int) (a0_5 : Int) (a0_6 : Int) (a0_7 : Int) (r : Int) (w : World) (h : config_asked_ranges.f k a0_0 a0_1 a0_2 a0_3 a0_4 a0_5 a0_6 a0_7 = some r) :
  Calls Tryz.prog 34 #[.agg #[.int .i64 a0_0,.int .i64 a0_1,.int .i64 a0_2,.int .i64 a0_3,.int .i64 a0_4,.int .i64 a0_5,.int .i64 a0_6,.int .i64 a0_7]] w fun e w' => e = .returned (.int .i64 r) ∧ Below w.heap.size w w':=by
 have hu73:=Tryz.underlying73;have HB:=Am (Below.refl w.heap.size w);have H : ((config_inside.f a0_0 1 256).bind fun t104 => (if t104 = true then ((config_inside.f a0_1 1 128).bind fun t105 => (if t105 = true then ((config_inside.f a0_2 1 1048576).bind fun t106 => (config_asked_ranges.j0 k t106 a0_0 a0_1 a0_2 a0_3 a0_4 a0_5 a0_6 a0_7)) else (config_asked_ranges.j0 k false a0_0 a0_1 a0_2 a0_3 a0_4 a0_5 a0_6 a0_7))) else (config_asked_ranges.j0 k false a0_0 a0_1 a0_2 a0_3 a0_4 a0_5 a0_6 a0_7))) = some r:=h;clear h;have HC2:=Am H;clear H;go_enter Tryz.func34,Tryz.ntmps34;go_upto_region 1 with (first | ((with_reducible refine gate_dst (N:=1) rfl ?_);refine bxA 1 #[.int .i64 a0_0,.int .i64 a0_1,.int .i64 a0_2,.int .i64 a0_3,.int .i64 a0_4,.int .i64 a0_5,.int .i64 a0_6,.int .i64 a0_7] 73 ?_;intro gb103 hg w3 hbox hb;have BK103:=Am (hbox);have GW103:=gW_ hg;have GE103:=gW_ hg;replace HB:=hb_ hb;clear hb hbox hg))
 (try simp only [Act.put,List.setIfInBounds_toArray,List.set_cons_zero,List.set_cons_succ])
 go_cut [3] (fun v3 wc => ∃ (kq : Nat) (x3_1 : Bool),v3 = .bool x3_1 ∧ Aside0 (config_asked_ranges.j0 kq x3_1 a0_0 a0_1 a0_2 a0_3 a0_4 a0_5 a0_6 a0_7 = some r) ∧ Aside0 (kq ≤ k) ∧ Aside0 (wc.heap[gb103]? = some (.cells #[.int .i64 a0_0,.int .i64 a0_1,.int .i64 a0_2,.int .i64 a0_3,.int .i64 a0_4,.int .i64 a0_5,.int .i64 a0_6,.int .i64 a0_7] 73 (0,0))) ∧ Aside0 (Below w.heap.size w wc))
 case first =>
  have H:=HC2.out;clear HC2;obtain ⟨t104,A4,H⟩:=bnd H;(try dsimp only at H)
  by_cases c5 : t104 = true
  ·subst c5;have H1 : ((config_inside.f a0_1 1 128).bind fun t105 => (if t105 = true then ((config_inside.f a0_2 1 1048576).bind fun t106 => (config_asked_ranges.j0 k t106 a0_0 a0_1 a0_2 a0_3 a0_4 a0_5 a0_6 a0_7)) else (config_asked_ranges.j0 k false a0_0 a0_1 a0_2 a0_3 a0_4 a0_5 a0_6 a0_7))) = some r:=by rw [if_pos rfl] at H;exact H
   clear H;have H:=H1;clear H1;obtain ⟨t105,A6,H⟩:=bnd H;(try dsimp only at H)
   by_cases c7 : t105 = true
   ·subst c7;have H1 : ((config_inside.f a0_2 1 1048576).bind fun t106 => (config_asked_ranges.j0 k t106 a0_0 a0_1 a0_2 a0_3 a0_4 a0_5 a0_6 a0_7)) = some r:=by rw [if_pos rfl] at H;exact H
    clear H;have H:=H1;clear H1;obtain ⟨t106,A8,H⟩:=bnd H;(try dsimp only at H);have H':=Am H;clear H;obtain ⟨hcz9_0,hcz9_1,hcz9_2,hcz9_3,hcz9_4,hcz9_5,hcz9_6,hcz9_7,hfz9_0,hfz9_1,hfz9_2,hfz9_3,hfz9_4,hfz9_5,hfz9_6,hfz9_7⟩:=k8 BK103.out;go_wp2_with (first | ((with_reducible refine gate_callee (f:=63) rfl ?_);refine goesL_ (some 8) rfl rfl Tryz.func63 (by kernel_rfl) rfl #[.int .i64 a0_0,.int .i64 1,.int .i64 256] rfl aA ?_;(with_reducible refine (config_inside.calls a0_0 1 256 true _ A4.out).mono ?_);rintro e w' ⟨rfl,⟨nd,rfl⟩⟩;refine ⟨_,rfl,?_⟩) | (go_at_call 63;(with_reducible refine (config_inside.calls a0_1 1 128 true _ A6.out).mono ?_);rintro e w' ⟨rfl,⟨nd,rfl⟩⟩) | (go_at_call 63;(with_reducible refine (config_inside.calls a0_2 1 1048576 t106 _ A8.out).mono ?_);rintro e w' ⟨rfl,⟨nd,rfl⟩⟩))
    go_meet
    case rel => exact ⟨_,(t106),(by first | rfl | (simp;done) | (simp [*];done)),H',⟨by first | omega | exact Nat.le_refl _⟩,⟨by exact kA⟩,⟨bA⟩⟩
   ·replace c7:=Bool.eq_false_iff.mpr c7;subst c7;have H1 : (config_asked_ranges.j0 k false a0_0 a0_1 a0_2 a0_3 a0_4 a0_5 a0_6 a0_7) = some r:=by rw [if_neg (show ¬ (false = true) by decide)] at H;exact H
    clear H;have H:=H1;clear H1;have H':=Am H;clear H;obtain ⟨hcz10_0,hcz10_1,hcz10_2,hcz10_3,hcz10_4,hcz10_5,hcz10_6,hcz10_7,hfz10_0,hfz10_1,hfz10_2,hfz10_3,hfz10_4,hfz10_5,hfz10_6,hfz10_7⟩:=k8 BK103.out;go_wp2_with (first | ((with_reducible refine gate_callee (f:=63) rfl ?_);refine goesL_ (some 8) rfl rfl Tryz.func63 (by kernel_rfl) rfl #[.int .i64 a0_0,.int .i64 1,.int .i64 256] rfl aA ?_;(with_reducible refine (config_inside.calls a0_0 1 256 true _ A4.out).mono ?_);rintro e w' ⟨rfl,⟨nd,rfl⟩⟩;refine ⟨_,rfl,?_⟩) | (go_at_call 63;(with_reducible refine (config_inside.calls a0_1 1 128 false _ A6.out).mono ?_);rintro e w' ⟨rfl,⟨nd,rfl⟩⟩))
    go_meet
    case rel => exact ⟨_,(false),(by first | rfl | (simp;done) | (simp [*];done)),H',⟨by first | omega | exact Nat.le_refl _⟩,⟨by exact kA⟩,⟨bA⟩⟩
  ·replace c5:=Bool.eq_false_iff.mpr c5;subst c5;have H1 : (config_asked_ranges.j0 k false a0_0 a0_1 a0_2 a0_3 a0_4 a0_5 a0_6 a0_7) = some r:=by rw [if_neg (show ¬ (false = true) by decide)] at H;exact H
   clear H;have H:=H1;clear H1;have H':=Am H;clear H;obtain ⟨hcz11_0,hcz11_1,hcz11_2,hcz11_3,hcz11_4,hcz11_5,hcz11_6,hcz11_7,hfz11_0,hfz11_1,hfz11_2,hfz11_3,hfz11_4,hfz11_5,hfz11_6,hfz11_7⟩:=k8 BK103.out;go_wp2_with (first | ((with_reducible refine gate_callee (f:=63) rfl ?_);refine goesL_ (some 8) rfl rfl Tryz.func63 (by kernel_rfl) rfl #[.int .i64 a0_0,.int .i64 1,.int .i64 256] rfl aA ?_;(with_reducible refine (config_inside.calls a0_0 1 256 false _ A4.out).mono ?_);rintro e w' ⟨rfl,⟨nd,rfl⟩⟩;refine ⟨_,rfl,?_⟩))
   go_meet
   case rel => exact ⟨_,(false),(by first | rfl | (simp;done) | (simp [*];done)),H',⟨by first | omega | exact Nat.le_refl _⟩,⟨by exact kA⟩,⟨bA⟩⟩
 case rest =>
  clear HC2
  try clear p2
  try clear c3
  try clear c5
  try clear c6
  try clear c7
  try clear hcz10_0
  try clear hcz10_1
  try clear hcz10_2
  try clear hcz10_3
  try clear hcz10_4
  try clear hcz10_5
  try clear hcz10_6
  try clear hcz10_7
  try clear hcz11_0
  try clear hcz11_1
  try clear hcz11_2
  try clear hcz11_3
  try clear hcz11_4
  try clear hcz11_5
  try clear hcz11_6
  try clear hcz11_7
  try clear hcz9_0
  try clear hcz9_1
  try clear hcz9_2
  try clear hcz9_3
  try clear hcz9_4
  try clear hcz9_5
  try clear hcz9_6
  try clear hcz9_7
  try clear hfz10_0
  try clear hfz10_1
  try clear hfz10_2
  try clear hfz10_3
  try clear hfz10_4
  try clear hfz10_5
  try clear hfz10_6
  try clear hfz10_7
  try clear hfz11_0
  try clear hfz11_1
  try clear hfz11_2
  try clear hfz11_3
  try clear hfz11_4
  try clear hfz11_5
  try clear hfz11_6
  try clear hfz11_7
  try clear hfz9_0
  try clear hfz9_1
  try clear hfz9_2
  try clear hfz9_3
  try clear hfz9_4
  try clear hfz9_5
  try clear hfz9_6
  try clear hfz9_7
  obtain ⟨kq,x3_1,rfl,HA,HJ1,BK103,HB⟩:=hcut
  cases kq with
  | zero => exact absurd HA.out (by simp [config_asked_ranges.j0])
  | succ kj1 =>
   have H:=HA.out;clear HA;simp only [config_asked_ranges.j0] at H;have HC12:=Am H;clear H;go_upto_region 2 with (fail)
   go_cut [4] (fun v4 wc => ∃ (kq : Nat) (x4_11 : Bool),v4 = .bool x4_11 ∧ Aside0 (config_asked_ranges.j1 kq x3_1 x4_11 a0_0 a0_1 a0_2 a0_3 a0_4 a0_5 a0_6 a0_7 = some r) ∧ Aside0 (kq ≤ kj1) ∧ Aside0 (wc.heap[gb103]? = some (.cells #[.int .i64 a0_0,.int .i64 a0_1,.int .i64 a0_2,.int .i64 a0_3,.int .i64 a0_4,.int .i64 a0_5,.int .i64 a0_6,.int .i64 a0_7] 73 (0,0))) ∧ Aside0 (Below w.heap.size w wc))
   case first =>
    have H:=HC12.out;clear HC12;obtain ⟨t107,A13,H⟩:=bnd H;(try dsimp only at H)
    by_cases c14 : t107 = true
    ·subst c14;have H1 : ((config_inside.f a0_4 0 1048576).bind fun t108 => (if t108 = true then ((config_inside.f a0_5 0 1048576).bind fun t109 => (config_asked_ranges.j1 kj1 x3_1 t109 a0_0 a0_1 a0_2 a0_3 a0_4 a0_5 a0_6 a0_7)) else (config_asked_ranges.j1 kj1 x3_1 false a0_0 a0_1 a0_2 a0_3 a0_4 a0_5 a0_6 a0_7))) = some r:=by rw [if_pos rfl] at H;exact H
     clear H;have H:=H1;clear H1;obtain ⟨t108,A15,H⟩:=bnd H;(try dsimp only at H)
     by_cases c16 : t108 = true
     ·subst c16;have H1 : ((config_inside.f a0_5 0 1048576).bind fun t109 => (config_asked_ranges.j1 kj1 x3_1 t109 a0_0 a0_1 a0_2 a0_3 a0_4 a0_5 a0_6 a0_7)) = some r:=by rw [if_pos rfl] at H;exact H
      clear H;have H:=H1;clear H1;obtain ⟨t109,A17,H⟩:=bnd H;(try dsimp only at H);have H':=Am H;clear H;obtain ⟨hcz18_0,hcz18_1,hcz18_2,hcz18_3,hcz18_4,hcz18_5,hcz18_6,hcz18_7,hfz18_0,hfz18_1,hfz18_2,hfz18_3,hfz18_4,hfz18_5,hfz18_6,hfz18_7⟩:=k8 BK103.out;go_wp2_with (first | ((with_reducible refine gate_callee (f:=63) rfl ?_);refine goesL_ (some 24) rfl rfl Tryz.func63 (by kernel_rfl) rfl #[.int .i64 a0_3,.int .i64 1,.int .i64 1048576] rfl aA ?_;(with_reducible refine (config_inside.calls a0_3 1 1048576 true _ A13.out).mono ?_);rintro e w' ⟨rfl,⟨nd,rfl⟩⟩;refine ⟨_,rfl,?_⟩) | (go_at_call 63;(with_reducible refine (config_inside.calls a0_4 0 1048576 true _ A15.out).mono ?_);rintro e w' ⟨rfl,⟨nd,rfl⟩⟩) | (go_at_call 63;(with_reducible refine (config_inside.calls a0_5 0 1048576 t109 _ A17.out).mono ?_);rintro e w' ⟨rfl,⟨nd,rfl⟩⟩))
      go_meet
      case rel => exact ⟨_,(t109),(by first | rfl | (simp;done) | (simp [*];done)),H',⟨by have:=HJ1.out;first | omega | exact Nat.le_refl _⟩,⟨by exact kA⟩,⟨bA⟩⟩
     ·replace c16:=Bool.eq_false_iff.mpr c16;subst c16;have H1 : (config_asked_ranges.j1 kj1 x3_1 false a0_0 a0_1 a0_2 a0_3 a0_4 a0_5 a0_6 a0_7) = some r:=by rw [if_neg (show ¬ (false = true) by decide)] at H;exact H
      clear H;have H:=H1;clear H1;have H':=Am H;clear H;obtain ⟨hcz19_0,hcz19_1,hcz19_2,hcz19_3,hcz19_4,hcz19_5,hcz19_6,hcz19_7,hfz19_0,hfz19_1,hfz19_2,hfz19_3,hfz19_4,hfz19_5,hfz19_6,hfz19_7⟩:=k8 BK103.out;go_wp2_with (first | ((with_reducible refine gate_callee (f:=63) rfl ?_);refine goesL_ (some 24) rfl rfl Tryz.func63 (by kernel_rfl) rfl #[.int .i64 a0_3,.int .i64 1,.int .i64 1048576] rfl aA ?_;(with_reducible refine (config_inside.calls a0_3 1 1048576 true _ A13.out).mono ?_);rintro e w' ⟨rfl,⟨nd,rfl⟩⟩;refine ⟨_,rfl,?_⟩) | (go_at_call 63;(with_reducible refine (config_inside.calls a0_4 0 1048576 false _ A15.out).mono ?_);rintro e w' ⟨rfl,⟨nd,rfl⟩⟩))
      go_meet
      case rel => exact ⟨_,(false),(by first | rfl | (simp;done) | (simp [*];done)),H',⟨by have:=HJ1.out;first | omega | exact Nat.le_refl _⟩,⟨by exact kA⟩,⟨bA⟩⟩
    ·replace c14:=Bool.eq_false_iff.mpr c14;subst c14;have H1 : (config_asked_ranges.j1 kj1 x3_1 false a0_0 a0_1 a0_2 a0_3 a0_4 a0_5 a0_6 a0_7) = some r:=by rw [if_neg (show ¬ (false = true) by decide)] at H;exact H
     clear H;have H:=H1;clear H1;have H':=Am H;clear H;obtain ⟨hcz20_0,hcz20_1,hcz20_2,hcz20_3,hcz20_4,hcz20_5,hcz20_6,hcz20_7,hfz20_0,hfz20_1,hfz20_2,hfz20_3,hfz20_4,hfz20_5,hfz20_6,hfz20_7⟩:=k8 BK103.out;go_wp2_with (first | ((with_reducible refine gate_callee (f:=63) rfl ?_);refine goesL_ (some 24) rfl rfl Tryz.func63 (by kernel_rfl) rfl #[.int .i64 a0_3,.int .i64 1,.int .i64 1048576] rfl aA ?_;(with_reducible refine (config_inside.calls a0_3 1 1048576 false _ A13.out).mono ?_);rintro e w' ⟨rfl,⟨nd,rfl⟩⟩;refine ⟨_,rfl,?_⟩))
     go_meet
     case rel => exact ⟨_,(false),(by first | rfl | (simp;done) | (simp [*];done)),H',⟨by have:=HJ1.out;first | omega | exact Nat.le_refl _⟩,⟨by exact kA⟩,⟨bA⟩⟩
   case rest =>
    clear HC12
    try clear c1
    try clear p2
    try clear c3
    try clear c5
    try clear c6
    try clear c7
    try clear c14
    try clear c16
    try clear hcz10_0
    try clear hcz10_1
    try clear hcz10_2
    try clear hcz10_3
    try clear hcz10_4
    try clear hcz10_5
    try clear hcz10_6
    try clear hcz10_7
    try clear hcz11_0
    try clear hcz11_1
    try clear hcz11_2
    try clear hcz11_3
    try clear hcz11_4
    try clear hcz11_5
    try clear hcz11_6
    try clear hcz11_7
    try clear hcz18_0
    try clear hcz18_1
    try clear hcz18_2
    try clear hcz18_3
    try clear hcz18_4
    try clear hcz18_5
    try clear hcz18_6
    try clear hcz18_7
    try clear hcz19_0
    try clear hcz19_1
    try clear hcz19_2
    try clear hcz19_3
    try clear hcz19_4
    try clear hcz19_5
    try clear hcz19_6
    try clear hcz19_7
    try clear hcz20_0
    try clear hcz20_1
    try clear hcz20_2
    try clear hcz20_3
    try clear hcz20_4
    try clear hcz20_5
    try clear hcz20_6
    try clear hcz20_7
    try clear hcz9_0
    try clear hcz9_1
    try clear hcz9_2
    try clear hcz9_3
    try clear hcz9_4
    try clear hcz9_5
    try clear hcz9_6
    try clear hcz9_7
    try clear hfz10_0
    try clear hfz10_1
    try clear hfz10_2
    try clear hfz10_3
    try clear hfz10_4
    try clear hfz10_5
    try clear hfz10_6
    try clear hfz10_7
    try clear hfz11_0
    try clear hfz11_1
    try clear hfz11_2
    try clear hfz11_3
    try clear hfz11_4
    try clear hfz11_5
    try clear hfz11_6
    try clear hfz11_7
    try clear hfz18_0
    try clear hfz18_1
    try clear hfz18_2
    try clear hfz18_3
    try clear hfz18_4
    try clear hfz18_5
    try clear hfz18_6
    try clear hfz18_7
    try clear hfz19_0
    try clear hfz19_1
    try clear hfz19_2
    try clear hfz19_3
    try clear hfz19_4
    try clear hfz19_5
    try clear hfz19_6
    try clear hfz19_7
    try clear hfz20_0
    try clear hfz20_1
    try clear hfz20_2
    try clear hfz20_3
    try clear hfz20_4
    try clear hfz20_5
    try clear hfz20_6
    try clear hfz20_7
    try clear hfz9_0
    try clear hfz9_1
    try clear hfz9_2
    try clear hfz9_3
    try clear hfz9_4
    try clear hfz9_5
    try clear hfz9_6
    try clear hfz9_7
    try clear p2
    obtain ⟨kq,x4_11,rfl,HA,HJ11,BK103,HB⟩:=hcut
    cases kq with
    | zero => exact absurd HA.out (by simp [config_asked_ranges.j1])
    | succ kj11 =>
     have H:=HA.out;clear HA;simp only [config_asked_ranges.j1] at H
     by_cases c21 : x3_1 = true
     ·subst c21;have H1 : (if x4_11 = true then ((config_inside.f a0_6 1 1048576).bind fun t110 => (if t110 = true then ((config_inside.f a0_7 1 1073741824).bind fun t111 => (if t111 = true then (some 0) else (some 110))) else (some 110))) else (some 110)) = some r:=by rw [if_pos rfl] at H;exact H
      clear H;have H:=H1;clear H1
      by_cases c22 : x4_11 = true
      ·subst c22;have H1 : ((config_inside.f a0_6 1 1048576).bind fun t110 => (if t110 = true then ((config_inside.f a0_7 1 1073741824).bind fun t111 => (if t111 = true then (some 0) else (some 110))) else (some 110))) = some r:=by rw [if_pos rfl] at H;exact H
       clear H;have H:=H1;clear H1;obtain ⟨t110,A23,H⟩:=bnd H;(try dsimp only at H)
       by_cases c24 : t110 = true
       ·subst c24;have H1 : ((config_inside.f a0_7 1 1073741824).bind fun t111 => (if t111 = true then (some 0) else (some 110))) = some r:=by rw [if_pos rfl] at H;exact H
        clear H;have H:=H1;clear H1;obtain ⟨t111,A25,H⟩:=bnd H;(try dsimp only at H)
        by_cases c26 : t111 = true
        ·subst c26;have H1 : (some 0) = some r:=by rw [if_pos rfl] at H;exact H
         clear H;have H:=H1;clear H1;obtain rfl:=oI H;obtain ⟨hcz27_0,hcz27_1,hcz27_2,hcz27_3,hcz27_4,hcz27_5,hcz27_6,hcz27_7,hfz27_0,hfz27_1,hfz27_2,hfz27_3,hfz27_4,hfz27_5,hfz27_6,hfz27_7⟩:=k8 BK103.out;go_wp2_with (first | (go_at_call 63;(with_reducible refine (config_inside.calls a0_6 1 1048576 true _ A23.out).mono ?_);rintro e w' ⟨rfl,⟨nd,rfl⟩⟩) | (go_at_call 63;(with_reducible refine (config_inside.calls a0_7 1 1073741824 true _ A25.out).mono ?_);rintro e w' ⟨rfl,⟨nd,rfl⟩⟩))
         go_ret;exact eA
        ·replace c26:=Bool.eq_false_iff.mpr c26;subst c26;have H1 : (some 110) = some r:=by rw [if_neg (show ¬ (false = true) by decide)] at H;exact H
         clear H;have H:=H1;clear H1;obtain rfl:=oI H;obtain ⟨hcz28_0,hcz28_1,hcz28_2,hcz28_3,hcz28_4,hcz28_5,hcz28_6,hcz28_7,hfz28_0,hfz28_1,hfz28_2,hfz28_3,hfz28_4,hfz28_5,hfz28_6,hfz28_7⟩:=k8 BK103.out;go_wp2_with (first | (go_at_call 63;(with_reducible refine (config_inside.calls a0_6 1 1048576 true _ A23.out).mono ?_);rintro e w' ⟨rfl,⟨nd,rfl⟩⟩) | (go_at_call 63;(with_reducible refine (config_inside.calls a0_7 1 1073741824 false _ A25.out).mono ?_);rintro e w' ⟨rfl,⟨nd,rfl⟩⟩))
         go_ret;exact eA
       ·replace c24:=Bool.eq_false_iff.mpr c24;subst c24;have H1 : (some 110) = some r:=by rw [if_neg (show ¬ (false = true) by decide)] at H;exact H
        clear H;have H:=H1;clear H1;obtain rfl:=oI H;obtain ⟨hcz29_0,hcz29_1,hcz29_2,hcz29_3,hcz29_4,hcz29_5,hcz29_6,hcz29_7,hfz29_0,hfz29_1,hfz29_2,hfz29_3,hfz29_4,hfz29_5,hfz29_6,hfz29_7⟩:=k8 BK103.out;go_wp2_with (first | (go_at_call 63;(with_reducible refine (config_inside.calls a0_6 1 1048576 false _ A23.out).mono ?_);rintro e w' ⟨rfl,⟨nd,rfl⟩⟩))
        go_ret;exact eA
      ·replace c22:=Bool.eq_false_iff.mpr c22;subst c22;have H1 : (some 110) = some r:=by rw [if_neg (show ¬ (false = true) by decide)] at H;exact H
       clear H;have H:=H1;clear H1;obtain rfl:=oI H;go_wp2;go_ret;exact eA
     ·replace c21:=Bool.eq_false_iff.mpr c21;subst c21;have H1 : (some 110) = some r:=by rw [if_neg (show ¬ (false = true) by decide)] at H;exact H
      clear H;have H:=H1;clear H1;obtain rfl:=oI H;go_wp2;go_ret;exact eA

def config_asked_area.f (a0_0 : Int) (a0_1 : Int) (a0_2 : Int) (a0_3 : Int) (a0_4 : Int) (a0_5 : Int) (a0_6 : Int) (a0_7 : Int) : Option (Int):=some (wrap64 (a0_0 * a0_6))
theorem config_asked_area.calls (a0_0 : Int) (a0_1 : Int) (a0_2 : Int) (a0_3 : Int) (a0_4 : Int) (a0_5 : Int) (a0_6 : Int) (a0_7 : Int) (r : Int) (w : World) (h : config_asked_area.f a0_0 a0_1 a0_2 a0_3 a0_4 a0_5 a0_6 a0_7 = some r) :
  Calls Tryz.prog 88 #[.agg #[.int .i64 a0_0,.int .i64 a0_1,.int .i64 a0_2,.int .i64 a0_3,.int .i64 a0_4,.int .i64 a0_5,.int .i64 a0_6,.int .i64 a0_7]] w fun e w' => e = .returned (.int .i64 r) ∧ Below w.heap.size w w':=by
 have hu73:=Tryz.underlying73;have HB:=Am (Below.refl w.heap.size w);have H : (some (wrap64 (a0_0 * a0_6))) = some r:=h;clear h;obtain rfl:=oI H;go_enter Tryz.func88,Tryz.ntmps88;go_wp2_with (first | ((with_reducible refine gate_dst (N:=1) rfl ?_);refine bxA 1 #[.int .i64 a0_0,.int .i64 a0_1,.int .i64 a0_2,.int .i64 a0_3,.int .i64 a0_4,.int .i64 a0_5,.int .i64 a0_6,.int .i64 a0_7] 73 ?_;intro gb112 hg w2 hbox hb;have BK112:=Am (hbox);have GW112:=gW_ hg;have GE112:=gW_ hg;replace HB:=hb_ hb;clear hb hbox hg;obtain ⟨hcz3_0,hcz3_1,hcz3_2,hcz3_3,hcz3_4,hcz3_5,hcz3_6,hcz3_7,hfz3_0,hfz3_1,hfz3_2,hfz3_3,hfz3_4,hfz3_5,hfz3_6,hfz3_7⟩:=k8 BK112.out))
 go_ret;exact eA

def config_up.f (a0 : Int) (a1 : Int) : Option (Int):=if a1 = 0 then (none) else (some (wrap64 (Int.tdiv (wrap64 ((wrap64 (a0 + a1)) - 1)) a1)))
theorem config_up.calls (a0 : Int) (a1 : Int) (r : Int) (w : World) (h : config_up.f a0 a1 = some r) :
  Calls Tryz.prog 90 #[.int .i64 a0,.int .i64 a1] w fun e w' => e = .returned (.int .i64 r) ∧ Drawn0 w w':=by
 have H : (if a1 = 0 then (none) else (some (wrap64 (Int.tdiv (wrap64 ((wrap64 (a0 + a1)) - 1)) a1)))) = some r:=h;clear h
 by_cases c3 : a1 = 0
 ·rw [if_pos c3] at H;exact absurd H (by simp)
 ·rw [if_neg c3] at H;have c3b0 : (a1 == 0) = false:=beq_eq_false_iff_ne.mpr c3;have c3b1 : (a1 != 0) = true:=bne_iff_ne.mpr c3;obtain rfl:=oI H;go_enter Tryz.func90,Tryz.ntmps90;go_wp2;go_ret;exact ⟨by first | rfl | (simp;done) | (simp [*];done),by repeat (first | exact Drawn0.refl _ | apply Drawn0.step)⟩

def config_asked_keeps.f (a0_0 : Int) (a0_1 : Int) (a0_2 : Int) (a0_3 : Int) (a0_4 : Int) (a0_5 : Int) (a0_6 : Int) (a0_7 : Int) : Option (Int):=if a0_7 = 0 then (none) else ((config_up.f 8589934592 (wrap64 (Int.tdiv (wrap64 (a0_6 * 4294967296)) a0_7))).bind fun t114 => (some (mx 2 t114)))
theorem config_asked_keeps.calls (a0_0 : Int) (a0_1 : Int) (a0_2 : Int) (a0_3 : Int) (a0_4 : Int) (a0_5 : Int) (a0_6 : Int) (a0_7 : Int) (r : Int) (w : World) (h : config_asked_keeps.f a0_0 a0_1 a0_2 a0_3 a0_4 a0_5 a0_6 a0_7 = some r) :
  Calls Tryz.prog 89 #[.agg #[.int .i64 a0_0,.int .i64 a0_1,.int .i64 a0_2,.int .i64 a0_3,.int .i64 a0_4,.int .i64 a0_5,.int .i64 a0_6,.int .i64 a0_7]] w fun e w' => e = .returned (.int .i64 r) ∧ Below w.heap.size w w':=by
 have hu73:=Tryz.underlying73;have HB:=Am (Below.refl w.heap.size w);have H : (if a0_7 = 0 then (none) else ((config_up.f 8589934592 (wrap64 (Int.tdiv (wrap64 (a0_6 * 4294967296)) a0_7))).bind fun t114 => (some (mx 2 t114)))) = some r:=h;clear h
 by_cases c2 : a0_7 = 0
 ·rw [if_pos c2] at H;exact absurd H (by simp)
 ·rw [if_neg c2] at H;have c2b0 : (a0_7 == 0) = false:=beq_eq_false_iff_ne.mpr c2;have c2b1 : (a0_7 != 0) = true:=bne_iff_ne.mpr c2;obtain ⟨t114,A3,H⟩:=bnd H;(try dsimp only at H);obtain ⟨ji4,hji4⟩ : ∃ j_ : Int,(mx 2 t114) = j_:=⟨_,rfl⟩;replace H : (some ji4) = some r:=by first | (rw [hji4] at H;exact H) | (simp only [hji4] at H ⊢;exact H)
  (try rw [hji4] at A3)
  (try (have hji4l : 2 ≤ ji4:=by (rw [← hji4];unfold mx;(repeat' split) <;> omega)))
  (try (have hji4m : 0 ≤ ji4:=by omega))
  have hji4_ : (if 2 < t114 then t114 else 2) = ji4:=hji4;obtain rfl:=oI H;go_enter Tryz.func89,Tryz.ntmps89;go_wp2_with (first | ((with_reducible refine gate_dst (N:=1) rfl ?_);refine bxA 1 #[.int .i64 a0_0,.int .i64 a0_1,.int .i64 a0_2,.int .i64 a0_3,.int .i64 a0_4,.int .i64 a0_5,.int .i64 a0_6,.int .i64 a0_7] 73 ?_;intro gb113 hg w5 hbox hb;have BK113:=Am (hbox);have GW113:=gW_ hg;have GE113:=gW_ hg;replace HB:=hb_ hb;clear hb hbox hg;obtain ⟨hcz6_0,hcz6_1,hcz6_2,hcz6_3,hcz6_4,hcz6_5,hcz6_6,hcz6_7,hfz6_0,hfz6_1,hfz6_2,hfz6_3,hfz6_4,hfz6_5,hfz6_6,hfz6_7⟩:=k8 BK113.out) | ((with_reducible refine gate_callee (f:=90) rfl ?_);refine goesL_ (some 13) rfl rfl Tryz.func90 (by kernel_rfl) rfl #[.int .i64 8589934592,.int .i64 (wrap64 (Int.tdiv (wrap64 (a0_6 * 4294967296)) a0_7))] rfl aA ?_;(with_reducible refine (config_up.calls 8589934592 (wrap64 (Int.tdiv (wrap64 (a0_6 * 4294967296)) a0_7)) t114 _ A3.out).mono ?_);rintro e w' ⟨rfl,⟨nd,rfl⟩⟩;refine ⟨_,rfl,?_⟩))
  go_ret;exact ⟨by first | rfl | (simp [errW_none,errW_some] <;> rfl) | (simp only [← hji4];first | rfl | (simp [errW_none,errW_some] <;> rfl)) | (simp [*,errW_none,errW_some] <;> rfl),bA⟩

def config_asked_most.f (a0_0 : Int) (a0_1 : Int) (a0_2 : Int) (a0_3 : Int) (a0_4 : Int) (a0_5 : Int) (a0_6 : Int) (a0_7 : Int) : Option (Int):=(config_asked_area.f a0_0 a0_1 a0_2 a0_3 a0_4 a0_5 a0_6 a0_7).bind fun t116 => ((config_asked_keeps.f a0_0 a0_1 a0_2 a0_3 a0_4 a0_5 a0_6 a0_7).bind fun t117 => (some (wrap64 (t116 * t117))))
theorem config_asked_most.calls (a0_0 : Int) (a0_1 : Int) (a0_2 : Int) (a0_3 : Int) (a0_4 : Int) (a0_5 : Int) (a0_6 : Int) (a0_7 : Int) (r : Int) (w : World) (h : config_asked_most.f a0_0 a0_1 a0_2 a0_3 a0_4 a0_5 a0_6 a0_7 = some r) :
  Calls Tryz.prog 64 #[.agg #[.int .i64 a0_0,.int .i64 a0_1,.int .i64 a0_2,.int .i64 a0_3,.int .i64 a0_4,.int .i64 a0_5,.int .i64 a0_6,.int .i64 a0_7]] w fun e w' => e = .returned (.int .i64 r) ∧ Below w.heap.size w w':=by
 have hu73:=Tryz.underlying73;have HB:=Am (Below.refl w.heap.size w);have H : ((config_asked_area.f a0_0 a0_1 a0_2 a0_3 a0_4 a0_5 a0_6 a0_7).bind fun t116 => ((config_asked_keeps.f a0_0 a0_1 a0_2 a0_3 a0_4 a0_5 a0_6 a0_7).bind fun t117 => (some (wrap64 (t116 * t117))))) = some r:=h;clear h;obtain ⟨t116,A2,H⟩:=bnd H;(try dsimp only at H);obtain ⟨t117,A3,H⟩:=bnd H;(try dsimp only at H);obtain rfl:=oI H;go_enter Tryz.func64,Tryz.ntmps64
 try go_wp2_with (first | ((with_reducible refine gate_dst (N:=1) rfl ?_);refine bxA 1 #[.int .i64 a0_0,.int .i64 a0_1,.int .i64 a0_2,.int .i64 a0_3,.int .i64 a0_4,.int .i64 a0_5,.int .i64 a0_6,.int .i64 a0_7] 73 ?_;intro gb115 hg w4 hbox hb;have BK115:=Am (hbox);have GW115:=gW_ hg;have GE115:=gW_ hg;replace HB:=hb_ hb;clear hb hbox hg))
 replace BK115:=Am (blk_drew BK115.out);replace HB:=Am (below_drew1 HB.out);refine start_ (n:=6) (S:=fun w' => w'.cell? ⟨gb115,0,none⟩ = some (.int .i64 a0_0) ∧ w'.cell? ⟨gb115,1,none⟩ = some (.int .i64 a0_1) ∧ w'.cell? ⟨gb115,2,none⟩ = some (.int .i64 a0_2) ∧ w'.cell? ⟨gb115,3,none⟩ = some (.int .i64 a0_3) ∧ w'.cell? ⟨gb115,4,none⟩ = some (.int .i64 a0_4) ∧ w'.cell? ⟨gb115,5,none⟩ = some (.int .i64 a0_5) ∧ w'.cell? ⟨gb115,6,none⟩ = some (.int .i64 a0_6) ∧ w'.cell? ⟨gb115,7,none⟩ = some (.int .i64 a0_7)) (ds:=[]) #[nn,nn,nn,nn,nn,nn] (by kernel_rfl) rfl rfl (q8 BK115.out) (fun hHeld => ?_);generalize w4.drew = w5 at BK115 HB hHeld ⊢;refine tk_ 0 (some 3) (bm 6 1) (by kernel_rfl) hHeld ?_;refine tk_ 2 (some 5) (bm 6 5) (by kernel_rfl) hHeld ?_;refine one_ (i:=1) (N:=some 4) (bm 6 7) rfl rfl (by kernel_rfl) (by decide) (fun K hK => ?_);refine goes_ Tryz.func88 (by kernel_rfl) rfl #[.agg #[.int .i64 a0_0,.int .i64 a0_1,.int .i64 a0_2,.int .i64 a0_3,.int .i64 a0_4,.int .i64 a0_5,.int .i64 a0_6,.int .i64 a0_7]] (by rfl) rfl rfl aA ?_;with_reducible refine (config_asked_area.calls a0_0 a0_1 a0_2 a0_3 a0_4 a0_5 a0_6 a0_7 t116 _ A2.out).mono ?_
 rintro e w6 ⟨rfl,hb⟩;refine ⟨_,rfl,?_⟩;replace BK115:=kb_ (g:=gb115) hb;replace HB:=hb_ hb;(try clear hb);refine hK.out _ _ (q8 BK115.out) (fun hHeld => ?_);clear hK K;refine nm_ ?_;refine one_ (i:=3) (N:=some 6) (bm 6 15) rfl rfl (by kernel_rfl) (by decide) (fun K hK => ?_);refine goes_ Tryz.func89 (by kernel_rfl) rfl #[.agg #[.int .i64 a0_0,.int .i64 a0_1,.int .i64 a0_2,.int .i64 a0_3,.int .i64 a0_4,.int .i64 a0_5,.int .i64 a0_6,.int .i64 a0_7]] (by rfl) rfl rfl aA ?_;with_reducible refine (config_asked_keeps.calls a0_0 a0_1 a0_2 a0_3 a0_4 a0_5 a0_6 a0_7 t117 _ A3.out).mono ?_
 rintro e w7 ⟨rfl,hb⟩;refine ⟨_,rfl,?_⟩;replace BK115:=kb_ (g:=gb115) hb;replace HB:=hb_ hb;(try clear hb);refine hK.out _ _ (q8 BK115.out) (fun hHeld => ?_);clear hK K;refine nm_ ?_;refine pu_ 4 (some 7) (bm 6 31) (by kernel_rfl) ?_;refine pu_ 5 (some 2) (bm 6 63) (by kernel_rfl) ?_;refine done_ (by kernel_rfl) ?_
 try go_wp2
 go_ret;exact eA

def config_asked_usage.f (a0_0 : Int) (a0_1 : Int) (a0_2 : Int) (a0_3 : Int) (a0_4 : Int) (a0_5 : Int) (a0_6 : Int) (a0_7 : Int) : Option (Int):=(config_asked_most.f a0_0 a0_1 a0_2 a0_3 a0_4 a0_5 a0_6 a0_7).bind fun t119 => (if t119 > 2147483648 then (some 111) else (some 0))
theorem config_asked_usage.calls (a0_0 : Int) (a0_1 : Int) (a0_2 : Int) (a0_3 : Int) (a0_4 : Int) (a0_5 : Int) (a0_6 : Int) (a0_7 : Int) (r : Int) (w : World) (h : config_asked_usage.f a0_0 a0_1 a0_2 a0_3 a0_4 a0_5 a0_6 a0_7 = some r) :
  Calls Tryz.prog 35 #[.agg #[.int .i64 a0_0,.int .i64 a0_1,.int .i64 a0_2,.int .i64 a0_3,.int .i64 a0_4,.int .i64 a0_5,.int .i64 a0_6,.int .i64 a0_7]] w fun e w' => e = .returned (.int .i64 r) ∧ Below w.heap.size w w':=by
 have hu73:=Tryz.underlying73;have HB:=Am (Below.refl w.heap.size w);have H : ((config_asked_most.f a0_0 a0_1 a0_2 a0_3 a0_4 a0_5 a0_6 a0_7).bind fun t119 => (if t119 > 2147483648 then (some 111) else (some 0))) = some r:=h;clear h;obtain ⟨t119,A2,H⟩:=bnd H;(try dsimp only at H)
 by_cases c3 : t119 > 2147483648
 ·rw [if_pos c3] at H;have c3b0 : decide (2147483648 < t119) = true:=dT c3;clear c3;obtain rfl:=oI H;go_enter Tryz.func35,Tryz.ntmps35;go_wp2_with (first | ((with_reducible refine gate_dst (N:=1) rfl ?_);refine bxA 1 #[.int .i64 a0_0,.int .i64 a0_1,.int .i64 a0_2,.int .i64 a0_3,.int .i64 a0_4,.int .i64 a0_5,.int .i64 a0_6,.int .i64 a0_7] 73 ?_;intro gb118 hg w4 hbox hb;have BK118:=Am (hbox);have GW118:=gW_ hg;have GE118:=gW_ hg;replace HB:=hb_ hb;clear hb hbox hg;obtain ⟨hcz5_0,hcz5_1,hcz5_2,hcz5_3,hcz5_4,hcz5_5,hcz5_6,hcz5_7,hfz5_0,hfz5_1,hfz5_2,hfz5_3,hfz5_4,hfz5_5,hfz5_6,hfz5_7⟩:=k8 BK118.out) | ((with_reducible refine gate_callee (f:=64) rfl ?_);refine goesL_ (some 4) rfl rfl Tryz.func64 (by kernel_rfl) rfl #[.agg #[.int .i64 a0_0,.int .i64 a0_1,.int .i64 a0_2,.int .i64 a0_3,.int .i64 a0_4,.int .i64 a0_5,.int .i64 a0_6,.int .i64 a0_7]] rfl aA ?_;(with_reducible refine (config_asked_most.calls a0_0 a0_1 a0_2 a0_3 a0_4 a0_5 a0_6 a0_7 t119 _ A2.out).mono ?_);rintro e w6 ⟨rfl,hb⟩;refine ⟨_,rfl,?_⟩;replace BK118:=kb_ (g:=gb118) hb;replace HB:=hb_ hb;(try clear hb)))
  go_ret;exact eA
 ·rw [if_neg c3] at H;have c3b0 : decide (2147483648 < t119) = false:=dF c3;clear c3;obtain rfl:=oI H;go_enter Tryz.func35,Tryz.ntmps35;go_wp2_with (first | ((with_reducible refine gate_dst (N:=1) rfl ?_);refine bxA 1 #[.int .i64 a0_0,.int .i64 a0_1,.int .i64 a0_2,.int .i64 a0_3,.int .i64 a0_4,.int .i64 a0_5,.int .i64 a0_6,.int .i64 a0_7] 73 ?_;intro gb118 hg w7 hbox hb;have BK118:=Am (hbox);have GW118:=gW_ hg;have GE118:=gW_ hg;replace HB:=hb_ hb;clear hb hbox hg;obtain ⟨hcz8_0,hcz8_1,hcz8_2,hcz8_3,hcz8_4,hcz8_5,hcz8_6,hcz8_7,hfz8_0,hfz8_1,hfz8_2,hfz8_3,hfz8_4,hfz8_5,hfz8_6,hfz8_7⟩:=k8 BK118.out) | ((with_reducible refine gate_callee (f:=64) rfl ?_);refine goesL_ (some 4) rfl rfl Tryz.func64 (by kernel_rfl) rfl #[.agg #[.int .i64 a0_0,.int .i64 a0_1,.int .i64 a0_2,.int .i64 a0_3,.int .i64 a0_4,.int .i64 a0_5,.int .i64 a0_6,.int .i64 a0_7]] rfl aA ?_;(with_reducible refine (config_asked_most.calls a0_0 a0_1 a0_2 a0_3 a0_4 a0_5 a0_6 a0_7 t119 _ A2.out).mono ?_);rintro e w9 ⟨rfl,hb⟩;refine ⟨_,rfl,?_⟩;replace BK118:=kb_ (g:=gb118) hb;replace HB:=hb_ hb;(try clear hb)))
  go_ret;exact eA

def config_asked_fairSize.f (a0_0 : Int) (a0_1 : Int) (a0_2 : Int) (a0_3 : Int) (a0_4 : Int) (a0_5 : Int) (a0_6 : Int) (a0_7 : Int) : Option (Int):=some (wrap64 (a0_4 + (wrap64 (a0_5 * a0_0))))
theorem config_asked_fairSize.calls (a0_0 : Int) (a0_1 : Int) (a0_2 : Int) (a0_3 : Int) (a0_4 : Int) (a0_5 : Int) (a0_6 : Int) (a0_7 : Int) (r : Int) (w : World) (h : config_asked_fairSize.f a0_0 a0_1 a0_2 a0_3 a0_4 a0_5 a0_6 a0_7 = some r) :
  Calls Tryz.prog 65 #[.agg #[.int .i64 a0_0,.int .i64 a0_1,.int .i64 a0_2,.int .i64 a0_3,.int .i64 a0_4,.int .i64 a0_5,.int .i64 a0_6,.int .i64 a0_7]] w fun e w' => e = .returned (.int .i64 r) ∧ Below w.heap.size w w':=by
 have hu73:=Tryz.underlying73;have HB:=Am (Below.refl w.heap.size w);have H : (some (wrap64 (a0_4 + (wrap64 (a0_5 * a0_0))))) = some r:=h;clear h;obtain rfl:=oI H;go_enter Tryz.func65,Tryz.ntmps65;go_wp2_with (first | ((with_reducible refine gate_dst (N:=1) rfl ?_);refine bxA 1 #[.int .i64 a0_0,.int .i64 a0_1,.int .i64 a0_2,.int .i64 a0_3,.int .i64 a0_4,.int .i64 a0_5,.int .i64 a0_6,.int .i64 a0_7] 73 ?_;intro gb120 hg w2 hbox hb;have BK120:=Am (hbox);have GW120:=gW_ hg;have GE120:=gW_ hg;replace HB:=hb_ hb;clear hb hbox hg;obtain ⟨hcz3_0,hcz3_1,hcz3_2,hcz3_3,hcz3_4,hcz3_5,hcz3_6,hcz3_7,hfz3_0,hfz3_1,hfz3_2,hfz3_3,hfz3_4,hfz3_5,hfz3_6,hfz3_7⟩:=k8 BK120.out))
 go_ret;exact eA

def config_asked_scale.f (a0_0 : Int) (a0_1 : Int) (a0_2 : Int) (a0_3 : Int) (a0_4 : Int) (a0_5 : Int) (a0_6 : Int) (a0_7 : Int) : Option (Int):=(config_asked_fairSize.f a0_0 a0_1 a0_2 a0_3 a0_4 a0_5 a0_6 a0_7).bind fun t122 => (if (wrap64 ((wrap64 (a0_3 * 1099511627776)) + t122)) ≥ 4611686018427387904 then (some 112) else (some 0))
def config_asked_scale.T1 : Bool × List (List Nat × List Nat):=(true,[([],[]),([0],[0]),([1],[1]),([2],[2]),([],[]),([4],[4]),([3,5],[3,5]),([6],[6])])
def config_asked_scale.B1 : List Nat:=[0,1,3,7,0,16,63,127]
theorem config_asked_scale.tab1 : rtab .any (opsOf Tryz.f36 1) = config_asked_scale.T1:=by kernel_rfl
theorem config_asked_scale.bits1 : waitsOk config_asked_scale.T1.2 config_asked_scale.B1 = true:=by kernel_rfl
theorem config_asked_scale.calls (a0_0 : Int) (a0_1 : Int) (a0_2 : Int) (a0_3 : Int) (a0_4 : Int) (a0_5 : Int) (a0_6 : Int) (a0_7 : Int) (r : Int) (w : World) (h : config_asked_scale.f a0_0 a0_1 a0_2 a0_3 a0_4 a0_5 a0_6 a0_7 = some r) :
  Calls Tryz.prog 36 #[.agg #[.int .i64 a0_0,.int .i64 a0_1,.int .i64 a0_2,.int .i64 a0_3,.int .i64 a0_4,.int .i64 a0_5,.int .i64 a0_6,.int .i64 a0_7]] w fun e w' => e = .returned (.int .i64 r) ∧ Below w.heap.size w w':=by
 have hu73:=Tryz.underlying73;have HB:=Am (Below.refl w.heap.size w);have H : ((config_asked_fairSize.f a0_0 a0_1 a0_2 a0_3 a0_4 a0_5 a0_6 a0_7).bind fun t122 => (if (wrap64 ((wrap64 (a0_3 * 1099511627776)) + t122)) ≥ 4611686018427387904 then (some 112) else (some 0))) = some r:=h;clear h;obtain ⟨t122,A2,H⟩:=bnd H;(try dsimp only at H)
 by_cases c3 : (wrap64 ((wrap64 (a0_3 * 1099511627776)) + t122)) ≥ 4611686018427387904
 ·rw [if_pos c3] at H;have c3b0 : decide (4611686018427387904 ≤ (wrap64 ((wrap64 (a0_3 * 1099511627776)) + t122))) = true:=dT c3;clear c3;obtain rfl:=oI H;go_enter Tryz.func36,Tryz.ntmps36
  try go_wp2_with (first | ((with_reducible refine gate_dst (N:=1) rfl ?_);refine bxA 1 #[.int .i64 a0_0,.int .i64 a0_1,.int .i64 a0_2,.int .i64 a0_3,.int .i64 a0_4,.int .i64 a0_5,.int .i64 a0_6,.int .i64 a0_7] 73 ?_;intro gb121 hg w4 hbox hb;have BK121:=Am (hbox);have GW121:=gW_ hg;have GE121:=gW_ hg;replace HB:=hb_ hb;clear hb hbox hg))
  replace BK121:=Am (blk_drew BK121.out);replace HB:=Am (below_drew1 HB.out);refine start_ (n:=8) (S:=fun w' => w'.cell? ⟨gb121,0,none⟩ = some (.int .i64 a0_0) ∧ w'.cell? ⟨gb121,1,none⟩ = some (.int .i64 a0_1) ∧ w'.cell? ⟨gb121,2,none⟩ = some (.int .i64 a0_2) ∧ w'.cell? ⟨gb121,3,none⟩ = some (.int .i64 a0_3) ∧ w'.cell? ⟨gb121,4,none⟩ = some (.int .i64 a0_4) ∧ w'.cell? ⟨gb121,5,none⟩ = some (.int .i64 a0_5) ∧ w'.cell? ⟨gb121,6,none⟩ = some (.int .i64 a0_6) ∧ w'.cell? ⟨gb121,7,none⟩ = some (.int .i64 a0_7)) (ds:=[]) #[nn,nn,nn,nn,nn,nn,nn,nn] (by kernel_rfl) rfl rfl (q8 BK121.out) (fun hHeld => ?_);refine with_tabW config_asked_scale.tab1 config_asked_scale.bits1 (fun HT_ HW_ => ?_);generalize w4.drew = w5 at BK121 HB hHeld ⊢;refine pu_ 0 (some 3) (bm 8 1) (any_of HT_.out (by kernel_rfl)) ?_;refine pu_ 1 (some 4) (bm 8 3) (any_of HT_.out (by kernel_rfl)) ?_;refine tk_ 2 (some 5) (bm 8 7) (take_ofW HT_.out HW_.out (by kernel_rfl)) hHeld ?_;refine pu_ 3 (some 6) (bm 8 15) (any_of HT_.out (by kernel_rfl)) ?_;refine tk_ 4 (some 7) (bm 8 31) (take_ofW HT_.out HW_.out (by kernel_rfl)) hHeld ?_;refine one_ (i:=5) (N:=some 8) (bm 8 63) rfl rfl (one_of HT_.out (by kernel_rfl)) (by decide) (fun K hK => ?_);refine goes_ Tryz.func65 (by kernel_rfl) rfl #[.agg #[.int .i64 a0_0,.int .i64 a0_1,.int .i64 a0_2,.int .i64 a0_3,.int .i64 a0_4,.int .i64 a0_5,.int .i64 a0_6,.int .i64 a0_7]] (by rfl) rfl rfl aA ?_;with_reducible refine (config_asked_fairSize.calls a0_0 a0_1 a0_2 a0_3 a0_4 a0_5 a0_6 a0_7 t122 _ A2.out).mono ?_
  rintro e w6 ⟨rfl,hb⟩;refine ⟨_,rfl,?_⟩;replace BK121:=kb_ (g:=gb121) hb;replace HB:=hb_ hb;(try clear hb);refine hK.out _ _ (q8 BK121.out) (fun hHeld => ?_);clear hK K;refine nm_ ?_;refine pu_ 6 (some 9) (bm 8 127) (any_of HT_.out (by kernel_rfl)) ?_;refine pu_ 7 (some 10) (bm 8 255) (any_of HT_.out (by kernel_rfl)) ?_;refine done_ (done_of HT_.out (by kernel_rfl)) ?_
  try go_wp2
  go_ret;exact eA
 ·rw [if_neg c3] at H;have c3b0 : decide (4611686018427387904 ≤ (wrap64 ((wrap64 (a0_3 * 1099511627776)) + t122))) = false:=dF c3;clear c3;obtain rfl:=oI H;go_enter Tryz.func36,Tryz.ntmps36
  try go_wp2_with (first | ((with_reducible refine gate_dst (N:=1) rfl ?_);refine bxA 1 #[.int .i64 a0_0,.int .i64 a0_1,.int .i64 a0_2,.int .i64 a0_3,.int .i64 a0_4,.int .i64 a0_5,.int .i64 a0_6,.int .i64 a0_7] 73 ?_;intro gb121 hg w7 hbox hb;have BK121:=Am (hbox);have GW121:=gW_ hg;have GE121:=gW_ hg;replace HB:=hb_ hb;clear hb hbox hg))
  replace BK121:=Am (blk_drew BK121.out);replace HB:=Am (below_drew1 HB.out);refine start_ (n:=8) (S:=fun w' => w'.cell? ⟨gb121,0,none⟩ = some (.int .i64 a0_0) ∧ w'.cell? ⟨gb121,1,none⟩ = some (.int .i64 a0_1) ∧ w'.cell? ⟨gb121,2,none⟩ = some (.int .i64 a0_2) ∧ w'.cell? ⟨gb121,3,none⟩ = some (.int .i64 a0_3) ∧ w'.cell? ⟨gb121,4,none⟩ = some (.int .i64 a0_4) ∧ w'.cell? ⟨gb121,5,none⟩ = some (.int .i64 a0_5) ∧ w'.cell? ⟨gb121,6,none⟩ = some (.int .i64 a0_6) ∧ w'.cell? ⟨gb121,7,none⟩ = some (.int .i64 a0_7)) (ds:=[]) #[nn,nn,nn,nn,nn,nn,nn,nn] (by kernel_rfl) rfl rfl (q8 BK121.out) (fun hHeld => ?_);refine with_tabW config_asked_scale.tab1 config_asked_scale.bits1 (fun HT_ HW_ => ?_);generalize w7.drew = w8 at BK121 HB hHeld ⊢;refine pu_ 0 (some 3) (bm 8 1) (any_of HT_.out (by kernel_rfl)) ?_;refine pu_ 1 (some 4) (bm 8 3) (any_of HT_.out (by kernel_rfl)) ?_;refine tk_ 2 (some 5) (bm 8 7) (take_ofW HT_.out HW_.out (by kernel_rfl)) hHeld ?_;refine pu_ 3 (some 6) (bm 8 15) (any_of HT_.out (by kernel_rfl)) ?_;refine tk_ 4 (some 7) (bm 8 31) (take_ofW HT_.out HW_.out (by kernel_rfl)) hHeld ?_;refine one_ (i:=5) (N:=some 8) (bm 8 63) rfl rfl (one_of HT_.out (by kernel_rfl)) (by decide) (fun K hK => ?_);refine goes_ Tryz.func65 (by kernel_rfl) rfl #[.agg #[.int .i64 a0_0,.int .i64 a0_1,.int .i64 a0_2,.int .i64 a0_3,.int .i64 a0_4,.int .i64 a0_5,.int .i64 a0_6,.int .i64 a0_7]] (by rfl) rfl rfl aA ?_;with_reducible refine (config_asked_fairSize.calls a0_0 a0_1 a0_2 a0_3 a0_4 a0_5 a0_6 a0_7 t122 _ A2.out).mono ?_
  rintro e w9 ⟨rfl,hb⟩;refine ⟨_,rfl,?_⟩;replace BK121:=kb_ (g:=gb121) hb;replace HB:=hb_ hb;(try clear hb);refine hK.out _ _ (q8 BK121.out) (fun hHeld => ?_);clear hK K;refine nm_ ?_;refine pu_ 6 (some 9) (bm 8 127) (any_of HT_.out (by kernel_rfl)) ?_;refine pu_ 7 (some 10) (bm 8 255) (any_of HT_.out (by kernel_rfl)) ?_;refine done_ (done_of HT_.out (by kernel_rfl)) ?_
  try go_wp2
  go_ret;exact eA

def bits_Mul64.f (a0 : Int) (a1 : Int) : Option (Int × Int):=some (IntKind.u64.wrap ((IntKind.u64.wrap ((IntKind.u64.wrap ((a0 / 4294967296) * (a1 / 4294967296))) + ((IntKind.u64.wrap ((IntKind.u64.wrap ((a0 / 4294967296) * (Go.bits .and .u64 a1 4294967295))) + ((IntKind.u64.wrap ((Go.bits .and .u64 a0 4294967295) * (Go.bits .and .u64 a1 4294967295))) / 4294967296))) / 4294967296))) + ((IntKind.u64.wrap ((Go.bits .and .u64 (IntKind.u64.wrap ((IntKind.u64.wrap ((a0 / 4294967296) * (Go.bits .and .u64 a1 4294967295))) + ((IntKind.u64.wrap ((Go.bits .and .u64 a0 4294967295) * (Go.bits .and .u64 a1 4294967295))) / 4294967296))) 4294967295) + (IntKind.u64.wrap ((Go.bits .and .u64 a0 4294967295) * (a1 / 4294967296))))) / 4294967296)),IntKind.u64.wrap (a0 * a1))
theorem bits_Mul64.calls (a0 : Int) (a1 : Int) (r1 : Int) (r2 : Int) (w : World) (h : bits_Mul64.f a0 a1 = some (r1,r2)) :
  Calls Tryz.prog 61 #[.int .u64 a0,.int .u64 a1] w fun e w' => e = .returned (.tuple #[.int .u64 r1,.int .u64 r2]) ∧ Drawn0 w w':=by
 have H : (some (IntKind.u64.wrap ((IntKind.u64.wrap ((IntKind.u64.wrap ((a0 / 4294967296) * (a1 / 4294967296))) + ((IntKind.u64.wrap ((IntKind.u64.wrap ((a0 / 4294967296) * (Go.bits .and .u64 a1 4294967295))) + ((IntKind.u64.wrap ((Go.bits .and .u64 a0 4294967295) * (Go.bits .and .u64 a1 4294967295))) / 4294967296))) / 4294967296))) + ((IntKind.u64.wrap ((Go.bits .and .u64 (IntKind.u64.wrap ((IntKind.u64.wrap ((a0 / 4294967296) * (Go.bits .and .u64 a1 4294967295))) + ((IntKind.u64.wrap ((Go.bits .and .u64 a0 4294967295) * (Go.bits .and .u64 a1 4294967295))) / 4294967296))) 4294967295) + (IntKind.u64.wrap ((Go.bits .and .u64 a0 4294967295) * (a1 / 4294967296))))) / 4294967296)),IntKind.u64.wrap (a0 * a1))) = some (r1,r2):=h;clear h;simp only [Option.some.injEq,Prod.mk.injEq] at H;obtain ⟨rfl,rfl⟩:=H;go_enter Tryz.func61,Tryz.ntmps61;go_wp2;go_ret2;exact ⟨by first | rfl | (simp;done) | (simp [*];done),by repeat (first | exact Drawn0.refl _ | apply Drawn0.step)⟩

def wide_Mul.f (a0 : Int) (a1 : Int) : Option (Int × Int):=(bits_Mul64.f a0 a1).bind fun bt124 => (some (bt124.1,bt124.2))
theorem wide_Mul.calls (a0 : Int) (a1 : Int) (r1 : Int) (r2 : Int) (w : World) (h : wide_Mul.f a0 a1 = some (r1,r2)) :
  Calls Tryz.prog 32 #[.int .u64 a0,.int .u64 a1] w fun e w' => e = .returned (.agg #[.int .u64 r1,.int .u64 r2]) ∧ Below w.heap.size w w':=by
 have hu66:=Tryz.underlying66;have HB:=Am (Below.refl w.heap.size w);have H : ((bits_Mul64.f a0 a1).bind fun bt124 => (some (bt124.1,bt124.2))) = some (r1,r2):=h;clear h;obtain ⟨⟨t124,t125⟩,A3,H⟩:=bnd H;(try dsimp only at H);simp only [Option.some.injEq,Prod.mk.injEq] at H;obtain ⟨rfl,rfl⟩:=H;go_enter Tryz.func32,Tryz.ntmps32;go_wp2_with (first | ((with_reducible refine gate_dst (N:=4) rfl ?_);refine bxA 4 #[.int .u64 0,.int .u64 0] 66 ?_;intro gb123 hg w4 hbox hb;have BK123:=Am (hbox);have GW123:=gW_ hg;have GE123:=gW_ hg;replace HB:=hb_ hb;clear hb hbox hg) | ((with_reducible refine gate_callee (f:=61) rfl ?_);refine goesL_ (some 10) rfl rfl Tryz.func61 (by kernel_rfl) rfl #[.int .u64 a0,.int .u64 a1] rfl aA ?_;(with_reducible refine (bits_Mul64.calls a0 a1 t124 t125 _ A3.out).mono ?_);rintro e w' ⟨rfl,⟨nd,rfl⟩⟩;refine ⟨_,rfl,?_⟩;(try (rw [drewN_self w4];generalize hq_ : World.drewN w4 _ = w4;have n0_ : Aside0 (w4.heap[gb123]? = some (.cells #[.int .u64 0,.int .u64 0] 66 (0,0))):=⟨by rw [← hq_];exact kA⟩;have n1_ : Aside0 (Below w.heap.size w w4):=⟨by rw [← hq_];exact bA⟩;clear BK123 HB hq_;have BK123:=n0_;have HB:=n1_;clear n0_ n1_));obtain ⟨hcz5_0,hcz5_1,hfz5_0,hfz5_1⟩:=k2 BK123.out))
 refine bodyPost_ret (results_cell_row rfl _ _ gb123 66 #[.int .u64 t124,.int .u64 t125] (0,0) _ rfl (by (with_reducible repeat (first | refine b1 ?_ _ | refine b2 ?_ | refine b3 ?_ _));refine blk_put (cs:=#[.int .u64 t124,.int .u64 0]) ?_ 1 _ rfl;(with_reducible repeat (first | refine b1 ?_ _ | refine b2 ?_ | refine b3 ?_ _));refine blk_put (cs:=#[.int .u64 0,.int .u64 0]) ?_ 0 _ rfl;exact kA) Tryz.underlying66 rfl (by kernel_rfl)) rfl ?_;exact eA

def wide_greatest.f  : Option (Int × Int):=some (18446744073709551615,18446744073709551615)
theorem wide_greatest.calls  (r1 : Int) (r2 : Int) (w : World) (h : wide_greatest.f  = some (r1,r2)) :
  Calls Tryz.prog 92 #[] w fun e w' => e = .returned (.agg #[.int .u64 r1,.int .u64 r2]) ∧ Below w.heap.size w w':=by
 have hu66:=Tryz.underlying66;have HB:=Am (Below.refl w.heap.size w);have H : (some (18446744073709551615,18446744073709551615)) = some (r1,r2):=h;clear h;simp only [Option.some.injEq,Prod.mk.injEq] at H;obtain ⟨rfl,rfl⟩:=H;go_enter Tryz.func92,Tryz.ntmps92;go_wp2_with (first | ((with_reducible refine gate_dst (N:=0) rfl ?_);refine bxA 0 #[.int .u64 0,.int .u64 0] 66 ?_;intro gb126 hg w1 hbox hb;have BK126:=Am (hbox);have GW126:=gW_ hg;have GE126:=gW_ hg;replace HB:=hb_ hb;clear hb hbox hg;obtain ⟨hcz2_0,hcz2_1,hfz2_0,hfz2_1⟩:=k2 BK126.out))
 refine bodyPost_ret (results_cell_row rfl _ _ gb126 66 #[.int .u64 18446744073709551615,.int .u64 18446744073709551615] (0,0) _ rfl (by (with_reducible repeat (first | refine b1 ?_ _ | refine b2 ?_ | refine b3 ?_ _));refine blk_put (cs:=#[.int .u64 18446744073709551615,.int .u64 0]) ?_ 1 _ rfl;(with_reducible repeat (first | refine b1 ?_ _ | refine b2 ?_ | refine b3 ?_ _));refine blk_put (cs:=#[.int .u64 0,.int .u64 0]) ?_ 0 _ rfl;exact kA) Tryz.underlying66 rfl (by kernel_rfl)) rfl ?_;exact eA

def bits_Add64.f (a0 a1 a2 : Int) : Option (Int × Int):=
 if 0 ≤ a0 ∧ 0 ≤ a1 ∧ 0 ≤ a2 ∧ a2 ≤ 1 then some ((a0 + a1 + a2) % 18446744073709551616,(a0 + a1 + a2) / 18446744073709551616) else none
theorem bits_Add64.calls (a0 a1 a2 r1 r2 : Int) (w : World) (h : bits_Add64.f a0 a1 a2 = some (r1,r2)) :
  CallsX Tryz.prog 99 #[.int .u64 a0,.int .u64 a1,.int .u64 a2] w fun e w' => e = .returned (.tuple #[.int .u64 r1,.int .u64 r2]) ∧ Below w.heap.size w w':=by
 unfold bits_Add64.f at h;split at h
 ·rename_i hb;simp only [Option.some.injEq,Prod.mk.injEq] at h;obtain ⟨rfl,rfl⟩:=h;refine ⟨_,w,?_,rfl,Below.refl _ _⟩;rw [run_callFunc_extern Tryz.func99 (by kernel_rfl) (by kernel_rfl) (by kernel_rfl) (e:=add64Entry) (by kernel_rfl),run_add64 a0 a1 a2 hb.1 hb.2.1 hb.2.2.1 hb.2.2.2];rfl
 ·cases h

def wide_Add.f (a0_0 : Int) (a0_1 : Int) (a1_0 : Int) (a1_1 : Int) : Option (Int × Int × Bool):=(bits_Add64.f a0_1 a1_1 0).bind fun bt130 => ((bits_Add64.f a0_0 a1_0 bt130.2).bind fun bt132 => (if bt132.2 > 0 then ((wide_greatest.f).bind fun bt134 => (some (bt134.1,bt134.2,false))) else (some (bt132.1,bt130.1,true))))
theorem wide_Add.calls (a0_0 : Int) (a0_1 : Int) (a1_0 : Int) (a1_1 : Int) (r1 : Int) (r2 : Int) (r3 : Bool) (w : World) (h : wide_Add.f a0_0 a0_1 a1_0 a1_1 = some (r1,r2,r3)) :
  Calls Tryz.prog 79 #[.agg #[.int .u64 a0_0,.int .u64 a0_1],.agg #[.int .u64 a1_0,.int .u64 a1_1]] w fun e w' => e = .returned (.tuple #[.agg #[.int .u64 r1,.int .u64 r2],.bool r3]) ∧ Below w.heap.size w w':=by
 have hu66:=Tryz.underlying66;have HB:=Am (Below.refl w.heap.size w);have H : ((bits_Add64.f a0_1 a1_1 0).bind fun bt130 => ((bits_Add64.f a0_0 a1_0 bt130.2).bind fun bt132 => (if bt132.2 > 0 then ((wide_greatest.f).bind fun bt134 => (some (bt134.1,bt134.2,false))) else (some (bt132.1,bt130.1,true))))) = some (r1,r2,r3):=h;clear h;obtain ⟨⟨t130,t131⟩,A3,H⟩:=bnd H;(try dsimp only at H);obtain ⟨⟨t132,t133⟩,A4,H⟩:=bnd H;(try dsimp only at H)
 by_cases c5 : t133 > 0
 ·rw [if_pos c5] at H;have c5b0 : decide (0 < t133) = true:=dT c5;clear c5;obtain ⟨⟨t134,t135⟩,A6,H⟩:=bnd H;(try dsimp only at H);simp only [Option.some.injEq,Prod.mk.injEq] at H;obtain ⟨rfl,rfl,rfl⟩:=H;go_enter Tryz.func79,Tryz.ntmps79;go_wp2_with (first | ((with_reducible refine gate_dst (N:=2) rfl ?_);refine bxA 2 #[.int .u64 a0_0,.int .u64 a0_1] 66 ?_;intro gb127 hg w7 hbox hb;have BK127:=Am (hbox);have GW127:=gW_ hg;have GE127:=gW_ hg;replace HB:=hb_ hb;clear hb hbox hg) | ((with_reducible refine gate_dst (N:=3) rfl ?_);refine bxA 3 #[.int .u64 a1_0,.int .u64 a1_1] 66 ?_;intro gb128 hg w8 hbox hb;have BK128:=Am (hbox);have GW128:=gW_ hg;have GE128:=gW_ hg;have NB127_128:=nA_ (g:=gb127) hg;have NB128_127:=nB_ (g:=gb127) hg;replace BK127:=kb_ (g:=gb127) hb;replace HB:=hb_ hb;clear hb hbox hg) | ((with_reducible refine gate_dst (N:=4) rfl ?_);refine bxA 4 #[.int .u64 0,.int .u64 0] 66 ?_;intro gb129 hg w9 hbox hb;have BK129:=Am (hbox);have GW129:=gW_ hg;have GE129:=gW_ hg;have NB127_129:=nA_ (g:=gb127) hg;have NB129_127:=nB_ (g:=gb127) hg;have NB128_129:=nA_ (g:=gb128) hg;have NB129_128:=nB_ (g:=gb128) hg;replace BK127:=kb_ (g:=gb127) hb;replace BK128:=kb_ (g:=gb128) hb;replace HB:=hb_ hb;clear hb hbox hg;have hnb10:=NB127_128.out;have hnc10:=NB128_127.out;have hnb11:=NB127_129.out;have hnc11:=NB129_127.out;obtain ⟨hcz12_0,hcz12_1,hfz12_0,hfz12_1⟩:=k2 BK127.out;have hnb13:=NB128_129.out;have hnc13:=NB129_128.out;obtain ⟨hcz14_0,hcz14_1,hfz14_0,hfz14_1⟩:=k2 BK128.out) | ((with_reducible refine gate_callee (f:=99) rfl ?_);refine goesX_ (some 14) rfl rfl #[.int .u64 a0_1,.int .u64 a1_1,.int .u64 0] rfl aA ?_;(with_reducible refine (bits_Add64.calls a0_1 a1_1 0 t130 t131 _ A3.out).mono ?_);rintro e w15 ⟨rfl,hb⟩;refine ⟨_,rfl,?_⟩;replace BK127:=kb_ (g:=gb127) hb;replace BK128:=kb_ (g:=gb128) hb;replace BK129:=kb_ (g:=gb129) hb;replace HB:=hb_ hb;(try clear hb);obtain ⟨hcz16_0,hcz16_1,hfz16_0,hfz16_1⟩:=k2 BK127.out;obtain ⟨hcz17_0,hcz17_1,hfz17_0,hfz17_1⟩:=k2 BK128.out) | ((with_reducible refine gate_callee (f:=99) rfl ?_);refine goesX_ (some 23) rfl rfl #[.int .u64 a0_0,.int .u64 a1_0,.int .u64 t131] rfl aA ?_;(with_reducible refine (bits_Add64.calls a0_0 a1_0 t131 t132 t133 _ A4.out).mono ?_);rintro e w18 ⟨rfl,hb⟩;refine ⟨_,rfl,?_⟩;replace BK127:=kb_ (g:=gb127) hb;replace BK128:=kb_ (g:=gb128) hb;replace BK129:=kb_ (g:=gb129) hb;replace HB:=hb_ hb;(try clear hb)) | ((with_reducible refine gate_callee (f:=92) rfl ?_);refine goesL_ (some 28) rfl rfl Tryz.func92 (by kernel_rfl) rfl #[] rfl aA ?_;(with_reducible refine (wide_greatest.calls  t134 t135 _ A6.out).mono ?_);rintro e w19 ⟨rfl,hb⟩;refine ⟨_,rfl,?_⟩;replace BK127:=kb_ (g:=gb127) hb;replace BK128:=kb_ (g:=gb128) hb;replace BK129:=kb_ (g:=gb129) hb;replace HB:=hb_ hb;(try clear hb);obtain ⟨hcz20_0,hcz20_1,hfz20_0,hfz20_1⟩:=k2 BK129.out))
  refine bodyPost_ret (results_ct rfl _ _ gb129 66 #[.int .u64 t134,.int .u64 t135] (0,0) _ rfl (by (with_reducible repeat (first | refine b1 ?_ _ | refine b2 ?_ | refine b3 ?_ _));refine blk_put (cs:=#[.int .u64 t134,.int .u64 0]) ?_ 1 _ rfl;(with_reducible repeat (first | refine b1 ?_ _ | refine b2 ?_ | refine b3 ?_ _));refine blk_put (cs:=#[.int .u64 0,.int .u64 0]) ?_ 0 _ rfl;exact kA) Tryz.underlying66 rfl (by kernel_rfl)) rfl ?_;exact eA
 ·rw [if_neg c5] at H;have c5b0 : decide (0 < t133) = false:=dF c5;clear c5;simp only [Option.some.injEq,Prod.mk.injEq] at H;obtain ⟨rfl,rfl,rfl⟩:=H;go_enter Tryz.func79,Tryz.ntmps79;go_wp2_with (first | ((with_reducible refine gate_dst (N:=2) rfl ?_);refine bxA 2 #[.int .u64 a0_0,.int .u64 a0_1] 66 ?_;intro gb127 hg w21 hbox hb;have BK127:=Am (hbox);have GW127:=gW_ hg;have GE127:=gW_ hg;replace HB:=hb_ hb;clear hb hbox hg) | ((with_reducible refine gate_dst (N:=3) rfl ?_);refine bxA 3 #[.int .u64 a1_0,.int .u64 a1_1] 66 ?_;intro gb128 hg w22 hbox hb;have BK128:=Am (hbox);have GW128:=gW_ hg;have GE128:=gW_ hg;have NB127_128:=nA_ (g:=gb127) hg;have NB128_127:=nB_ (g:=gb127) hg;replace BK127:=kb_ (g:=gb127) hb;replace HB:=hb_ hb;clear hb hbox hg) | ((with_reducible refine gate_dst (N:=4) rfl ?_);refine bxA 4 #[.int .u64 0,.int .u64 0] 66 ?_;intro gb129 hg w23 hbox hb;have BK129:=Am (hbox);have GW129:=gW_ hg;have GE129:=gW_ hg;have NB127_129:=nA_ (g:=gb127) hg;have NB129_127:=nB_ (g:=gb127) hg;have NB128_129:=nA_ (g:=gb128) hg;have NB129_128:=nB_ (g:=gb128) hg;replace BK127:=kb_ (g:=gb127) hb;replace BK128:=kb_ (g:=gb128) hb;replace HB:=hb_ hb;clear hb hbox hg;have hnb24:=NB127_128.out;have hnc24:=NB128_127.out;have hnb25:=NB127_129.out;have hnc25:=NB129_127.out;obtain ⟨hcz26_0,hcz26_1,hfz26_0,hfz26_1⟩:=k2 BK127.out;have hnb27:=NB128_129.out;have hnc27:=NB129_128.out;obtain ⟨hcz28_0,hcz28_1,hfz28_0,hfz28_1⟩:=k2 BK128.out) | ((with_reducible refine gate_callee (f:=99) rfl ?_);refine goesX_ (some 14) rfl rfl #[.int .u64 a0_1,.int .u64 a1_1,.int .u64 0] rfl aA ?_;(with_reducible refine (bits_Add64.calls a0_1 a1_1 0 t130 t131 _ A3.out).mono ?_);rintro e w29 ⟨rfl,hb⟩;refine ⟨_,rfl,?_⟩;replace BK127:=kb_ (g:=gb127) hb;replace BK128:=kb_ (g:=gb128) hb;replace BK129:=kb_ (g:=gb129) hb;replace HB:=hb_ hb;(try clear hb);obtain ⟨hcz30_0,hcz30_1,hfz30_0,hfz30_1⟩:=k2 BK127.out;obtain ⟨hcz31_0,hcz31_1,hfz31_0,hfz31_1⟩:=k2 BK128.out) | ((with_reducible refine gate_callee (f:=99) rfl ?_);refine goesX_ (some 23) rfl rfl #[.int .u64 a0_0,.int .u64 a1_0,.int .u64 t131] rfl aA ?_;(with_reducible refine (bits_Add64.calls a0_0 a1_0 t131 t132 t133 _ A4.out).mono ?_);rintro e w32 ⟨rfl,hb⟩;refine ⟨_,rfl,?_⟩;replace BK127:=kb_ (g:=gb127) hb;replace BK128:=kb_ (g:=gb128) hb;replace BK129:=kb_ (g:=gb129) hb;replace HB:=hb_ hb;(try clear hb);obtain ⟨hcz33_0,hcz33_1,hfz33_0,hfz33_1⟩:=k2 BK129.out))
  refine bodyPost_ret (results_ct rfl _ _ gb129 66 #[.int .u64 t132,.int .u64 t130] (0,0) _ rfl (by (with_reducible repeat (first | refine b1 ?_ _ | refine b2 ?_ | refine b3 ?_ _));refine blk_put (cs:=#[.int .u64 t132,.int .u64 0]) ?_ 1 _ rfl;(with_reducible repeat (first | refine b1 ?_ _ | refine b2 ?_ | refine b3 ?_ _));refine blk_put (cs:=#[.int .u64 0,.int .u64 0]) ?_ 0 _ rfl;exact kA) Tryz.underlying66 rfl (by kernel_rfl)) rfl ?_;exact eA

end Go.Proofs.YtodibpddlibneaaGreatDoor.GSH
namespace Go.Proofs.YtodibpddlibneaaGreatDoor.Q
open Go.RowKit GSH YtodibpddlibneaaGreatDoorW.PrintWords YtodibpddlibneaaGreatDoorW.PrintLast YtodibpddlibneaaGreatDoorW.PrintMore
theorem add64 {a b c : Int} (ha : U a) (hb : U b) (hc : 0 ≤ c) (hc1 : c ≤ 1) : bits_Add64.f a b c = some ((a + b + c) % 18446744073709551616,(a + b + c) / 18446744073709551616):=by
  unfold bits_Add64.f;rw [if_pos ⟨ha.1,hb.1,hc,hc1⟩]
theorem wadd {ah al bh bl : Int} (h1 : U ah) (h2 : U al) (h3 : U bh) (h4 : U bl) : wide_Add.f ah al bh bl = some (addV (V ah al) (V bh bl)):=by
  unfold wide_Add.f wide_greatest.f addV V;rw [add64 h2 h4 (by omega) (by omega)];simp only [Option.bind_some];obtain ⟨h1a,h1b⟩:=h1;obtain ⟨h2a,h2b⟩:=h2;obtain ⟨h3a,h3b⟩:=h3;obtain ⟨h4a,h4b⟩:=h4;rw [add64 ⟨h1a,h1b⟩ ⟨h3a,h3b⟩ (by omega) (by omega)];simp only [Option.bind_some]
  by_cases hc : ah * 18446744073709551616 + al + (bh * 18446744073709551616 + bl) < 340282366920938463463374607431768211456
  · rw [if_pos hc,if_neg (by omega)]
    congr 2
    · omega
    · congr 1
      omega
  · rw [if_neg hc,if_pos (by omega)]
end Go.Proofs.YtodibpddlibneaaGreatDoor.Q
