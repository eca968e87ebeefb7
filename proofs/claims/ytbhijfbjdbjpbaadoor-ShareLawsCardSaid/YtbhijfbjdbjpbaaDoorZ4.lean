/- The texts of this claim, put together by program, what it does not name left out: part 4. Conditions: each theorem's own. -/
import Derived.Test.YtbhijfbjdbjpbaaDoorZ3
namespace Go.Proofs.YtbhijfbjdbjpbaaDoor.T
open Go.RowKit Go.Proofs.YtbhijfbjdbjpbaaDoorW.PrintWords Go.Proofs.YtbhijfbjdbjpbaaDoorW.PrintLast Go.Proofs.YtbhijfbjdbjpbaaDoor.H Go.Maps
set_option linter.unusedVariables false
set_option linter.unusedSimpArgs false
/-- The numbers below j of those whose parent is p,rising. -/
def kidsV (ls : List Acc) (p : Int) : Nat → List Int
  | 0 => []
  | j + 1 => if (ls.map Acc.par).getD j (-1) = p ∧ j < ls.length then kidsV ls p j ++ [(j : Int)] else kidsV ls p j
theorem kidsV_len (ls : List Acc) (p : Int) : ∀ j,(kidsV ls p j).length ≤ j
  | 0 => by simp [kidsV]
  | j + 1 => by
    have:=kidsV_len ls p j
    rw [kidsV];split
    · rw [List.length_append];simp;omega
    · omega
theorem kidsV_step {ls : List Acc} {j : Nat} {a : Acc} (h : ls[j]? = some a) (p : Int) : kidsV ls p (j + 1) = if a.par = p then kidsV ls p j ++ [(j : Int)] else kidsV ls p j:=by
  have hl:=(List.getElem?_eq_some_iff.1 h).1
  have e : (ls.map Acc.par).getD j (-1) = a.par:=by rw [List.getD_eq_getElem?_getD,List.getElem?_map,h];rfl
  rw [kidsV,e]
  by_cases q : a.par = p
  · rw [if_pos ⟨q,hl⟩,if_pos q]
  · rw [if_neg (fun h => q h.1),if_neg q]
def shV (ls : List Acc) (n : Int) : Int:=(ls.map Acc.sh).getD n.toNat 0
/-- The shares of some,together (64 bits). -/
def sisV (ls : List Acc) (ks : List Int) : Int:=ks.foldl (fun s k => IntKind.u64.wrap (s + IntKind.u64.wrap (shV ls k))) 0
theorem take_snoc {xs : List Int} {j : Nat} (h : j < xs.length) : xs.take (j + 1) = xs.take j ++ [rd xs (j : Int)]:=by
  rw [List.take_add_one,List.getElem?_eq_getElem h]
  simp [rd,List.getD_eq_getElem?_getD,List.getElem?_eq_getElem h]
theorem sisV_step {ls : List Acc} {ks : List Int} {j : Nat} (h : j < ks.length) : sisV ls (ks.take (j + 1)) = IntKind.u64.wrap (sisV ls (ks.take j) + IntKind.u64.wrap (shV ls (rd ks (j : Int)))):=by
  unfold sisV
  rw [take_snoc h,List.foldl_append];rfl
theorem sh_cell {w : World} {ad : Addr} {n : Nat} {ls : List Acc} (h : Rd Ec w (some ad) n ls) {i : Nat} (hi : i < n) : w.cell? ⟨(ad.add (i * 5)).block,(ad.add (i * 5)).off + 2,none⟩ = some (.int .i64 (shV ls (i : Int))):=by
  obtain ⟨a,ha⟩ : ∃ a,ls[i]? = some a:=⟨_,List.getElem?_eq_getElem (by rw [h.1];exact hi)⟩
  have e2 : shV ls (i : Int) = a.sh:=by
    unfold shV
    rw [Int.toNat_natCast,List.getD_eq_getElem?_getD,List.getElem?_map,ha];rfl
  rw [e2]
  exact (acc_cells h ha).2.2.1
set_option maxHeartbeats 8000000 in
set_option maxRecDepth 100000 in
theorem sisters_calls (w : World) (ad : Addr) (n c : Nat) (ls : List Acc) (B : Option Addr) (m d : Nat) (ks : List Int) (hr : Rd Ec w (some ad) n ls) (hk : Rd (Ei .i64) w B m ks) (hin : ∀ k ∈ ks,0 ≤ k ∧ k < n) :
    Calls Tryd.prog 17 #[.slice (some ad) n c,.slice B m d] w fun e w' => e = .returned (.int .u64 (sisV ls ks)) ∧ w = w':=by
  have hlen:=hk.2.1
  have HR:=Aside0.mk hr
  have HK:=Aside0.mk hk
  have HM:=Aside0.mk hk.1
  have HI:=Aside0.mk hin
  clear hr hk hin
  go_enter Tryd.func17,Tryd.ntmps17
  go_wp2_with fail
  go_loopg [5,10] m (fun k v5 v10 wr => ∃ (j : Nat) (s : Int),v5 = .int .u64 s ∧ v10 = .int .i64 j ∧ Aside0 (j + k = m) ∧ j ≤ m ∧ Aside0 (s = sisV ls (ks.take j)) ∧ w = wr)
  case atStart => exact ⟨0,0,rfl,rfl,⟨by omega⟩,by omega,⟨rfl⟩,rfl⟩
  case round =>
    obtain ⟨j,s,rfl,rfl,HD,hj,HS,rfl⟩:=hrel
    cases gk with
    | zero =>
      obtain rfl : j = m:=by have:=HD.out;omega
      have HF:=Am (show s = sisV ls ks by rw [HS.out,List.take_of_length_le (by rw [HM.out];exact Nat.le_refl _)])
      go_wp2
      go_ret
      exact ⟨by rw [← HF.out];rfl,rfl⟩
    | succ e =>
      have hlt : j < m:=by have:=HD.out;omega
      have hlt1 : decide ((j : Int) < (m : Int)) = true:=decide_eq_true (by omega)
      have hji : (j : Int) < (m : Int):=by omega
      have hjl : j < ks.length:=by rw [HM.out];exact hlt
      obtain ⟨bd,rfl,hcj⟩:=HK.out.int j hlt
      have hmem : rd ks (j : Int) ∈ ks:=by
        have : rd ks (j : Int) = ks[j]:=by simp [rd,List.getD_eq_getElem?_getD,List.getElem?_eq_getElem hjl]
        rw [this];exact List.getElem_mem hjl
      obtain ⟨hq0,hq1⟩:=HI.out _ hmem
      obtain ⟨q,hq⟩ : ∃ q : Nat,rd ks (j : Int) = q:=⟨(rd ks (j : Int)).toNat,by omega⟩
      have HST:=Am (show sisV ls (ks.take (j + 1)) = IntKind.u64.wrap (s + IntKind.u64.wrap (shV ls (q : Int))) by rw [sisV_step hjl,hq,← HS.out])
      rw [hq] at hcj
      have hqn : q < n:=by omega
      have hqn2 : (q : Int) < (n : Int):=by omega
      have hsq:=sh_cell HR.out hqn
      clear hmem hq0 hq1 hq
      go_wp2_with fail
      go_roundg e
      case measure => omega
      case rel => exact ⟨j + 1,_,rfl,by go_num,⟨by have:=HD.out;omega⟩,by omega,⟨HST.out.symm⟩,rfl⟩
end Go.Proofs.YtbhijfbjdbjpbaaDoor.T
namespace Go.Proofs.YtbhijfbjdbjpbaaDoor.T
open Go.RowKit Go.Proofs.YtbhijfbjdbjpbaaDoorW.PrintWords Go.Proofs.YtbhijfbjdbjpbaaDoorW.PrintLast Go.Proofs.YtbhijfbjdbjpbaaDoor.H Go.Maps
set_option linter.unusedVariables false
set_option linter.unusedSimpArgs false
def NILS : DataW Value:=.held (.slice none 0 0)
set_option maxRecDepth 100000 in
theorem look_of {w : World} {kb n : Nat} {D : DataW Value} {p : Int} {v : Value} (h : w.ownsMap Tryd.prog 3 RK kb n D) (hp : (Lit.int .i64 p).wf = true) (hat : D.atKey (.int .i64 p) NILS = .held v) :
    (Instr.lookup 45 (.map (some kb)) (.int .i64 p) false).run Tryd.prog w = .ok v w:=by
  obtain ⟨u,ps,hr,hv⟩:=h.lookup (int_keyed Tryd.underlying3) Tryd.underlying45 (z:=.slice none 0 0) (by kernel_rfl) (zd:=NILS) (zp:=[]) rfl (keyOf_int_mk Tryd.underlying3 hp)
  have e : DataW.held u = D.atKey (.int .i64 p) NILS:=(Prod.mk.inj (Option.some.inj hv)).1
  rw [hat] at e
  injection e with e
  subst e
  exact hr
/-- The children of each,below j. -/
structure KMap (w : World) (P : Nat) (f : Nat → Int) (kb n : Nat) (D : DataW Value) (ls : List Acc) (j : Nat) : Prop where
  own : w.ownsMap Tryd.prog 3 RK kb n D
  rows : ∀ p : Int,0 ≤ p → (Lit.int .i64 p).wf = true → ∃ A cc,D.atKey (.int .i64 p) NILS = .held (.slice A (kidsV ls p j).length cc) ∧ w.ownsRow P 3 (Ei .i64).sz (.slice A (kidsV ls p j).length cc) (kidsV ls p j).length (flat (Ei .i64) (kidsV ls p j)) ∧ ∀ b,(Value.slice A (kidsV ls p j).length cc).ownBlock = some b → f b = 10 + p
  fk : f kb = 4
theorem KMap.lt {w w' : World} {P : Nat} {f f' : Nat → Int} {kb n : Nat} {D : DataW Value} {ls : List Acc} {j : Nat} {T : Int → Prop} (h : KMap w P f kb n D ls j) (hl : Lt w f w' f' T) (hT : ∀ x,4 ≤ x → ¬ T x) : KMap w' P f' kb n D ls j:=by
  refine ⟨map_tn h.own hl.tn (by rw [h.fk];exact hT _ (by decide)),fun p h0 hp => ?_,by rw [hl.lab _ h.own.lt];exact h.fk⟩
  obtain ⟨A,cc,h1,h2,h3⟩:=h.rows p h0 hp
  exact ⟨A,cc,h1,own_tn h2 hl.tn (fun b hb => by rw [h3 b hb];exact hT _ (by omega)),fun b hb => by rw [hl.lab b (h2.lt b hb).2];exact h3 b hb⟩
/-- What kids answers: no map,or that of the children. -/
def KidsI (w : World) (ls : List Acc) (e : Ending) (w' : World) : Prop:=
  w.grownBy w' none ∧ ((loadE ls ≠ 0 ∧ e = .returned (.tuple #[.map none,.bool false])) ∨ (loadE ls = 0 ∧ ∃ kb n D f,e = .returned (.tuple #[.map (some kb),.bool true]) ∧ KMap w' w.heap.size f kb n D ls ls.length ∧ ∀ k,k < w.heap.size → f k = -1000))
set_option maxHeartbeats 8000000 in
set_option maxRecDepth 100000 in
theorem kids_calls (w : World) (ad : Addr) (n c : Nat) (x : Acc) (r : List Acc) (hr : Rd Ec w (some ad) n (x :: r)) (hc : n ≤ c) (hok : AccOk (x :: r)) :
    Calls Tryd.prog 15 #[.slice (some ad) n c] w (KidsI w (x :: r)):=by
  have hlen:=hr.2.1
  have HC:=Am (load_calls w ad n c x r hr hc hok)
  have HR:=Aside0.mk hr
  have HN:=Aside0.mk hr.1
  have HOK:=Aside0.mk hok
  have hmk : ∀ W : World,(Instr.makeMap 45 none).run Tryd.prog W = .ok (.map (some W.heap.size)) (W.alloc (.map #[] 0)):=fun W => rfl
  clear hr hok hc
  go_enter Tryd.func15,Tryd.ntmps15
  go_wp2_with fail
  refine (HC.out).mono ?_
  rintro e w1 ⟨⟨o,rfl⟩,hg⟩
  have HG1:=Aside0.mk hg
  obtain ⟨ev,hev⟩ : ∃ ev,ev = loadE (x :: r):=⟨_,rfl⟩
  have HEV:=Aside0.mk hev
  rw [← hev]
  clear hg hev HC
  by_cases h0 : ev = 0
  · have b0 : (ev != 0) = false:=by simp [h0]
    have HE0:=Am (show loadE (x :: r) = 0 by rw [← HEV.out,h0])
    have hn64 : n ≤ 64:=by
      have h1:=HE0.out
      unfold loadE at h1
      simp only at h1
      split at h1
      · cases h1
      · split at h1
        · cases h1
        · have:=HN.out;omega
    clear h0
    go_upto_region 5 with (fail)
    have HM0:=Am (World.ownsMap_made w1 Tryd.prog 3 RK)
    have HG2:=Am (World.grownBy.trans HG1.out (World.grownBy_alloc w1 (.map #[] 0) none))
    obtain ⟨kb,hkb⟩ : ∃ kb,kb = w1.heap.size:=⟨_,rfl⟩
    have HKB : Aside0 (w.heap.size ≤ kb):=⟨by rw [hkb];exact HG1.out.size⟩
    rw [← hkb] at HM0 ⊢
    generalize w1.alloc (.map #[] 0) = w2 at HM0 HG2 ⊢
    clear hkb hmk b0
    go_wp2_with fail
    have HK0:=Am (show KMap w2 w.heap.size (fun k => if k < w.heap.size then -1000 else 4) kb 0 (.map []) (x :: r) 0 from ⟨HM0.out,fun p _ _ => ⟨none,0,rfl,own_nil _ _ _ _,fun b hb => by simp [Value.ownBlock] at hb⟩,by show (if _ then _ else _) = _;rw [if_neg (by have:=HKB.out;omega)]⟩)
    go_loopg [19] n (fun k v19 wr => ∃ (j m : Nat) (D : DataW Value) (f : Nat → Int),v19 = .int .i64 j ∧ Aside0 (j + k = n) ∧ j ≤ n ∧ Aside0 (KMap wr w.heap.size f kb m D (x :: r) j) ∧ Aside0 (m ≤ j) ∧ Aside0 (∀ i,i < w.heap.size → f i = -1000) ∧ Aside0 (w.grownBy wr none))
    case atStart => exact ⟨0,0,_,_,rfl,⟨by omega⟩,by omega,HK0,⟨Nat.le_refl _⟩,⟨fun i hi => if_pos hi⟩,HG2⟩
    case round =>
      clear HK0 HG2 HM0
      obtain ⟨j,m0,D,f,rfl,HD,hj,HK,HM,HLOW,HG⟩:=hrel
      cases gk with
      | zero =>
        obtain rfl : j = n:=by have:=HD.out;omega
        go_wp2
        go_ret2
        refine ⟨HG.out,.inr ⟨HE0.out,kb,m0,D,f,rfl,?_,HLOW.out⟩⟩
        rw [HN.out];exact HK.out
      | succ d =>
        have hlt : j < n:=by have:=HD.out;omega
        have hlt1 : decide ((j : Int) < (n : Int)) = true:=decide_eq_true (by omega)
        have hji : (j : Int) < (n : Int):=by omega
        obtain ⟨a,ha⟩ : ∃ a,(x :: r)[j]? = some a:=⟨_,List.getElem?_eq_getElem (by rw [HN.out];exact hlt)⟩
        have HA:=Aside0.mk ha
        obtain ⟨h0,h1,h2,h3,h4⟩:=acc_cells (HR.out.gb HG.out) ha
        have HPW:=Am (HOK.out a (List.mem_of_getElem? ha)).2
        have HX1:=Am (heap_alloc_new wr (.cells #[.string a.nm,.int .i64 a.par,.int .i64 a.sh,.bool a.cl,.int .u64 a.us] 37))
        have HG2:=Am (World.grownBy.trans HG.out (World.grownBy_alloc wr (.cells #[.string a.nm,.int .i64 a.par,.int .i64 a.sh,.bool a.cl,.int .u64 a.us] 37) none))
        have HK1:=Am (HK.out.lt (Lt.gb (f:=f) (T:=fun _ => False) (World.grownBy_alloc wr (.cells #[.string a.nm,.int .i64 a.par,.int .i64 a.sh,.bool a.cl,.int .u64 a.us] 37) none)) (fun _ _ h => h))
        obtain ⟨bx,hbx⟩ : ∃ bx,bx = wr.heap.size:=⟨_,rfl⟩
        rw [← hbx] at HX1
        have HPZ0:=Aside0.mk HG.out.size
        have HRO:=Am (show ∀ q : Int,0 ≤ q → (Lit.int .i64 q).wf = true → ∃ A cc,D.atKey (.int .i64 q) NILS = .held (.slice A (kidsV (x :: r) q j).length cc) ∧ (wr.alloc (.cells #[.string a.nm,.int .i64 a.par,.int .i64 a.sh,.bool a.cl,.int .u64 a.us] 37)).ownsRow w.heap.size 3 (Ei .i64).sz (.slice A (kidsV (x :: r) q j).length cc) (kidsV (x :: r) q j).length (flat (Ei .i64) (kidsV (x :: r) q j)) ∧ ∀ b,(Value.slice A (kidsV (x :: r) q j).length cc).ownBlock = some b → f b = 10 + q ∧ b < bx from fun q h0 hw => by
          obtain ⟨A,cc,e1,e2,e3⟩:=HK.out.rows q h0 hw
          exact ⟨A,cc,e1,own_kept e2 (World.grownBy_alloc wr (.cells #[.string a.nm,.int .i64 a.par,.int .i64 a.sh,.bool a.cl,.int .u64 a.us] 37) none) (by simp),fun b hb => ⟨e3 b hb,by rw [hbx];exact (e2.lt b hb).2⟩⟩)
        clear ha HK HG
        go_upto_region 8 with (fail)
        rw [← hbx]
        generalize wr.alloc (.cells #[.string a.nm,.int .i64 a.par,.int .i64 a.sh,.bool a.cl,.int .u64 a.us] 37) = W1 at HX1 HG2 HK1 HRO ⊢
        clear h0 h1 h2 h3 h4 hbx
        have k1:=cell_of (j:=1) (v:=.int .i64 a.par) HX1.out rfl
        by_cases hp : 0 ≤ a.par
        · have b1 : decide (0 ≤ a.par) = true:=decide_eq_true hp
          go_upto_region 9 with (fail)
          obtain ⟨p,hpe⟩ : ∃ p,p = a.par:=⟨_,rfl⟩
          have HPE:=Aside0.mk hpe
          rw [← hpe] at HX1 HPW hp ⊢
          clear k1 b1 hpe
          obtain ⟨A,cc,hat,hrow,hlab'⟩:=HRO.out p hp HPW.out
          have hlab:=fun b hb => (hlab' b hb).1
          have hlabx:=fun b hb => (hlab' b hb).2
          clear hlab'
          obtain ⟨ks,hks⟩ : ∃ ks,ks = kidsV (x :: r) p j:=⟨_,rfl⟩
          obtain ⟨m,hm⟩ : ∃ m,m = ks.length:=⟨_,rfl⟩
          have HKS:=Aside0.mk hks
          have hm64 : m ≤ 64:=by have:=kidsV_len (x :: r) p j;rw [hm,hks];omega
          have hm0 : m0 ≤ 64:=by have:=HM.out;omega
          rw [← hks,← hm] at hat hrow hlab hlabx
          have HRX:=Aside0.mk hlabx
          have HAT:=Aside0.mk hat
          have HR1:=Aside0.mk hrow
          have HRL:=Aside0.mk hlab
          have HMK:=Aside0.mk hm
          have HFK:=Aside0.mk HK1.out.fk
          have HP0:=Aside0.mk hp
          have HLN:=Am (show (ks ++ [(j : Int)]).length = m + 1 by rw [List.length_append,hm];rfl)
          obtain ⟨P,hPe⟩ : ∃ P,P = w.heap.size:=⟨_,rfl⟩
          have HPEQ:=Aside0.mk hPe
          have HPZ:=Am (show P ≤ W1.heap.size by rw [hPe];exact HG2.out.size)
          rw [← hPe] at HR1
          have HXd:=Am (show W1.drew.heap[bx]? = some (.cells #[.string a.nm,.int .i64 p,.int .i64 a.sh,.bool a.cl,.int .u64 a.us] 37 (0,0)) from HX1.out)
          have HOd:=Am (show W1.drew.ownsMap Tryd.prog 3 RK kb m0 D from HK1.out.own)
          have HRd:=Am (own_kept HR1.out (gb_drew W1 none) (by simp))
          clear hat hrow hlab hlabx hks hm hp hPe
          refine start_ (n:=11) (S:=fun w' => w'.cell? ⟨bx,1,none⟩ = some (.int .i64 p) ∧ (Instr.lookup 45 (.map (some kb)) (.int .i64 p) false).run Tryd.prog w' = .ok (.slice A m cc) w') (ds:=[10]) #[nn,nn,nn,nn,nn,nn,nn,nn,nn,nn,nn] (by kernel_rfl) rfl rfl ⟨cell_of (j:=1) HXd.out rfl,look_of HOd.out HPW.out HAT.out⟩ (fun hHeld => ?_)
          refine pure_ (i:=0) (N:=some 27) (v:=?_) (a':=?_) #[yy,nn,nn,nn,nn,nn,nn,nn,nn,nn,nn] rfl rfl (by kernel_rfl) (fun _ _ _ h => h) (Or.inl ⟨by rfl,?_⟩) ?_ ?_
          rotate_left
          · intro w'
            go_simp
            with_reducible rfl
          rotate_left
          · simp only [NR]
            rfl
          refine pure_ (i:=1) (N:=some 28) (v:=?_) (a':=?_) #[yy,yy,nn,nn,nn,nn,nn,nn,nn,nn,nn] rfl rfl (by kernel_rfl) (fun _ _ _ h => h) (Or.inl ⟨by rfl,?_⟩) ?_ ?_
          rotate_left
          · intro w'
            go_simp
            with_reducible rfl
          rotate_left
          · simp only [NR]
            rfl
          refine pure_ (i:=3) (N:=some 30) (v:=?_) (a':=?_) #[yy,yy,nn,yy,nn,nn,nn,nn,nn,nn,nn] rfl rfl (by kernel_rfl) (fun _ _ _ h => h) (Or.inl ⟨by rfl,?_⟩) ?_ ?_
          rotate_left
          · intro w'
            go_simp
            with_reducible rfl
          rotate_left
          · simp only [NR]
            rfl
          refine pure_ (i:=4) (N:=some 31) (v:=?_) (a':=?_) #[yy,yy,nn,yy,yy,nn,nn,nn,nn,nn,nn] rfl rfl (by kernel_rfl) (fun _ _ _ h => h) (Or.inl ⟨by rfl,?_⟩) ?_ ?_
          rotate_left
          · intro w'
            go_simp
            with_reducible rfl
          rotate_left
          · simp only [NR]
            rfl
          refine pure_ (i:=7) (N:=some 34) (v:=?_) (a':=?_) #[yy,yy,nn,yy,yy,nn,nn,yy,nn,nn,nn] rfl rfl (by kernel_rfl) (fun _ _ _ h => h) (Or.inl ⟨by rfl,?_⟩) ?_ ?_
          rotate_left
          · intro w'
            go_simp
            with_reducible rfl
          rotate_left
          · simp only [NR]
            rfl
          refine take_ (i:=2) (N:=some 29) (v:=?_) (a':=?_) #[yy,yy,yy,yy,yy,nn,nn,yy,nn,nn,nn] rfl rfl (by kernel_rfl) (fun _ _ _ h => h) (Or.inl ⟨by rfl,?_⟩) hHeld ?_ ?_
          rotate_left
          · rintro w' ⟨s0,s1⟩
            go_simp
            with_reducible rfl
          rotate_left
          · simp only [NR]
            rfl
          refine take_ (i:=5) (N:=some 32) (v:=?_) (a':=?_) #[yy,yy,yy,yy,yy,yy,nn,yy,nn,nn,nn] rfl rfl (by kernel_rfl) (fun _ _ _ h => h) (Or.inl ⟨by rfl,?_⟩) hHeld ?_ ?_
          rotate_left
          · rintro w' ⟨s0,s1⟩
            go_simp
            with_reducible rfl
          rotate_left
          · simp only [NR]
            rfl
          refine take_ (i:=6) (N:=some 33) (v:=?_) (a':=?_) #[yy,yy,yy,yy,yy,yy,yy,yy,nn,nn,nn] rfl rfl (by kernel_rfl) (fun _ _ _ h => h) (Or.inl ⟨by rfl,?_⟩) hHeld ?_ ?_
          rotate_left
          · rintro w' ⟨s0,s1⟩
            go_simp
            with_reducible rfl
          rotate_left
          · simp only [NR]
            rfl
          refine one_ (i:=8) (N:=some 35) #[yy,yy,yy,yy,yy,yy,yy,yy,yy,nn,nn] rfl rfl (by kernel_rfl) (by decide) (fun K hK => ?_)
          refine value_ (w1:=?_) (v:=?_) (by rfl) rfl ?_ ?_
          rotate_left 2
          · go_simp
            constructor
            · rfl
            · rfl
          have HX6:=Am (blk_kept HXd.out (World.grownBy_alloc _ (.cells #[.int .i64 j] 3) none) (by simp));have HO6:=Am (HOd.out.alloc (.cells #[.int .i64 j] 3));have HR6:=Am (own_kept HRd.out (World.grownBy_alloc _ (.cells #[.int .i64 j] 3) none) (by simp));have HL6:=Am (show Rd (Ei .i64) (W1.drew.alloc (.cells #[.int .i64 j] 3)) (some ⟨W1.drew.heap.size,0,none⟩) 1 [(j : Int)] from rd_lit (Ei .i64) W1.drew 3 [(j : Int)] (by simp));have HZ6 : Aside0 (P ≤ (W1.drew.alloc (.cells #[.int .i64 j] 3)).heap.size):=⟨by have h2:=HPZ.out;simp at h2 ⊢;omega⟩
          refine hK.out _ _ ⟨cell_of (j:=1) HX6.out rfl,look_of HO6.out HPW.out HAT.out⟩ (fun hHeld => ?_)
          clear hK K
          refine norm_ (a':=?_) ?_ ?_
          rotate_left
          · show Act.put _ (some 35) _ = _
            simp only [NR]
            rfl
          refine one_ (i:=9) (N:=some 36) #[yy,yy,yy,yy,yy,yy,yy,yy,yy,yy,nn] rfl rfl (by kernel_rfl) (by decide) (fun K hK => ?_)
          refine app_at_step (Ei .i64) (by rfl) rfl P (.tmp 33) (.tmp 35) 50 3 (.int .i64 0) 8 rfl Tryd.underlying50 (by kernel_rfl) rfl (by decide) (.slice A m cc) m ks [(j : Int)] _ 1 1 rfl rfl HR6.out HL6.out HZ6.out (by omega) ?_
          intro v7 w7 ho hg hat
          obtain ⟨A7,c7,rfl,-,-,-⟩:=own_open HLN.out ho
          have HO7:=Aside0.mk ho;have HG7:=Aside0.mk hg;have HA7:=Aside0.mk hat;have HX7:=Am (blk_kept HX6.out hg (fun e => by have:=HRX.out bx e.symm;omega));have HM7:=Am (HO6.out.kept hg (fun e => by have h3:=HRL.out kb e.symm;have h4:=HFK.out;have h5:=HP0.out;omega));clear ho hg hat;obtain ⟨W8,hup,ho8,hg8⟩:=HM7.out.update (int_keyed Tryd.underlying3) Tryd.underlying45 (by simp only [maxLen];omega) (keyOf_int_mk (k:=3) (q:=.i64) Tryd.underlying3 HPW.out) (val:=.slice A7 (m + 1 : Nat) c7) (d:=.held (.slice A7 (m + 1 : Nat) c7)) (ps:=[]) rfl;have HO8:=Aside0.mk ho8;have HG8:=Aside0.mk hg8;clear ho8 hg8
          refine hK.out _ _ ⟨cell_of (j:=1) HX7.out rfl,look_of HM7.out HPW.out HAT.out⟩ (fun hHeld => ?_)
          clear hK K
          refine norm_ (a':=?_) ?_ ?_
          rotate_left
          · show Act.put _ (some 36) _ = _
            simp only [NR]
            rfl
          refine last_ (i:=10) (N:=none) #[yy,yy,yy,yy,yy,yy,yy,yy,yy,yy,yy] rfl rfl (by kernel_rfl) (by decide) (fun K hK => ?_)
          refine skip_ (w1:=?_) (by rfl) rfl ?_ ?_
          rotate_left
          · go_simp
            rfl
          refine hK.out _ _ ?_
          clear hK K
          refine done_ (by kernel_rfl) ?_
          go_wp2_with fail
          go_roundg d
          case measure => omega
          case rel =>
            have hT : Tn W1 W8 (fun b => f b = 4 ∨ f b = 10 + p):=
              (((Tn.drew W1 _).trans' (Tn.alloc _ _ _)).trans' (Tn.of_gb HG7.out (fun b hb => .inr (HRL.out b hb)))).trans' (Tn.of_gb HG8.out (fun b hb => by cases hb;exact .inl HFK.out))
            obtain ⟨f2,hl2,hf2⟩:=Lt.new (f:=f) (T:=fun y => y = 4 ∨ y = 10 + p) hT (10 + p)
            have hp0:=HP0.out
            have hkl : kb < W1.heap.size:=HK1.out.own.lt
            have hIs : Maps.IsMap D:=HK1.out.own.isMap
            have hA7 : ∀ b,(Value.slice A7 (m + 1 : Nat) c7).ownBlock = some b → (f b = 10 + p ∧ b < W1.heap.size) ∨ W1.heap.size ≤ b:=fun b hb => by
              rcases HA7.out with e | e
              · rw [hb] at e
                exact .inl ⟨HRL.out b e.symm,(HR1.out.lt b e.symm).2⟩
              · rw [hb] at e
                have:=Option.some.inj e
                simp at this
                exact .inr (by omega)
            refine ⟨j + 1,m0 + 1,_,f2,by go_num,⟨by have:=HD.out;omega⟩,by omega,⟨⟨HO8.out,fun q h0 hw => ?_,by rw [hl2.lab kb hkl];exact HFK.out⟩⟩,⟨by have:=HM.out;omega⟩,⟨fun i hi => by rw [hl2.lab i (by have:=HPZ.out;have:=HPEQ.out;omega)];exact HLOW.out i hi⟩,⟨?_⟩⟩
            · rw [kidsV_step HA.out,← HPE.out]
              by_cases e : q = p
              · subst e
                rw [if_pos rfl,← HKS.out,HLN.out]
                refine ⟨A7,c7,Maps.atKey_put_same hIs (show WideAt.IsKeyLit (Lit.int .i64 q) from trivial) _ _,?_,fun b hb => ?_⟩
                · rw [← HPEQ.out]
                  exact own_tn HO7.out (Tn.of_gb HG8.out (F:=fun b => b = kb) (fun b hb => by cases hb;rfl)) (fun b hb e => by
                    rcases hA7 b hb with ⟨h1,_⟩ | h1
                    · rw [e,HFK.out] at h1;omega
                    · omega)
                · rcases hA7 b hb with ⟨h1,h2⟩ | h1
                  · rw [hl2.lab b h2];exact h1
                  · exact hf2 b h1
              · rw [if_neg (fun h => e h.symm)]
                obtain ⟨A9,c9,h1,h2,h3⟩:=HK1.out.rows q h0 hw
                refine ⟨A9,c9,?_,own_tn h2 hT (fun b hb hF => by have:=h3 b hb;omega),fun b hb => by rw [hl2.lab b (h2.lt b hb).2];exact h3 b hb⟩
                rw [Maps.atKey_put_other (fun h => e (by injection h))]
                exact h1
            · have hz:=HG2.out.size
              refine ⟨hT.os.trans HG2.out.os,hT.tape.trans HG2.out.tape,hT.output.trans HG2.out.output,Nat.le_trans hz hT.size,fun i hi _ => ?_⟩
              rw [hT.block i (by omega) (by rw [HLOW.out i hi];omega)]
              exact HG2.out.block i hi (by simp)
        · have b1 : decide (0 ≤ a.par) = false:=decide_eq_false hp
          go_wp2_with fail
          go_roundg d
          case measure => omega
          case rel =>
            refine ⟨j + 1,m0,D,f,by go_num,⟨by have:=HD.out;omega⟩,by omega,⟨⟨HK1.out.own,fun p h0 hw => ?_,HK1.out.fk⟩⟩,⟨by have:=HM.out;omega⟩,HLOW,HG2⟩
            rw [kidsV_step HA.out,if_neg (by omega)]
            exact HK1.out.rows p h0 hw
  · have b0 : (ev != 0) = true:=by simp [h0]
    have HE0:=Am (show loadE (x :: r) ≠ 0 by rw [← HEV.out];exact h0)
    clear h0
    go_wp2
    go_ret2
    exact ⟨HG1.out,.inl ⟨HE0.out,rfl⟩⟩
end Go.Proofs.YtbhijfbjdbjpbaaDoor.T
namespace Go.Proofs.YtbhijfbjdbjpbaaDoor.T
open Go.RowKit Go.Proofs.YtbhijfbjdbjpbaaDoorW.PrintWords Go.Proofs.YtbhijfbjdbjpbaaDoorW.PrintLast Go.Proofs.YtbhijfbjdbjpbaaDoor.H Go.Maps
set_option linter.unusedVariables false
set_option linter.unusedSimpArgs false
theorem KMap.tn {w w' : World} {P : Nat} {f : Nat → Int} {kb n : Nat} {D : DataW Value} {ls : List Acc} {j : Nat} {F : Nat → Prop} (h : KMap w P f kb n D ls j) (hl : Tn w w' F) (hT : ∀ k,F k → f k < 4) : KMap w' P f kb n D ls j:=by
  refine ⟨map_tn h.own hl (fun hF => by have:=hT _ hF;have:=h.fk;omega),fun p h0 hp => ?_,h.fk⟩
  obtain ⟨A,cc,h1,h2,h3⟩:=h.rows p h0 hp
  exact ⟨A,cc,h1,own_tn h2 hl (fun b hb hF => by have:=hT _ hF;have:=h3 b hb;omega),h3⟩
theorem KMap.relab {w : World} {P : Nat} {f g : Nat → Int} {kb n : Nat} {D : DataW Value} {ls : List Acc} {j : Nat} (h : KMap w P f kb n D ls j) (hg : ∀ k,P ≤ k → k < w.heap.size → g k = f k) (hkb : P ≤ kb) : KMap w P g kb n D ls j:=by
  refine ⟨h.own,fun p h0 hp => ?_,by rw [hg kb hkb h.own.lt];exact h.fk⟩
  obtain ⟨A,cc,h1,h2,h3⟩:=h.rows p h0 hp
  exact ⟨A,cc,h1,h2,fun b hb => by rw [hg b (h2.lt b hb).1 (h2.lt b hb).2];exact h3 b hb⟩
theorem num_cell {w : World} {B b n c : Nat} {k : IntKind} {e : TypeId} {xs : List Int} (h : w.ownsRow B e (Ei k).sz (.slice (some ⟨b,0,none⟩) n c) n (flat (Ei k) xs)) {j : Nat} (hj : j < n) (hl : xs.length = n) : w.cell? ⟨b,j,none⟩ = some (.int k (rd xs (j : Int))):=by
  have hx : xs[j]? = some xs[j]:=List.getElem?_eq_getElem (by omega)
  have:=own_cell (E:=Ei k) h j 0 _ hx (Nat.one_pos) (.int k xs[j]) rfl
  rw [show j * (Ei k).sz + 0 = j by simp [Ei]] at this
  rw [this]
  have : rd xs (j : Int) = xs[j]:=by simp [rd,List.getD_eq_getElem?_getD,List.getElem?_eq_getElem (show j < xs.length by omega)]
  rw [this]
theorem num_put {w : World} {B b n c : Nat} {k : IntKind} {e : TypeId} {xs : List Int} (h : w.ownsRow B e (Ei k).sz (.slice (some ⟨b,0,none⟩) n c) n (flat (Ei k) xs)) {j : Nat} (hj : j < n) (hl : xs.length = n) (y : Int) :
    (w.setCell ⟨b,j,none⟩ (.int k y)).ownsRow B e (Ei k).sz (.slice (some ⟨b,0,none⟩) n c) n (flat (Ei k) (xs.set j y)):=by
  have hx : xs[j]? = some xs[j]:=List.getElem?_eq_getElem (by omega)
  have:=own_put (E:=Ei k) h j 0 _ y (.int k y) hx (Nat.one_pos) rfl
  rwa [show j * (Ei k).sz + 0 = j by simp [Ei]] at this
theorem i64_wf {q : Int} (h0 : -9223372036854775808 ≤ q) (h1 : q ≤ 9223372036854775807) : (Lit.int .i64 q).wf = true:=by
  have a : IntKind.i64.min ≤ q:=by rw [show IntKind.i64.min = -9223372036854775808 by decide];exact h0
  have b : q ≤ IntKind.i64.max:=by rw [show IntKind.i64.max = 9223372036854775807 by decide];exact h1
  unfold Lit.wf
  simp only [decide_eq_true a,decide_eq_true b,Bool.and_self]
theorem rd_set_ne {xs : List Int} {q p : Nat} {y : Int} (h : q ≠ p) : rd (xs.set q y) (p : Int) = rd xs (p : Int):=by
  simp [rd,List.getD_eq_getElem?_getD,List.getElem?_set_ne h]
abbrev St2:=List Int × List Int
/-- What one child's turn writes ahead of its own walk. -/
def setV (ls : List Acc) (p : Int) (st : St2) (i : Int) : St2:=
  (st.1.set i.toNat (IntKind.u64.wrap (rd st.1 p * IntKind.u64.wrap (shV ls i))),st.2.set i.toNat (IntKind.u64.wrap (rd st.2 p * sisV ls (kidsV ls p ls.length))))
def foldV (g : Int → St2 → St2) (ls : List Acc) (p : Int) (ks : List Int) (st : St2) : St2:=ks.foldl (fun s i => g i (setV ls p s i)) st
/-- What stands while the fractions are written. -/
structure Shr (w : World) (P : Nat) (f : Nat → Int) (kb m : Nat) (D : DataW Value) (ls : List Acc) (ad : Addr) (n c g1 g2 g3 g4 g5 nb db : Nat) (fv : Value) : Prop where
  rd : Rd Ec w (some ad) n ls
  km : KMap w P f kb m D ls ls.length
  b1 : w.heap[g1]? = some (.cells #[.slice (some ad) n c] 24 (0,0))
  b2 : w.heap[g2]? = some (.cells #[.map (some kb)] 45 (0,0))
  b3 : w.heap[g3]? = some (.cells #[.slice (some ⟨nb,0,none⟩) n n] 27 (0,0))
  b4 : w.heap[g4]? = some (.cells #[.slice (some ⟨db,0,none⟩) n n] 27 (0,0))
  b5 : w.heap[g5]? = some (.cells #[fv] 48 (0,0))
  fa : f ad.block < 0
  f1 : f g1 = 2
  f2 : f g2 = 2
  f3 : f g3 = 2
  f4 : f g4 = 2
  f5 : f g5 = 2
  fn : f nb = 0
  fd : f db = 1
def F01 (f : Nat → Int) (k : Nat) : Prop:=f k = 0 ∨ f k = 1
theorem Shr.tn {w w' : World} {P : Nat} {f : Nat → Int} {kb m : Nat} {D : DataW Value} {ls : List Acc} {ad : Addr} {n c g1 g2 g3 g4 g5 nb db : Nat} {fv : Value} (h : Shr w P f kb m D ls ad n c g1 g2 g3 g4 g5 nb db fv) (t : Tn w w' (F01 f)) : Shr w' P f kb m D ls ad n c g1 g2 g3 g4 g5 nb db fv:=by
  have no2 : ∀ g,f g = 2 → ¬ F01 f g:=fun g hg hF => by rcases hF with e | e <;> omega
  refine ⟨h.rd.tn t (fun a ha _ hF => by cases ha;have:=h.fa;rcases hF with e | e <;> omega),h.km.tn t (fun k hF => by rcases hF with e | e <;> omega),blk_tn h.b1 t (no2 _ h.f1),blk_tn h.b2 t (no2 _ h.f2),blk_tn h.b3 t (no2 _ h.f3),blk_tn h.b4 t (no2 _ h.f4),blk_tn h.b5 t (no2 _ h.f5),h.fa,h.f1,h.f2,h.f3,h.f4,h.f5,h.fn,h.fd⟩
/-- What one walk answers and leaves. -/
def DownI (w : World) (Q : Nat) (f : Nat → Int) (n nb db : Nat) (st : St2) (e : Ending) (w' : World) : Prop:=
  e = .returned (.tuple #[]) ∧ st.1.length = n ∧ st.2.length = n ∧ w'.ownsRow Q 25 (Ei .u64).sz (.slice (some ⟨nb,0,none⟩) n n) n (flat (Ei .u64) st.1) ∧ w'.ownsRow Q 25 (Ei .u64).sz (.slice (some ⟨db,0,none⟩) n n) n (flat (Ei .u64) st.2) ∧ Tn w w' (F01 f)
def capsV (g1 g2 g3 g4 g5 : Nat) : Array Value:=#[.pointer (some ⟨g1,0,none⟩),.pointer (some ⟨g2,0,none⟩),.pointer (some ⟨g3,0,none⟩),.pointer (some ⟨g4,0,none⟩),.pointer (some ⟨g5,0,none⟩)]
set_option maxHeartbeats 8000000 in
set_option maxRecDepth 100000 in
theorem down_walk (P Q : Nat) (f : Nat → Int) (kb m : Nat) (D : DataW Value) (ls : List Acc) (ad : Addr) (n c g1 g2 g3 g4 g5 nb db : Nat) (g : Int → St2 → St2) (p : Nat) (hpn : p < n)
    (hin : ∀ k ∈ kidsV ls (p : Int) n,0 ≤ k ∧ k < n) (hnp : ∀ k ∈ kidsV ls (p : Int) n,k ≠ p)
    (IH : ∀ i ∈ kidsV ls (p : Int) n,∀ (w : World) (st : St2),Shr w P f kb m D ls ad n c g1 g2 g3 g4 g5 nb db (.func (.func 16) #[] (capsV g1 g2 g3 g4 g5)) → st.1.length = n → st.2.length = n → w.ownsRow Q 25 (Ei .u64).sz (.slice (some ⟨nb,0,none⟩) n n) n (flat (Ei .u64) st.1) → w.ownsRow Q 25 (Ei .u64).sz (.slice (some ⟨db,0,none⟩) n n) n (flat (Ei .u64) st.2) →
      Calls Tryd.prog 16 (#[.int .i64 i] ++ capsV g1 g2 g3 g4 g5) w (DownI w Q f n nb db (g i st)))
    (w : World) (st : St2) (hs : Shr w P f kb m D ls ad n c g1 g2 g3 g4 g5 nb db (.func (.func 16) #[] (capsV g1 g2 g3 g4 g5))) (h1 : st.1.length = n) (h2 : st.2.length = n)
    (ho : w.ownsRow Q 25 (Ei .u64).sz (.slice (some ⟨nb,0,none⟩) n n) n (flat (Ei .u64) st.1)) (hd : w.ownsRow Q 25 (Ei .u64).sz (.slice (some ⟨db,0,none⟩) n n) n (flat (Ei .u64) st.2)) :
    Calls Tryd.prog 16 (#[.int .i64 p] ++ capsV g1 g2 g3 g4 g5) w (DownI w Q f n nb db (foldV g ls (p : Int) (kidsV ls (p : Int) n) st)):=by
  have HLS:=Am (show ls.length = n from hs.rd.1)
  have hn64:=hs.rd.2.1
  have hpn2 : (p : Int) < (n : Int):=by omega
  have hpw : (Lit.int .i64 (p : Int)).wf = true:=i64_wf (by omega) (by omega)
  obtain ⟨A,cc,hat,hrow,hlab⟩:=hs.km.rows (p : Int) (by omega) hpw
  rw [HLS.out] at hat hrow hlab
  have hlk:=look_of hs.km.own hpw hat
  obtain ⟨ks,hks⟩ : ∃ ks,ks = kidsV ls (p : Int) n:=⟨_,rfl⟩
  have HKS:=Aside0.mk hks
  rw [← hks] at hin hnp IH hat hrow hlab hlk ⊢
  obtain ⟨r,hr⟩ : ∃ r,r = ks.length:=⟨_,rfl⟩
  have HRL:=Aside0.mk hr
  rw [← hr] at hat hrow hlab hlk
  have HB:=Aside0.mk hrow
  have HLB:=Aside0.mk hlab
  have HAT:=Aside0.mk hat
  obtain ⟨A',c',he,hrk,-,-⟩:=own_open hr.symm hrow
  injection he with e1 e2 e3
  subst e1 e3
  have HRK:=Aside0.mk hrk
  have hr64:=hrk.2.1
  have HSI:=Am (sisters_calls w ad n c ls A r cc ks hs.rd hrk hin)
  have HIN:=Aside0.mk hin
  have HNP:=Aside0.mk hnp
  have HIH:=Aside0.mk IH
  have HS:=Aside0.mk hs
  have HNB : Aside0 (nb ≠ db):=⟨fun e => by have h3:=hs.fn;have h4:=hs.fd;rw [e] at h3;omega⟩
  have HO:=Aside0.mk ho
  have HD:=Aside0.mk hd
  have HL1:=Aside0.mk h1
  have HL2:=Aside0.mk h2
  have k1:=cell_of (j:=0) hs.b1 rfl
  have k2:=cell_of (j:=0) hs.b2 rfl
  clear hrow hlab hat hks hr hrk hin hnp IH hs ho hd h1 h2 hpw
  show Calls Tryd.prog 16 #[.int .i64 p,.pointer (some ⟨g1,0,none⟩),.pointer (some ⟨g2,0,none⟩),.pointer (some ⟨g3,0,none⟩),.pointer (some ⟨g4,0,none⟩),.pointer (some ⟨g5,0,none⟩)] w _
  go_enter Tryd.func16,Tryd.ntmps16
  go_wp2_with fail
  refine (HSI.out).mono ?_
  rintro e w1 ⟨rfl,rfl⟩
  obtain ⟨all,hall⟩ : ∃ all,all = sisV ls ks:=⟨_,rfl⟩
  have HALL:=Aside0.mk hall
  rw [← hall]
  clear hall HSI
  go_wp2_with fail
  go_loopg [19] r (fun k v19 wr => ∃ (j : Nat) (s : St2),v19 = .int .i64 j ∧ Aside0 (j + k = r) ∧ j ≤ r ∧ Aside0 (foldV g ls (p : Int) (ks.take j) st = s) ∧ Aside0 (s.1.length = n) ∧ Aside0 (s.2.length = n) ∧ Aside0 (wr.ownsRow Q 25 (Ei .u64).sz (.slice (some ⟨nb,0,none⟩) n n) n (flat (Ei .u64) s.1)) ∧ Aside0 (wr.ownsRow Q 25 (Ei .u64).sz (.slice (some ⟨db,0,none⟩) n n) n (flat (Ei .u64) s.2)) ∧ Aside0 (Tn w wr (F01 f)))
  case atStart => exact ⟨0,st,rfl,⟨by omega⟩,by omega,⟨rfl⟩,HL1,HL2,HO,HD,⟨Tn.refl _ _⟩⟩
  case round =>
    clear HO HD HL1 HL2 k1 k2 hlk
    obtain ⟨j,⟨ns,ds⟩,rfl,HDJ,hj,HE,HLN,HLD,HN,HDD,HT⟩:=hrel
    cases gk with
    | zero =>
      obtain rfl : j = r:=by have:=HDJ.out;omega
      go_wp2
      go_end0
      refine ⟨rfl,?_⟩
      have hE:=HE.out
      rw [List.take_of_length_le (by rw [HRL.out];exact Nat.le_refl _)] at hE
      rw [hE]
      exact ⟨HLN.out,HLD.out,HN.out,HDD.out,HT.out⟩
    | succ d =>
      have hlt : j < r:=by have:=HDJ.out;omega
      have hlt1 : decide ((j : Int) < (r : Int)) = true:=decide_eq_true (by omega)
      have hji : (j : Int) < (r : Int):=by omega
      have hjl : j < ks.length:=by rw [← HRL.out];exact hlt
      have HS1:=Am (HS.out.tn HT.out)
      have HRK1:=Am (HRK.out.tn HT.out (fun a ha h0 hF => by
        subst ha
        have h3:=HLB.out a.block
        have hform:=(own_form HB.out).2 a rfl
        rw [hform] at h3
        have h4:=h3 rfl
        simp at h4
        rcases hF with e | e <;> omega))
      obtain ⟨bd,rfl,hcj⟩:=HRK1.out.int j hlt
      have hmem : rd ks (j : Int) ∈ ks:=by
        have : rd ks (j : Int) = ks[j]:=by simp [rd,List.getD_eq_getElem?_getD,List.getElem?_eq_getElem hjl]
        rw [this];exact List.getElem_mem hjl
      obtain ⟨hq0,hq1⟩:=HIN.out _ hmem
      have hqp0:=HNP.out _ hmem
      have HCI:=HIH.out _ hmem
      obtain ⟨q,hq⟩ : ∃ q : Nat,rd ks (j : Int) = q:=⟨(rd ks (j : Int)).toNat,by omega⟩
      have HST:=Am (show foldV g ls (p : Int) (ks.take (j + 1)) st = g (q : Int) (setV ls (p : Int) (ns,ds) (q : Int)) by rw [take_snoc hjl,hq,← HE.out];unfold foldV;rw [List.foldl_append];rfl)
      rw [hq] at hcj HCI hqp0
      have hqp : q ≠ p:=fun e => hqp0 (by rw [e])
      have HCQ:=Aside0.mk HCI
      have hqn : q < n:=by omega
      have hqn2 : (q : Int) < (n : Int):=by omega
      clear hmem hq0 hq1 hq HCI hqp0
      go_upto_region 4 with (fail)
      have HSd:=Am (HS1.out.tn (Tn.drew wr _))
      have HNd:=Am (own_kept HN.out (gb_drew wr none) (by simp))
      have HDd:=Am (own_kept HDD.out (gb_drew wr none) (by simp))
      have hcn:=num_cell HN.out hqn HLN.out
      have hcd : ∀ v,(wr.setCell ⟨nb,q,none⟩ v).cell? ⟨db,q,none⟩ = some (.int .u64 (rd ds (q : Int))):=fun v => num_cell (own_tn HDD.out (Tn.set nb q _ (F:=fun k => k = nb) rfl) (fun k hk e => by cases hk;exact HNB.out e.symm)) hqn HLD.out
      have hfn:=own_frozen HN.out q
      have hfd:=own_frozen HDD.out q
      refine start_ (n:=25) (S:=fun w' => w'.cell? ⟨g1,0,none⟩ = some (.slice (some ad) n c) ∧ w'.cell? ⟨g3,0,none⟩ = some (.slice (some ⟨nb,0,none⟩) n n) ∧ w'.cell? ⟨g4,0,none⟩ = some (.slice (some ⟨db,0,none⟩) n n) ∧ w'.cell? ⟨nb,p,none⟩ = some (.int .u64 (rd ns (p : Int))) ∧ w'.cell? ⟨db,p,none⟩ = some (.int .u64 (rd ds (p : Int))) ∧ w'.cell? ⟨(ad.add (q * 5)).block,(ad.add (q * 5)).off + 2,none⟩ = some (.int .i64 (shV ls (q : Int)))) (ds:=[24]) #[nn,nn,nn,nn,nn,nn,nn,nn,nn,nn,nn,nn,nn,nn,nn,nn,nn,nn,nn,nn,nn,nn,nn,nn,nn] (by kernel_rfl) rfl rfl ⟨cell_of (j:=0) HSd.out.b1 rfl,cell_of (j:=0) HSd.out.b3 rfl,cell_of (j:=0) HSd.out.b4 rfl,num_cell HNd.out hpn HLN.out,num_cell HDd.out hpn HLD.out,sh_cell HSd.out.rd hqn⟩ (fun hHeld => ?_)
      refine pure_ (i:=1) (N:=some 24) (v:=?_) (a':=?_) #[nn,yy,nn,nn,nn,nn,nn,nn,nn,nn,nn,nn,nn,nn,nn,nn,nn,nn,nn,nn,nn,nn,nn,nn,nn] rfl rfl (by kernel_rfl) (fun _ _ _ h => h) (Or.inl ⟨by rfl,?_⟩) ?_ ?_
      rotate_left
      · intro w'
        go_simp
        with_reducible rfl
      rotate_left
      · simp only [NR]
        rfl
      refine pure_ (i:=3) (N:=some 26) (v:=?_) (a':=?_) #[nn,yy,nn,yy,nn,nn,nn,nn,nn,nn,nn,nn,nn,nn,nn,nn,nn,nn,nn,nn,nn,nn,nn,nn,nn] rfl rfl (by kernel_rfl) (fun _ _ _ h => h) (Or.inl ⟨by rfl,?_⟩) ?_ ?_
      rotate_left
      · intro w'
        go_simp
        with_reducible rfl
      rotate_left
      · simp only [NR]
        rfl
      refine pure_ (i:=5) (N:=some 28) (v:=?_) (a':=?_) #[nn,yy,nn,yy,nn,yy,nn,nn,nn,nn,nn,nn,nn,nn,nn,nn,nn,nn,nn,nn,nn,nn,nn,nn,nn] rfl rfl (by kernel_rfl) (fun _ _ _ h => h) (Or.inl ⟨by rfl,?_⟩) ?_ ?_
      rotate_left
      · intro w'
        go_simp
        with_reducible rfl
      rotate_left
      · simp only [NR]
        rfl
      refine pure_ (i:=9) (N:=some 32) (v:=?_) (a':=?_) #[nn,yy,nn,yy,nn,yy,nn,nn,nn,yy,nn,nn,nn,nn,nn,nn,nn,nn,nn,nn,nn,nn,nn,nn,nn] rfl rfl (by kernel_rfl) (fun _ _ _ h => h) (Or.inl ⟨by rfl,?_⟩) ?_ ?_
      rotate_left
      · intro w'
        go_simp
        with_reducible rfl
      rotate_left
      · simp only [NR]
        rfl
      refine pure_ (i:=16) (N:=some 39) (v:=?_) (a':=?_) #[nn,yy,nn,yy,nn,yy,nn,nn,nn,yy,nn,nn,nn,nn,nn,nn,yy,nn,nn,nn,nn,nn,nn,nn,nn] rfl rfl (by kernel_rfl) (fun _ _ _ h => h) (Or.inl ⟨by rfl,?_⟩) ?_ ?_
      rotate_left
      · intro w'
        go_simp
        with_reducible rfl
      rotate_left
      · simp only [NR]
        rfl
      refine pure_ (i:=19) (N:=some 42) (v:=?_) (a':=?_) #[nn,yy,nn,yy,nn,yy,nn,nn,nn,yy,nn,nn,nn,nn,nn,nn,yy,nn,nn,yy,nn,nn,nn,nn,nn] rfl rfl (by kernel_rfl) (fun _ _ _ h => h) (Or.inl ⟨by rfl,?_⟩) ?_ ?_
      rotate_left
      · intro w'
        go_simp
        with_reducible rfl
      rotate_left
      · simp only [NR]
        rfl
      refine take_ (i:=0) (N:=some 23) (v:=?_) (a':=?_) #[yy,yy,nn,yy,nn,yy,nn,nn,nn,yy,nn,nn,nn,nn,nn,nn,yy,nn,nn,yy,nn,nn,nn,nn,nn] rfl rfl (by kernel_rfl) (fun _ _ _ h => h) (Or.inl ⟨by rfl,?_⟩) hHeld ?_ ?_
      rotate_left
      · rintro w' ⟨s0,s1,s2,s3,s4,s5⟩
        go_simp
        with_reducible rfl
      rotate_left
      · simp only [NR]
        rfl
      refine take_ (i:=2) (N:=some 25) (v:=?_) (a':=?_) #[yy,yy,yy,yy,nn,yy,nn,nn,nn,yy,nn,nn,nn,nn,nn,nn,yy,nn,nn,yy,nn,nn,nn,nn,nn] rfl rfl (by kernel_rfl) (fun _ _ _ h => h) (Or.inl ⟨by rfl,?_⟩) hHeld ?_ ?_
      rotate_left
      · rintro w' ⟨s0,s1,s2,s3,s4,s5⟩
        go_simp
        with_reducible rfl
      rotate_left
      · simp only [NR]
        rfl
      refine take_ (i:=4) (N:=some 27) (v:=?_) (a':=?_) #[yy,yy,yy,yy,yy,yy,nn,nn,nn,yy,nn,nn,nn,nn,nn,nn,yy,nn,nn,yy,nn,nn,nn,nn,nn] rfl rfl (by kernel_rfl) (fun _ _ _ h => h) (Or.inl ⟨by rfl,?_⟩) hHeld ?_ ?_
      rotate_left
      · rintro w' ⟨s0,s1,s2,s3,s4,s5⟩
        go_simp
        with_reducible rfl
      rotate_left
      · simp only [NR]
        rfl
      refine pure_ (i:=6) (N:=some 29) (v:=?_) (a':=?_) #[yy,yy,yy,yy,yy,yy,yy,nn,nn,yy,nn,nn,nn,nn,nn,nn,yy,nn,nn,yy,nn,nn,nn,nn,nn] rfl rfl (by kernel_rfl) (fun _ _ _ h => h) (Or.inl ⟨by rfl,?_⟩) ?_ ?_
      rotate_left
      · intro w'
        go_simp
        with_reducible rfl
      rotate_left
      · simp only [NR]
        rfl
      refine take_ (i:=7) (N:=some 30) (v:=?_) (a':=?_) #[yy,yy,yy,yy,yy,yy,yy,yy,nn,yy,nn,nn,nn,nn,nn,nn,yy,nn,nn,yy,nn,nn,nn,nn,nn] rfl rfl (by kernel_rfl) (fun _ _ _ h => h) (Or.inl ⟨by rfl,?_⟩) hHeld ?_ ?_
      rotate_left
      · rintro w' ⟨s0,s1,s2,s3,s4,s5⟩
        go_simp
        with_reducible rfl
      rotate_left
      · simp only [NR]
        rfl
      refine take_ (i:=8) (N:=some 31) (v:=?_) (a':=?_) #[yy,yy,yy,yy,yy,yy,yy,yy,yy,yy,nn,nn,nn,nn,nn,nn,yy,nn,nn,yy,nn,nn,nn,nn,nn] rfl rfl (by kernel_rfl) (fun _ _ _ h => h) (Or.inl ⟨by rfl,?_⟩) hHeld ?_ ?_
      rotate_left
      · rintro w' ⟨s0,s1,s2,s3,s4,s5⟩
        go_simp
        with_reducible rfl
      rotate_left
      · simp only [NR]
        rfl
      refine pure_ (i:=10) (N:=some 33) (v:=?_) (a':=?_) #[yy,yy,yy,yy,yy,yy,yy,yy,yy,yy,yy,nn,nn,nn,nn,nn,yy,nn,nn,yy,nn,nn,nn,nn,nn] rfl rfl (by kernel_rfl) (fun _ _ _ h => h) (Or.inl ⟨by rfl,?_⟩) ?_ ?_
      rotate_left
      · intro w'
        go_simp
        with_reducible rfl
      rotate_left
      · simp only [NR]
        rfl
      refine pure_ (i:=11) (N:=some 34) (v:=?_) (a':=?_) #[yy,yy,yy,yy,yy,yy,yy,yy,yy,yy,yy,yy,nn,nn,nn,nn,yy,nn,nn,yy,nn,nn,nn,nn,nn] rfl rfl (by kernel_rfl) (fun _ _ _ h => h) (Or.inl ⟨by rfl,?_⟩) ?_ ?_
      rotate_left
      · intro w'
        go_simp
        with_reducible rfl
      rotate_left
      · simp only [NR]
        rfl
      refine take_ (i:=12) (N:=some 35) (v:=?_) (a':=?_) #[yy,yy,yy,yy,yy,yy,yy,yy,yy,yy,yy,yy,yy,nn,nn,nn,yy,nn,nn,yy,nn,nn,nn,nn,nn] rfl rfl (by kernel_rfl) (fun _ _ _ h => h) (Or.inl ⟨by rfl,?_⟩) hHeld ?_ ?_
      rotate_left
      · rintro w' ⟨s0,s1,s2,s3,s4,s5⟩
        go_simp
        with_reducible rfl
      rotate_left
      · simp only [NR]
        rfl
      refine pure_ (i:=13) (N:=some 36) (v:=?_) (a':=?_) #[yy,yy,yy,yy,yy,yy,yy,yy,yy,yy,yy,yy,yy,yy,nn,nn,yy,nn,nn,yy,nn,nn,nn,nn,nn] rfl rfl (by kernel_rfl) (fun _ _ _ h => h) (Or.inl ⟨by rfl,?_⟩) ?_ ?_
      rotate_left
      · intro w'
        go_simp
        with_reducible rfl
      rotate_left
      · simp only [NR]
        rfl
      refine pure_ (i:=14) (N:=some 37) (v:=?_) (a':=?_) #[yy,yy,yy,yy,yy,yy,yy,yy,yy,yy,yy,yy,yy,yy,yy,nn,yy,nn,nn,yy,nn,nn,nn,nn,nn] rfl rfl (by kernel_rfl) (fun _ _ _ h => h) (Or.inl ⟨by rfl,?_⟩) ?_ ?_
      rotate_left
      · intro w'
        go_simp
        with_reducible rfl
      rotate_left
      · simp only [NR]
        rfl
      refine take_ (i:=15) (N:=some 38) (v:=?_) (a':=?_) #[yy,yy,yy,yy,yy,yy,yy,yy,yy,yy,yy,yy,yy,yy,yy,yy,yy,nn,nn,yy,nn,nn,nn,nn,nn] rfl rfl (by kernel_rfl) (fun _ _ _ h => h) (Or.inl ⟨by rfl,?_⟩) hHeld ?_ ?_
      rotate_left
      · rintro w' ⟨s0,s1,s2,s3,s4,s5⟩
        go_simp
        with_reducible rfl
      rotate_left
      · simp only [NR]
        rfl
      refine pure_ (i:=17) (N:=some 40) (v:=?_) (a':=?_) #[yy,yy,yy,yy,yy,yy,yy,yy,yy,yy,yy,yy,yy,yy,yy,yy,yy,yy,nn,yy,nn,nn,nn,nn,nn] rfl rfl (by kernel_rfl) (fun _ _ _ h => h) (Or.inl ⟨by rfl,?_⟩) ?_ ?_
      rotate_left
      · intro w'
        go_simp
        with_reducible rfl
      rotate_left
      · simp only [NR]
        rfl
      refine take_ (i:=18) (N:=some 41) (v:=?_) (a':=?_) #[yy,yy,yy,yy,yy,yy,yy,yy,yy,yy,yy,yy,yy,yy,yy,yy,yy,yy,yy,yy,nn,nn,nn,nn,nn] rfl rfl (by kernel_rfl) (fun _ _ _ h => h) (Or.inl ⟨by rfl,?_⟩) hHeld ?_ ?_
      rotate_left
      · rintro w' ⟨s0,s1,s2,s3,s4,s5⟩
        go_simp
        with_reducible rfl
      rotate_left
      · simp only [NR]
        rfl
      refine pure_ (i:=20) (N:=some 43) (v:=?_) (a':=?_) #[yy,yy,yy,yy,yy,yy,yy,yy,yy,yy,yy,yy,yy,yy,yy,yy,yy,yy,yy,yy,yy,nn,nn,nn,nn] rfl rfl (by kernel_rfl) (fun _ _ _ h => h) (Or.inl ⟨by rfl,?_⟩) ?_ ?_
      rotate_left
      · intro w'
        go_simp
        with_reducible rfl
      rotate_left
      · simp only [NR]
        rfl
      refine pure_ (i:=21) (N:=some 44) (v:=?_) (a':=?_) #[yy,yy,yy,yy,yy,yy,yy,yy,yy,yy,yy,yy,yy,yy,yy,yy,yy,yy,yy,yy,yy,yy,nn,nn,nn] rfl rfl (by kernel_rfl) (fun _ _ _ h => h) (Or.inl ⟨by rfl,?_⟩) ?_ ?_
      rotate_left
      · intro w'
        go_simp
        with_reducible rfl
      rotate_left
      · simp only [NR]
        rfl
      refine one_ (i:=22) (N:=none) #[yy,yy,yy,yy,yy,yy,yy,yy,yy,yy,yy,yy,yy,yy,yy,yy,yy,yy,yy,yy,yy,yy,yy,nn,nn] rfl rfl (by kernel_rfl) (by decide) (fun K hK => ?_)
      refine skip_ (w1:=?_) (by rfl) rfl ?_ ?_
      rotate_left
      · go_simp
        rfl
      refine hK.out _ _ ⟨cell_of (j:=0) (HSd.out.tn (Tn.set nb q _ (Or.inl HSd.out.fn))).b1 rfl,cell_of (j:=0) (HSd.out.tn (Tn.set nb q _ (Or.inl HSd.out.fn))).b3 rfl,cell_of (j:=0) (HSd.out.tn (Tn.set nb q _ (Or.inl HSd.out.fn))).b4 rfl,(num_cell (num_put HNd.out hqn HLN.out _) hpn (by simpa using HLN.out)).trans (by rw [rd_set_ne hqp]),num_cell (own_tn HDd.out (Tn.set nb q _ (F:=fun k => k = nb) rfl) (fun k hk e => by cases hk;exact HNB.out e.symm)) hpn HLD.out,sh_cell (HSd.out.tn (Tn.set nb q _ (Or.inl HSd.out.fn))).rd hqn⟩ (fun hHeld => ?_)
      clear hK K
      refine pure_ (i:=23) (N:=some 45) (v:=?_) (a':=?_) #[yy,yy,yy,yy,yy,yy,yy,yy,yy,yy,yy,yy,yy,yy,yy,yy,yy,yy,yy,yy,yy,yy,yy,yy,nn] rfl rfl (by kernel_rfl) (fun _ _ _ h => h) (Or.inl ⟨by rfl,?_⟩) ?_ ?_
      rotate_left
      · intro w'
        go_simp
        with_reducible rfl
      rotate_left
      · simp only [NR]
        rfl
      refine last_ (i:=24) (N:=none) #[yy,yy,yy,yy,yy,yy,yy,yy,yy,yy,yy,yy,yy,yy,yy,yy,yy,yy,yy,yy,yy,yy,yy,yy,yy] rfl rfl (by kernel_rfl) (by decide) (fun K hK => ?_)
      refine skip_ (w1:=?_) (by rfl) rfl ?_ ?_
      rotate_left
      · go_simp
        rfl
      refine hK.out _ _ ?_
      clear hK K
      refine done_ (by kernel_rfl) ?_
      obtain ⟨X,hX⟩ : ∃ X,X = IntKind.u64.wrap (rd ns (p : Int) * IntKind.u64.wrap (shV ls (q : Int))):=⟨_,rfl⟩
      obtain ⟨Y,hY⟩ : ∃ Y,Y = IntKind.u64.wrap (rd ds (p : Int) * all):=⟨_,rfl⟩
      have HXY:=Am (show setV ls (p : Int) (ns,ds) (q : Int) = (ns.set q X,ds.set q Y) by rw [hX,hY,HALL.out,HKS.out,← HLS.out];rfl)
      rw [← hX,← hY]
      have HN3:=Am (own_kept (own_tn (num_put HN.out hqn HLN.out X) (Tn.set db q (.int .u64 Y) (F:=fun k => k = db) rfl) (fun k hk e => by cases hk;exact HNB.out e)) (gb_drew _ none) (by simp))
      have HD3:=Am (own_kept (num_put (own_tn HDD.out (Tn.set nb q (.int .u64 X) (F:=fun k => k = nb) rfl) (fun k hk e => by cases hk;exact HNB.out e.symm)) hqn HLD.out Y) (gb_drew _ none) (by simp))
      have HT3:=Am (HT.out.trans' (((Tn.set nb q (.int .u64 X) (Or.inl HSd.out.fn)).trans' (Tn.set db q (.int .u64 Y) (Or.inr HSd.out.fd))).trans' (Tn.drew _ (F01 f))))
      generalize ((wr.setCell { block:=nb,off:=q } (.int .u64 X)).setCell { block:=db,off:=q } (.int .u64 Y)).drew = w3 at HN3 HD3 HT3 ⊢
      have HS3:=Am (HS.out.tn HT3.out)
      have hc5:=cell_of (j:=0) HS3.out.b5 rfl
      clear hX hY hcn hcd hfn hfd hcj
      go_wp2_with fail
      refine (HCQ.out w3 (setV ls (p : Int) (ns,ds) (q : Int)) HS3.out (by rw [HXY.out];simpa using HLN.out) (by rw [HXY.out];simpa using HLD.out) (by rw [HXY.out];exact HN3.out) (by rw [HXY.out];exact HD3.out)).mono ?_
      rintro e w4 ⟨rfl,e1,e2,e3,e4,e5⟩
      have HE1:=Aside0.mk e1
      have HE2:=Aside0.mk e2
      have HE3:=Aside0.mk e3
      have HE4:=Aside0.mk e4
      have HE5:=Aside0.mk e5
      clear e1 e2 e3 e4 e5 HCQ hc5
      go_wp2_with fail
      go_roundg d
      case measure => omega
      case rel => exact ⟨j + 1,_,by go_num,⟨by have:=HDJ.out;omega⟩,by omega,⟨HST.out⟩,HE1,HE2,HE3,HE4,⟨HT3.out.trans' HE5.out⟩⟩
/-- What the walk down from p writes,as far as k deep. -/
def downV (ls : List Acc) : Nat → Int → St2 → St2
  | 0,_,st => st
  | k + 1,p,st => foldV (downV ls k) ls p (kidsV ls p ls.length) st
theorem down_calls (P Q : Nat) (f : Nat → Int) (kb m : Nat) (D : DataW Value) (ls : List Acc) (ad : Addr) (n c g1 g2 g3 g4 g5 nb db : Nat) (hln : ls.length = n)
    (hin : ∀ p k,k ∈ kidsV ls p n → 0 ≤ k ∧ k < n) (hd : ∀ p k,0 ≤ p → k ∈ kidsV ls p n → depV ls k = depV ls p + 1) (h4 : ∀ p : Int,0 ≤ p → p < n → depV ls p ≤ 4) :
    ∀ (k : Nat) (p : Int),0 ≤ p → p < n → 5 ≤ depV ls p + k → ∀ (w : World) (st : St2),Shr w P f kb m D ls ad n c g1 g2 g3 g4 g5 nb db (.func (.func 16) #[] (capsV g1 g2 g3 g4 g5)) → st.1.length = n → st.2.length = n → w.ownsRow Q 25 (Ei .u64).sz (.slice (some ⟨nb,0,none⟩) n n) n (flat (Ei .u64) st.1) → w.ownsRow Q 25 (Ei .u64).sz (.slice (some ⟨db,0,none⟩) n n) n (flat (Ei .u64) st.2) →
      Calls Tryd.prog 16 (#[.int .i64 p] ++ capsV g1 g2 g3 g4 g5) w (DownI w Q f n nb db (downV ls k p st)):=by
  intro k
  induction k with
  | zero => intro p h0 h1 hk;have:=h4 p h0 h1;omega
  | succ k ih =>
    intro p h0 h1 hk w st hs l1 l2 o1 o2
    obtain ⟨q,rfl⟩ : ∃ q : Nat,p = q:=⟨p.toNat,by omega⟩
    rw [show downV ls (k + 1) (q : Int) st = foldV (downV ls k) ls (q : Int) (kidsV ls (q : Int) n) st by rw [downV,hln]]
    exact down_walk P Q f kb m D ls ad n c g1 g2 g3 g4 g5 nb db (downV ls k) q (by omega) (hin q) (fun k' hk' e => by have:=hd q k' h0 hk';rw [e] at this;omega)
      (fun i hi w' st' h l1' l2' o1' o2' => ih i (hin q i hi).1 (hin q i hi).2 (by have:=hd q i h0 hi;omega) w' st' h l1' l2' o1' o2') w st hs l1 l2 o1 o2
end Go.Proofs.YtbhijfbjdbjpbaaDoor.T
namespace Go.Proofs.YtbhijfbjdbjpbaaDoor.T
open Go.RowKit Go.Proofs.YtbhijfbjdbjpbaaDoorW.PrintWords Go.Proofs.YtbhijfbjdbjpbaaDoorW.PrintLast Go.Proofs.YtbhijfbjdbjpbaaDoor.H Go.Maps
set_option linter.unusedVariables false
set_option linter.unusedSimpArgs false
theorem parV_lt {ls : List Acc} {m : Nat} (h : m < ls.length) : (ls.map Acc.par).getD m (-1) = parV ls (m : Int):=by
  unfold parV
  rw [Int.toNat_natCast,List.getD_eq_getElem?_getD,List.getD_eq_getElem?_getD,List.getElem?_map,List.getElem?_eq_getElem h];rfl
theorem parV_at {ls : List Acc} {m : Nat} {a : Acc} (h : ls[m]? = some a) : parV ls (m : Int) = a.par:=by
  unfold parV
  rw [Int.toNat_natCast,List.getD_eq_getElem?_getD,List.getElem?_map,h];rfl
theorem shV_at {ls : List Acc} {m : Nat} {a : Acc} (h : ls[m]? = some a) : shV ls (m : Int) = a.sh:=by
  unfold shV
  rw [Int.toNat_natCast,List.getD_eq_getElem?_getD,List.getElem?_map,h];rfl
theorem kids_mem {ls : List Acc} {p k : Int} : ∀ {j : Nat},j ≤ ls.length → (k ∈ kidsV ls p j ↔ 0 ≤ k ∧ k < j ∧ parV ls k = p)
  | 0,_ => by simp [kidsV];omega
  | j + 1,h => by
    have ih:=kids_mem (ls:=ls) (p:=p) (k:=k) (j:=j) (by omega)
    rw [kidsV,parV_lt (by omega : j < ls.length)]
    by_cases e : parV ls (j : Int) = p
    · rw [if_pos ⟨e,by omega⟩,List.mem_append,ih,List.mem_singleton]
      constructor
      · rintro (⟨a,b,c⟩ | rfl)
        · exact ⟨a,by omega,c⟩
        · exact ⟨by omega,by omega,e⟩
      · rintro ⟨a,b,c⟩
        by_cases hk : k = j
        · exact .inr hk
        · exact .inl ⟨a,by omega,c⟩
    · rw [if_neg (fun h => e h.1),ih]
      constructor
      · rintro ⟨a,b,c⟩
        exact ⟨a,by omega,c⟩
      · rintro ⟨a,b,c⟩
        refine ⟨a,?_,c⟩
        by_cases hk : k = j
        · rw [hk] at c;exact absurd c e
        · omega
/-- A list that Load takes. -/
structure Tree (ls : List Acc) : Prop where
  pos : 0 < ls.length
  le : ls.length ≤ 64
  root : (ls.map Acc.par).getD 0 0 = -1
  pars : Pars ls
  dep : ∀ n : Nat,n < ls.length → 0 ≤ depV ls n ∧ depV ls n ≤ 4
  sh : ∀ n : Nat,n < ls.length → 1 ≤ shV ls n ∧ shV ls n ≤ 4096
theorem rows_sh {ls : List Acc} : ∀ (k i : Nat),i + k = ls.length → rowsE ls k i = 0 → ∀ (n : Nat),i ≤ n → n < ls.length → shB (shV ls n) = true
  | 0,i,hk,_,n,h1,h2 => by omega
  | k + 1,i,hk,h,n,h1,h2 => by
    have hi : i < ls.length:=by omega
    rw [rowsE,List.getElem?_eq_getElem hi] at h
    simp only at h
    by_cases hr : rowE ls i ls[i] = 0
    · rw [if_pos hr] at h
      rcases Nat.eq_or_lt_of_le h1 with e | e
      · subst e
        rw [shV_at (List.getElem?_eq_getElem hi)]
        unfold rowE at hr
        split at hr
        · cases hr
        · split at hr
          · cases hr
          · split at hr
            · cases hr
            · split at hr
              · cases hr
              · rename_i e;simpa using e
      · exact rows_sh k (i + 1) (by omega) h n e h2
    · rw [if_neg hr] at h;exact absurd h hr
theorem deps_ok {ls : List Acc} : ∀ (k i : Nat),depsE ls k i = 0 → ∀ n,i ≤ n → n < i + k → depE ls n = 0
  | 0,i,_,n,h1,h2 => by omega
  | k + 1,i,h,n,h1,h2 => by
    rw [depsE] at h
    by_cases e : depE ls i = 0
    · rw [if_pos e] at h
      rcases Nat.eq_or_lt_of_le h1 with q | q
      · rw [← q];exact e
      · exact deps_ok k (i + 1) h n q (by omega)
    · rw [if_neg e] at h;exact absurd h e
theorem tree_of {ls : List Acc} (h : loadE ls = 0) : Tree ls:=by
  match ls,h with
  | [],h => cases h
  | a :: r,h =>
    unfold loadE at h
    simp only at h
    split at h
    · cases h
    · rename_i h1
      split at h
      · cases h
      · rename_i h2
        split at h
        · rename_i h3
          have hr:=accEq_iff (a:=zeroU a) (b:=rootA) (by cases he : accEq (zeroU a) rootA with | true => rfl | false => exact absurd he h1)
          have hp : a.par = -1:=congrArg Acc.par hr
          have hs : a.sh = 1:=congrArg Acc.sh hr
          refine ⟨by simp,by omega,by simp [hp],load_pars (by simpa using h3) (by simp),fun n hn => ?_,fun n hn => ?_⟩
          · have:=deps_ok _ _ h n (by omega) (by omega)
            unfold depE at this
            split at this
            · cases this
            · split at this
              · cases this
              · omega
          · by_cases h0 : n = 0
            · subst h0
              have:=shV_at (ls:=a :: r) (m:=0) rfl
              rw [this,hs];omega
            · have:=rows_sh (ls:=a :: r) r.length 1 (by simp;omega) h3 n (by omega) hn
              unfold shB at this
              simp at this
              exact this
        · rename_i h3;exact absurd h h3
theorem depL_more {ls : List Acc} : ∀ (k : Nat) (d n : Int),0 ≤ d → 0 ≤ depL ls k d n → depL ls (k + 1) d n = depL ls k d n
  | 0,d,n,_,h => by simp [depL] at h
  | k + 1,d,n,hd,h => by
    rw [depL] at h
    rw [depL]
    conv => rhs;rw [depL]
    by_cases e : n = 0
    · rw [if_pos e,if_pos e]
    · rw [if_neg e] at h ⊢
      rw [if_neg e]
      exact depL_more k (d + 1) _ (by omega) h
theorem depL_shift {ls : List Acc} : ∀ (k : Nat) (d n : Int),0 ≤ d → 0 ≤ depL ls k (d + 1) n → depL ls k d n = depL ls k (d + 1) n - 1 ∧ d ≤ depL ls k d n
  | 0,d,n,_,h => by simp [depL] at h
  | k + 1,d,n,hd,h => by
    rw [depL] at h ⊢
    conv => lhs;rhs;rw [depL]
    by_cases e : n = 0
    · rw [if_pos e,if_pos e];omega
    · rw [if_neg e] at h ⊢
      rw [if_neg e]
      have:=depL_shift k (d + 1) _ (by omega) h
      omega
theorem Tree.par {ls : List Acc} (t : Tree ls) {n : Int} (h0 : 0 < n) (h1 : n < ls.length) : 0 ≤ parV ls n ∧ parV ls n < ls.length ∧ depV ls n = depV ls (parV ls n) + 1:=by
  obtain ⟨a,b⟩:=t.pars n h0 h1
  refine ⟨a,b,?_⟩
  have hd:=t.dep n.toNat (by omega)
  rw [Int.toNat_of_nonneg (by omega)] at hd
  have e : depV ls n = depL ls ls.length (0 + 1) (parV ls n):=by
    unfold depV
    rw [depL,if_neg (by omega)]
  have hs:=depL_shift (ls:=ls) ls.length 0 (parV ls n) (by omega) (by omega)
  have hm:=depL_more ls.length 0 (parV ls n) (by omega) hs.2
  have e2 : depV ls (parV ls n) = depL ls (ls.length + 1) 0 (parV ls n):=rfl
  omega
theorem dep_zero {ls : List Acc} {n : Int} (h : depV ls n = 0) : n = 0:=by
  by_cases e : n = 0
  · exact e
  · exfalso
    unfold depV at h
    rw [depL,if_neg e] at h
    have:=depL_shift (ls:=ls) ls.length 0 (parV ls n) (by omega) (by omega)
    omega
theorem dep_root (ls : List Acc) : depV ls 0 = 0:=by unfold depV;rw [depL,if_pos rfl]
theorem Tree.par0 {ls : List Acc} (t : Tree ls) : parV ls 0 = -1:=t.root
/-- Who is among the children of whom. -/
theorem Tree.kid {ls : List Acc} (t : Tree ls) {p k : Int} (hp : 0 ≤ p) (h : k ∈ kidsV ls p ls.length) : 0 < k ∧ k < ls.length ∧ parV ls k = p ∧ depV ls k = depV ls p + 1:=by
  obtain ⟨a,b,c⟩:=(kids_mem (Nat.le_refl _)).1 h
  have h0 : 0 < k:=by
    by_cases e : k = 0
    · rw [e,t.par0] at c;omega
    · omega
  obtain ⟨_,_,d⟩:=t.par h0 b
  exact ⟨h0,b,c,by rw [d,c]⟩
/-- i lies below p,at most k steps. -/
def Rch (ls : List Acc) : Nat → Int → Int → Prop
  | 0,_,_ => False
  | k + 1,p,i => i ∈ kidsV ls p ls.length ∨ ∃ j ∈ kidsV ls p ls.length,Rch ls k j i
theorem Rch.snoc {ls : List Acc} : ∀ {k : Nat} {p j i : Int},Rch ls k p j → i ∈ kidsV ls j ls.length → Rch ls (k + 1) p i
  | 0,_,_,_,h,_ => h.elim
  | k + 1,p,j,i,h,hi => by
    rcases h with h | ⟨x,hx,h⟩
    · refine .inr ⟨j,h,?_⟩
      cases k with
      | zero => exact .inl hi
      | succ k => exact .inl hi
    · exact .inr ⟨x,hx,Rch.snoc h hi⟩
theorem Rch.more {ls : List Acc} : ∀ {k : Nat} {p i : Int},Rch ls k p i → Rch ls (k + 1) p i
  | 0,_,_,h => h.elim
  | k + 1,p,i,h => by
    rcases h with h | ⟨x,hx,h⟩
    · exact .inl h
    · exact .inr ⟨x,hx,Rch.more h⟩
theorem rch_all {ls : List Acc} (t : Tree ls) : ∀ (d : Nat) (i : Int),0 ≤ i → i < ls.length → depV ls i ≤ d → i = 0 ∨ Rch ls d 0 i
  | 0,i,h0,h1,hd => by
    have:=t.dep i.toNat (by omega)
    rw [Int.toNat_of_nonneg h0] at this
    exact .inl (dep_zero (ls:=ls) (by omega))
  | d + 1,i,h0,h1,hd => by
    by_cases e : i = 0
    · exact .inl e
    · obtain ⟨a,b,c⟩:=t.par (by omega) h1
      have hk : i ∈ kidsV ls (parV ls i) ls.length:=(kids_mem (Nat.le_refl _)).2 ⟨h0,h1,rfl⟩
      rcases rch_all t d _ a b (by omega) with q | q
      · rw [q] at hk;exact .inr (.inl hk)
      · exact .inr (q.snoc hk)
/-- From an account up to the root. -/
def clm {α : Type} (a : α) (g : Int → α → α) (ls : List Acc) : Nat → Int → α
  | 0,_ => a
  | k + 1,i => if i = 0 then a else g i (clm a g ls k (parV ls i))
theorem clm_more {α : Type} {a : α} {g : Int → α → α} {ls : List Acc} (t : Tree ls) : ∀ (k : Nat) (i : Int),0 ≤ i → i < ls.length → depV ls i ≤ k → clm a g ls (k + 1) i = clm a g ls k i
  | 0,i,h0,h1,hd => by
    have:=t.dep i.toNat (by omega)
    rw [Int.toNat_of_nonneg h0] at this
    show (if i = 0 then a else _) = a
    rw [if_pos (dep_zero (ls:=ls) (by omega))]
  | k + 1,i,h0,h1,hd => by
    rw [clm]
    conv => rhs;rw [clm]
    by_cases e : i = 0
    · rw [if_pos e,if_pos e]
    · rw [if_neg e,if_neg e]
      obtain ⟨a,b,c⟩:=t.par (by omega) h1
      rw [clm_more t k _ a b (by omega)]
theorem clm_step {α : Type} {a : α} {g : Int → α → α} {ls : List Acc} (t : Tree ls) {i : Int} (h0 : 0 < i) (h1 : i < ls.length) : clm a g ls 4 i = g i (clm a g ls 4 (parV ls i)):=by
  obtain ⟨x,b,c⟩:=t.par h0 h1
  have hd:=t.dep i.toNat (by omega)
  rw [Int.toNat_of_nonneg (by omega)] at hd
  have:=clm_more (a:=a) (g:=g) t 4 i (by omega) h1 (by omega)
  rw [← this,clm,if_neg (by omega)]
theorem clm_root {α : Type} {a : α} {g : Int → α → α} {ls : List Acc} : clm a g ls 4 0 = a:=by rw [clm,if_pos rfl]
/-- A walk down the tree: what it makes right. -/
theorem down_ok {σ : Type} {ls : List Acc} (set : Int → σ → Int → σ) (ok : σ → Int → Prop) (inv : σ → Prop) (dn : Nat → Int → σ → σ) (hz : ∀ p s,dn 0 p s = s) (hs : ∀ k p s,dn (k + 1) p s = (kidsV ls p ls.length).foldl (fun s i => dn k i (set p s i)) s)
    (hset : ∀ p s i,0 ≤ p → i ∈ kidsV ls p ls.length → ok s p → inv s → inv (set p s i) ∧ ok (set p s i) i ∧ ∀ j,ok s j → ok (set p s i) j) :
    ∀ (k : Nat) (p : Int) (s : σ),0 ≤ p → ok s p → inv s → inv (dn k p s) ∧ (∀ j,ok s j → ok (dn k p s) j) ∧ ∀ j,Rch ls k p j → ok (dn k p s) j
  | 0,p,s,_,_,hi => by rw [hz];exact ⟨hi,fun _ h => h,fun _ h => h.elim⟩
  | k + 1,p,s,h0,hp,hi => by
    rw [hs]
    have key : ∀ (ks : List Int) (s : σ),(∀ i ∈ ks,i ∈ kidsV ls p ls.length) → ok s p → inv s →
        inv (ks.foldl (fun s i => dn k i (set p s i)) s) ∧ (∀ j,ok s j → ok (ks.foldl (fun s i => dn k i (set p s i)) s) j) ∧ ∀ i ∈ ks,ok (ks.foldl (fun s i => dn k i (set p s i)) s) i ∧ ∀ j,Rch ls k i j → ok (ks.foldl (fun s i => dn k i (set p s i)) s) j:=by
      intro ks
      induction ks with
      | nil => exact fun s _ _ hi => ⟨hi,fun _ h => h,fun _ h => by cases h⟩
      | cons i r ih =>
        intro s hk hp hi
        have hik:=hk i (List.mem_cons_self ..)
        have hi0 : 0 ≤ i:=((kids_mem (Nat.le_refl _)).1 hik).1
        obtain ⟨a,b,c⟩:=hset p s i h0 hik hp hi
        obtain ⟨a',b',c'⟩:=down_ok set ok inv dn hz hs hset k i (set p s i) hi0 b a
        obtain ⟨a'',b'',c''⟩:=ih (dn k i (set p s i)) (fun j hj => hk j (List.mem_cons_of_mem _ hj)) (b' _ (c _ hp)) a'
        refine ⟨a'',fun j hj => b'' _ (b' _ (c _ hj)),fun j hj => ?_⟩
        rcases List.mem_cons.1 hj with e | e
        · subst e
          exact ⟨b'' _ (b' _ b),fun q hq => b'' _ (c' q hq)⟩
        · exact c'' j e
    obtain ⟨a,b,c⟩:=key _ s (fun _ h => h) hp hi
    refine ⟨a,b,fun j hj => ?_⟩
    rcases hj with hj | ⟨x,hx,hj⟩
    · exact (c j hj).1
    · exact (c x hx).2 j hj
/-- An account's share of the whole: of its parent's. -/
def shG (ls : List Acc) (i : Int) (x : Int × Int) : Int × Int:=
  (IntKind.u64.wrap (x.1 * IntKind.u64.wrap (shV ls i)),IntKind.u64.wrap (x.2 * sisV ls (kidsV ls (parV ls i) ls.length)))
def partV (ls : List Acc) (i : Int) : Int × Int:=clm (1,1) (shG ls) ls 4 i
def numsV (ls : List Acc) : List Int:=(List.range ls.length).map (fun i : Nat => (partV ls (i : Int)).1)
def densV (ls : List Acc) : List Int:=(List.range ls.length).map (fun i : Nat => (partV ls (i : Int)).2)
def startV (n : Nat) : St2:=((List.replicate n (0 : Int)).set 0 1,(List.replicate n (0 : Int)).set 0 1)
theorem rd_set_eq {xs : List Int} {q : Nat} {y : Int} (h : q < xs.length) : rd (xs.set q y) (q : Int) = y:=by
  simp [rd,List.getD_eq_getElem?_getD,h]
theorem list_of_rd {xs : List Int} {n : Nat} {F : Int → Int} (hl : xs.length = n) (h : ∀ i : Nat,i < n → rd xs (i : Int) = F i) : xs = (List.range n).map (fun i : Nat => F (i : Int)):=by
  refine List.ext_getElem (by simp [hl]) fun i h1 h2 => ?_
  have:=h i (by omega)
  simp [rd,List.getD_eq_getElem?_getD,h1] at this
  simp [this]
theorem down_gives {ls : List Acc} (t : Tree ls) : downV ls 5 0 (startV ls.length) = (numsV ls,densV ls):=by
  have hp:=t.pos
  obtain ⟨a,b,c⟩:=down_ok (ls:=ls) (fun p s i => setV ls p s i) (fun s i => rd s.1 i = (partV ls i).1 ∧ rd s.2 i = (partV ls i).2) (fun s => s.1.length = ls.length ∧ s.2.length = ls.length) (downV ls) (fun p s => rfl) (fun k p s => rfl)
    (fun p s i h0 hi hok hinv => by
      obtain ⟨k0,k1,k2,k3⟩:=t.kid h0 hi
      obtain ⟨q,rfl⟩ : ∃ q : Nat,i = q:=⟨i.toNat,by omega⟩
      have e : partV ls (q : Int) = (IntKind.u64.wrap (rd s.1 p * IntKind.u64.wrap (shV ls (q : Int))),IntKind.u64.wrap (rd s.2 p * sisV ls (kidsV ls p ls.length))):=by
        rw [show partV ls (q : Int) = shG ls (q : Int) (partV ls (parV ls (q : Int))) from clm_step t k0 k1,k2]
        unfold shG
        rw [← hok.1,← hok.2,k2]
      refine ⟨by simp [setV,hinv],?_,fun j hj => ?_⟩
      · unfold setV
        simp only [Int.toNat_natCast]
        rw [rd_set_eq (by omega),rd_set_eq (by omega),e]
        exact ⟨rfl,rfl⟩
      · by_cases hjq : j.toNat = q
        · unfold setV
          simp only [Int.toNat_natCast]
          by_cases hj0 : 0 ≤ j
          · obtain rfl : j = q:=by omega
            rw [rd_set_eq (by omega),rd_set_eq (by omega),e]
            exact ⟨rfl,rfl⟩
          · exfalso;omega
        · unfold setV
          simp only [Int.toNat_natCast,rd,List.getD_eq_getElem?_getD]
          rw [List.getElem?_set_ne (fun h => hjq h.symm),List.getElem?_set_ne (fun h => hjq h.symm)]
          simpa [rd,List.getD_eq_getElem?_getD] using hj)
    5 0 (startV ls.length) (by omega) (by
      have:=rd_set_eq (xs:=List.replicate ls.length (0 : Int)) (q:=0) (y:=1) (by simpa using hp)
      exact ⟨by simpa [startV,partV,clm_root] using this,by simpa [startV,partV,clm_root] using this⟩) (by simp [startV])
  refine Prod.ext ?_ ?_
  · refine list_of_rd (F:=fun i => (partV ls i).1) a.1 fun i hi => ?_
    rcases rch_all t 5 (i : Int) (by omega) (by omega) (by have:=t.dep i hi;omega) with e | e
    · have:=(b 0 (by
        have:=rd_set_eq (xs:=List.replicate ls.length (0 : Int)) (q:=0) (y:=1) (by simpa using hp)
        exact ⟨by simpa [startV,partV,clm_root] using this,by simpa [startV,partV,clm_root] using this⟩)).1
      rw [e];exact this
    · exact (c _ e).1
  · refine list_of_rd (F:=fun i => (partV ls i).2) a.2 fun i hi => ?_
    rcases rch_all t 5 (i : Int) (by omega) (by omega) (by have:=t.dep i hi;omega) with e | e
    · have:=(b 0 (by
        have:=rd_set_eq (xs:=List.replicate ls.length (0 : Int)) (q:=0) (y:=1) (by simpa using hp)
        exact ⟨by simpa [startV,partV,clm_root] using this,by simpa [startV,partV,clm_root] using this⟩)).2
      rw [e];exact this
    · exact (c _ e).2
end Go.Proofs.YtbhijfbjdbjpbaaDoor.T
namespace Go.Proofs.YtbhijfbjdbjpbaaDoor.T
open Go.RowKit Go.Proofs.YtbhijfbjdbjpbaaDoorW.PrintWords Go.Proofs.YtbhijfbjdbjpbaaDoorW.PrintLast Go.Proofs.YtbhijfbjdbjpbaaDoor.H Go.Maps
set_option linter.unusedVariables false
set_option linter.unusedSimpArgs false
/-- What Shares answers: nothing,or the fractions in two lists of one's own. -/
def SharesI (w : World) (ls : List Acc) (e : Ending) (w' : World) : Prop:=
  w.grownBy w' none ∧ ((loadE ls ≠ 0 ∧ e = .returned (.tuple #[.slice none 0 0,.slice none 0 0])) ∨
    (loadE ls = 0 ∧ ∃ nb db,nb ≠ db ∧ e = .returned (.tuple #[.slice (some ⟨nb,0,none⟩) ls.length ls.length,.slice (some ⟨db,0,none⟩) ls.length ls.length]) ∧
      w'.ownsRow w.heap.size 25 (Ei .u64).sz (.slice (some ⟨nb,0,none⟩) ls.length ls.length) ls.length (flat (Ei .u64) (numsV ls)) ∧ w'.ownsRow w.heap.size 25 (Ei .u64).sz (.slice (some ⟨db,0,none⟩) ls.length ls.length) ls.length (flat (Ei .u64) (densV ls))))
theorem al1 {w : World} {g : Nat} {o o' : Obj} (h : w.heap[g]? = some o) : (w.drew.alloc o').heap[g]? = some o:=blk_kept (show w.drew.heap[g]? = some o from h) (World.grownBy_alloc w.drew o' none) (by simp)
theorem al2 {w : World} {g : Nat} {o o' : Obj} (h : w.heap[g]? = some o) : ((w.drew.alloc o').alloc o').heap[g]? = some o:=blk_kept (al1 h) (World.grownBy_alloc _ o' none) (by simp)
/-- Two rows of noughts,made in whatever order;the first is laid into a cell. -/
structure Two4 (w w' : World) (n g3 p q : Nat) : Prop where
  b1 : w'.heap[p]? = some (.cells (madeCells #[.int .u64 0] n) 25 (0,0))
  b2 : w'.heap[q]? = some (.cells (madeCells #[.int .u64 0] n) 25 (0,0))
  b3 : w'.heap[g3]? = some (.cells #[.slice (some ⟨p,0,none⟩) n n] 27 (0,0))
  ne : p ≠ q
  n1 : w.heap.size ≤ p
  n2 : w.heap.size ≤ q
  tn : Tn w w' (fun k => k = g3)
section
variable {w : World} {n g3 : Nat} {v0 : Value} (h : w.heap[g3]? = some (.cells #[v0] 27 (0,0)))
include h
theorem two_a : Two4 w (((w.drew.alloc (.cells (madeCells #[.int .u64 0] n) 25)).alloc (.cells (madeCells #[.int .u64 0] n) 25)).setCell ⟨g3,0,none⟩ (.slice (some ⟨w.heap.size,0,none⟩) n n)) n g3 w.heap.size (w.heap.size + 1):=by
  have hl:=blk_lt' h
  have t : Tn ((w.drew.alloc (.cells (madeCells #[.int .u64 0] n) 25)).alloc (.cells (madeCells #[.int .u64 0] n) 25)) _ (fun k => k = g3):=Tn.set g3 0 (.slice (some ⟨w.heap.size,0,none⟩) n n) rfl
  refine ⟨blk_tn (blk_kept (heap_alloc_new w.drew _) (World.grownBy_alloc _ _ none) (by simp)) t (by show ¬ w.heap.size = g3;omega),?_,?_,by omega,by omega,by omega,(((Tn.drew w _).trans' (Tn.alloc _ _ _)).trans' (Tn.alloc _ _ _)).trans' t⟩
  · have:=heap_alloc_new (w.drew.alloc (.cells (madeCells #[.int .u64 0] n) 25)) (.cells (madeCells #[.int .u64 0] n) 25)
    rw [World.size_alloc] at this
    exact blk_tn this t (by show ¬ w.heap.size + 1 = g3;omega)
  · exact blk_set 0 _ (al2 h)
theorem two_c : Two4 w (((w.drew.alloc (.cells (madeCells #[.int .u64 0] n) 25)).alloc (.cells (madeCells #[.int .u64 0] n) 25)).setCell ⟨g3,0,none⟩ (.slice (some ⟨w.heap.size + 1,0,none⟩) n n)) n g3 (w.heap.size + 1) w.heap.size:=by
  have hl:=blk_lt' h
  have t : Tn ((w.drew.alloc (.cells (madeCells #[.int .u64 0] n) 25)).alloc (.cells (madeCells #[.int .u64 0] n) 25)) _ (fun k => k = g3):=Tn.set g3 0 (.slice (some ⟨w.heap.size + 1,0,none⟩) n n) rfl
  refine ⟨?_,blk_tn (blk_kept (heap_alloc_new w.drew _) (World.grownBy_alloc _ _ none) (by simp)) t (by show ¬ w.heap.size = g3;omega),?_,by omega,by omega,by omega,(((Tn.drew w _).trans' (Tn.alloc _ _ _)).trans' (Tn.alloc _ _ _)).trans' t⟩
  · have:=heap_alloc_new (w.drew.alloc (.cells (madeCells #[.int .u64 0] n) 25)) (.cells (madeCells #[.int .u64 0] n) 25)
    rw [World.size_alloc] at this
    exact blk_tn this t (by show ¬ w.heap.size + 1 = g3;omega)
  · exact blk_set 0 _ (al2 h)
theorem two_b : Two4 w (((w.drew.alloc (.cells (madeCells #[.int .u64 0] n) 25)).setCell ⟨g3,0,none⟩ (.slice (some ⟨w.heap.size,0,none⟩) n n)).alloc (.cells (madeCells #[.int .u64 0] n) 25)) n g3 w.heap.size (w.heap.size + 1):=by
  have hl:=blk_lt' h
  have t : Tn (w.drew.alloc (.cells (madeCells #[.int .u64 0] n) 25)) _ (fun k => k = g3):=Tn.set g3 0 (.slice (some ⟨w.heap.size,0,none⟩) n n) rfl
  refine ⟨blk_kept (blk_tn (heap_alloc_new w.drew _) t (by show ¬ w.heap.size = g3;omega)) (World.grownBy_alloc _ _ none) (by simp),?_,?_,by omega,by omega,by omega,(((Tn.drew w _).trans' (Tn.alloc _ _ _)).trans' t).trans' (Tn.alloc _ _ _)⟩
  · have:=heap_alloc_new ((w.drew.alloc (.cells (madeCells #[.int .u64 0] n) 25)).setCell ⟨g3,0,none⟩ (.slice (some ⟨w.heap.size,0,none⟩) n n)) (.cells (madeCells #[.int .u64 0] n) 25)
    rwa [World.size_setCell,World.size_alloc] at this
  · exact blk_kept (blk_set 0 _ (al1 h)) (World.grownBy_alloc _ _ none) (by simp)
end
theorem made_own {w : World} {B b n : Nat} (h : w.heap[b]? = some (.cells (madeCells #[.int .u64 0] n) 25 (0,0))) (hB : B ≤ b) (hn : n ≤ 64) : w.ownsRow B 25 (Ei .u64).sz (.slice (some ⟨b,0,none⟩) n n) n (flat (Ei .u64) (List.replicate n 0)):=by
  have e : (madeCells #[Value.int .u64 0] n).toList = flat (Ei .u64) (List.replicate n 0):=by
    rw [flat_nums]
    refine List.ext_getElem (by simp [madeCells,nums]) fun i h1 h2 => ?_
    simp [madeCells,nums,Nat.mod_one]
  refine ⟨by rw [flat_len];simp,.inr ⟨b,n,_,rfl,hB,h,Nat.le_refl _,by simp only [maxLen];omega,by rw [size_madeCells];simp [Ei],?_⟩⟩
  rw [e,List.take_of_length_le (by rw [flat_len];simp [Ei])]
theorem gb_of_tn {w w' : World} {F : Nat → Prop} (h : Tn w w' F) (hF : ∀ k,F k → w.heap.size ≤ k) : w.grownBy w' none:=
  ⟨h.os,h.tape,h.output,h.size,fun k hk _ => h.block k hk (fun f => by have:=hF k f;omega)⟩
theorem results_c2 {fn : Func} {p p' : Tmp} {ty ty' : TypeId} (h : fn.results = #[.cell p ty,.cell p' ty']) (tmps : Array Value) (w : World) (a a' : Addr) (v v' : Value) (x x' : TypeId)
    (hp : tmps.getD p undef = .pointer (some a)) (hg : w.cell? a = some v) (hu : Tryd.prog.underlying ty = some (.slice x))
    (hp' : tmps.getD p' undef = .pointer (some a')) (hg' : w.cell? a' = some v') (hu' : Tryd.prog.underlying ty' = some (.slice x')) :
    (results fn tmps).run Tryd.prog w = .ok (.tuple #[v,v']) w:=by
  have h1 : tmps[p]?.getD undef = .pointer (some a):=by simpa using hp
  have h2 : tmps[p']?.getD undef = .pointer (some a'):=by simpa using hp'
  simp [results,h,h1,h2,asAddr,loadVar,isAgg,run_underlying hu,run_underlying hu',hg,hg']
set_option maxHeartbeats 8000000 in
set_option maxRecDepth 100000 in
theorem kids_nil (w : World) (A : Option Addr) (c : Nat) :
    Calls Tryd.prog 15 #[.slice A 0 c] w (KidsI w []):=by
  have HC:=Am (load_nil w A c)
  go_enter Tryd.func15,Tryd.ntmps15
  go_wp2_with fail
  refine (HC.out).mono ?_
  rintro e w1 ⟨⟨o,rfl⟩,hg⟩
  have HG1:=Aside0.mk hg
  have hE : loadE [] = 66:=rfl
  rw [hE]
  clear hg HC
  go_wp2
  go_ret2
  exact ⟨HG1.out,.inl ⟨by decide,rfl⟩⟩
set_option maxHeartbeats 8000000 in
set_option maxRecDepth 100000 in
theorem Shares_calls (w : World) (A : Option Addr) (n c : Nat) (ls : List Acc) (hr : Rd Ec w A n ls) (hc : n ≤ c) (hok : AccOk ls) :
    Calls Tryd.prog 6 #[.slice A n c] w (SharesI w ls):=by
  have hlen:=hr.2.1
  have HR:=Aside0.mk hr
  have HN:=Aside0.mk hr.1
  have HC0:=Aside0.mk hc
  have HOK:=Aside0.mk hok
  have HK : Aside0 (∀ W : World,Rd Ec W A n ls → Calls Tryd.prog 15 #[.slice A n c] W (KidsI W ls)):=⟨fun W h => by
    cases ls with
    | nil => obtain rfl : n = 0:=h.1.symm;exact kids_nil W A c
    | cons x r =>
      obtain ⟨ad,e,_⟩:=h.2.2 (by have:=h.1;simp at this;omega)
      subst e
      exact kids_calls W ad n c x r h hc hok⟩
  clear hr hc hok
  go_enter Tryd.func6,Tryd.ntmps6
  go_upto_region 1 with (fail)
  obtain ⟨g1,hg1⟩ : ∃ g,g = w.heap.size:=⟨_,rfl⟩
  obtain ⟨g3,hg3⟩ : ∃ g,g = w.heap.size + 1:=⟨_,rfl⟩
  obtain ⟨g4,hg4⟩ : ∃ g,g = w.heap.size + 1 + 1:=⟨_,rfl⟩
  have e3:=World.grownBy_alloc ((w.alloc (.cells #[.slice A n c] 24)).alloc (.cells #[.slice none 0 0] 27)) (.cells #[.slice none 0 0] 27) none
  have e2:=World.grownBy_alloc (w.alloc (.cells #[.slice A n c] 24)) (.cells #[.slice none 0 0] 27) none
  have e1:=World.grownBy_alloc w (.cells #[.slice A n c] 24) none
  have HG1:=Am (World.grownBy.trans (World.grownBy.trans e1 e2) e3)
  have HX1:=Am (blk_kept (blk_kept (heap_alloc_new w (.cells #[.slice A n c] 24)) e2 (by simp)) e3 (by simp))
  have HX3:=Am (blk_kept (heap_alloc_new (w.alloc (.cells #[.slice A n c] 24)) (.cells #[.slice none 0 0] 27)) e3 (by simp))
  have HX4:=Am (heap_alloc_new ((w.alloc (.cells #[.slice A n c] 24)).alloc (.cells #[.slice none 0 0] 27)) (.cells #[.slice none 0 0] 27))
  have HZ1:=Am (show g3 = g1 + 1 ∧ g4 = g1 + 2 ∧ g1 = w.heap.size by omega)
  simp only [World.size_alloc] at HX3 HX4
  rw [← hg1] at HX1
  rw [← hg3] at HX3
  rw [← hg4] at HX4
  rw [← hg4,← hg3,← hg1]
  clear e1 e2 e3 hg1 hg3 hg4
  generalize ((w.alloc (.cells #[.slice A n c] 24)).alloc (.cells #[.slice none 0 0] 27)).alloc (.cells #[.slice none 0 0] 27) = w1 at HG1 HX1 HX3 HX4 ⊢
  have HSM:=Am (And.intro (blk_lt' HX1.out) (And.intro (blk_lt' HX3.out) (blk_lt' HX4.out)))
  have k1:=cell_of (j:=0) HX1.out rfl
  go_wp2_with fail
  refine (HK.out w1 (HR.out.gb HG1.out)).mono ?_
  rintro e w2 ⟨hg,h⟩
  have HG2:=Aside0.mk hg
  have HX1b:=Am (blk_kept HX1.out hg (by simp))
  have HX3b:=Am (blk_kept HX3.out hg (by simp))
  have HX4b:=Am (blk_kept HX4.out hg (by simp))
  clear hg k1 HX1 HX3 HX4 HK
  rcases h with ⟨hne,rfl⟩ | ⟨h0,kb,m,D,f,rfl,hkm,hlow⟩
  · have HNE:=Aside0.mk hne
    clear hne
    have HX1c:=Am (blk_kept HX1b.out (World.grownBy_alloc w2 (.cells #[.map none] 45) none) (by simp))
    have HX3c:=Am (blk_kept HX3b.out (World.grownBy_alloc w2 (.cells #[.map none] 45) none) (by simp))
    have HX4c:=Am (blk_kept HX4b.out (World.grownBy_alloc w2 (.cells #[.map none] 45) none) (by simp))
    have HT3:=Am (((Tn.gb0 HG1.out (fun k => k = g3 ∨ k = g4)).trans' (Tn.gb0 HG2.out _)).trans' (Tn.alloc w2 (.cells #[.map none] 45) _))
    have hne : g4 ≠ g3:=by have:=HZ1.out;omega
    have HNE43:=Aside0.mk hne
    go_upto_region 3 with (fail)
    generalize w2.alloc (.cells #[.map none] 45) = w3 at HX1c HX3c HX4c HT3 ⊢
    have hc3:=cell_of (j:=0) HX3c.out rfl
    have hf3:=frozen_of (j:=0) HX3c.out
    have hc4 : ∀ v,(w3.setCell ⟨g3,0,none⟩ v).cell? ⟨g4,0,none⟩ = some (.slice none 0 0):=fun v => cell_tn (cell_of (j:=0) HX4c.out rfl) (Tn.set g3 0 v (F:=fun k => k = g3) rfl) HNE43.out
    have hf4:=frozen_of (j:=0) HX4c.out
    go_wp2
    refine bodyPost_ret (results_c2 rfl _ _ ⟨g3,0,none⟩ ⟨g4,0,none⟩ (.slice none 0 0) (.slice none 0 0) _ _ rfl ?_ Tryd.underlying27 rfl ?_ Tryd.underlying27) rfl ?_
    · exact cell_tn (F:=fun k => k = g4) (cell_of (j:=0) (show (w3.setCell ⟨g3,0,none⟩ (.slice none 0 0)).heap[g3]? = some (.cells #[.slice none 0 0] 27 (0,0)) from blk_set 0 _ HX3c.out) rfl) (Tn.set g4 0 _ rfl) (fun e => HNE43.out e.symm)
    · exact cell_of (j:=0) (blk_set 0 (.slice none 0 0) (blk_tn HX4c.out (Tn.set (F:=fun k => k = g3) g3 0 (.slice none 0 0) rfl) HNE43.out)) rfl
    · refine ⟨gb_of_tn (F:=fun k => k = g3 ∨ k = g4) ((HT3.out.trans' (Tn.set g3 0 (.slice none 0 0) (.inl rfl))).trans' (Tn.set g4 0 (.slice none 0 0) (.inr rfl))) (fun k h => by have:=HZ1.out;rcases h with h | h <;> omega),.inl ⟨HNE.out,rfl⟩⟩
  · have HKM:=Aside0.mk hkm
    have HLOW:=Aside0.mk hlow
    have HT0:=Am (tree_of h0)
    have HE0:=Aside0.mk h0
    clear hkm hlow h0
    go_upto_region 4 with (fail)
    have HX1c:=Am (blk_kept HX1b.out (World.grownBy_alloc w2 (.cells #[.map (some kb)] 45) none) (by simp))
    have HX3c:=Am (blk_kept HX3b.out (World.grownBy_alloc w2 (.cells #[.map (some kb)] 45) none) (by simp))
    have HX4c:=Am (blk_kept HX4b.out (World.grownBy_alloc w2 (.cells #[.map (some kb)] 45) none) (by simp))
    have HX2c:=Am (heap_alloc_new w2 (.cells #[.map (some kb)] 45))
    have HG3:=Am (World.grownBy_alloc w2 (.cells #[.map (some kb)] 45) none)
    obtain ⟨g2,hg2⟩ : ∃ g,g = w2.heap.size:=⟨_,rfl⟩
    have HG2S:=Aside0.mk hg2
    rw [← hg2] at HX2c ⊢
    clear hg2 HX1b HX3b HX4b
    generalize w2.alloc (.cells #[.map (some kb)] 45) = w3 at HX1c HX2c HX3c HX4c HG3 ⊢
    have HNE13 : Aside0 (g1 ≠ g3):=⟨by have:=HZ1.out;omega⟩
    have HNE43 : Aside0 (g4 ≠ g3):=⟨by have:=HZ1.out;omega⟩
    have hmk : ∀ W : World,(Instr.makeSlice 27 (.int .i64 (n : Int)) (.int .i64 (n : Int))).run Tryd.prog W = .ok (.slice (some ⟨W.heap.size,0,none⟩) n n) (W.alloc (.cells (madeCells #[.int .u64 0] n) 25)):=fun W => by
      have:=HT0.out.le;have:=HN.out
      exact run_make_row' 27 25 (.int .u64 0) 8 Tryd.underlying27 (by kernel_rfl) rfl .i64 .i64 n (by omega) (by omega) W
    refine start_ (n:=8) (S:=fun w' => w'.cell? ⟨g1,0,none⟩ = some (.slice A n c)) (ds:=[7]) #[nn,nn,nn,nn,nn,nn,nn,nn] (by kernel_rfl) rfl rfl (cell_of (j:=0) (show w3.drew.heap[g1]? = _ from HX1c.out) rfl) (fun hHeld => ?_)
    refine take_ (i:=0) (N:=some 14) (v:=?_) (a':=?_) #[yy,nn,nn,nn,nn,nn,nn,nn] rfl rfl (by kernel_rfl) (fun _ _ _ h => h) (Or.inl ⟨by rfl,?_⟩) hHeld ?_ ?_
    rotate_left
    · intro w' s0
      go_simp
      with_reducible rfl
    rotate_left
    · simp only [NR]
      rfl
    refine pure_ (i:=1) (N:=some 15) (v:=?_) (a':=?_) #[yy,yy,nn,nn,nn,nn,nn,nn] rfl rfl (by kernel_rfl) (fun _ _ _ h => h) (Or.inl ⟨by rfl,?_⟩) ?_ ?_
    rotate_left
    · intro w'
      go_simp
      with_reducible rfl
    rotate_left
    · simp only [NR]
      rfl
    refine take_ (i:=3) (N:=some 17) (v:=?_) (a':=?_) #[yy,yy,nn,yy,nn,nn,nn,nn] rfl rfl (by kernel_rfl) (fun _ _ _ h => h) (Or.inl ⟨by rfl,?_⟩) hHeld ?_ ?_
    rotate_left
    · intro w' s0
      go_simp
      with_reducible rfl
    rotate_left
    · simp only [NR]
      rfl
    refine pure_ (i:=4) (N:=some 18) (v:=?_) (a':=?_) #[yy,yy,nn,yy,yy,nn,nn,nn] rfl rfl (by kernel_rfl) (fun _ _ _ h => h) (Or.inl ⟨by rfl,?_⟩) ?_ ?_
    rotate_left
    · intro w'
      go_simp
      with_reducible rfl
    rotate_left
    · simp only [NR]
      rfl
    refine join_ (σ:=Nat × Nat) 1 #[yy,yy,yy,yy,yy,yy,yy,nn] (fun s => [(16,.slice (some ⟨s.1,0,none⟩) n n),(19,.slice (some ⟨s.2,0,none⟩) n n)]) (fun s w' => Two4 w3 w' n g3 s.1 s.2) ?_ ?_
    rotate_left
    · intro hCont
      refine two_ (i:=2) (j:=5) (Ni:=some 16) (Nj:=some 19) #[yy,yy,yy,yy,yy,nn,nn,nn] #[yy,yy,nn,yy,yy,yy,nn,nn] rfl rfl rfl rfl (by kernel_rfl) (by decide) (by decide) (fun K hK => ?_) (fun K hK => ?_)
      · skip
        refine value_ (w1:=?_) (v:=?_) (by rfl) rfl ?_ ?_
        rotate_left 2
        · go_simp
          constructor
          · rfl
          · rfl
        refine hK.out _ _ ((World.grownBy_alloc _ (.cells (madeCells #[.int .u64 0] n) 25) none).cell hHeld (by simp)) (fun hHeld => ?_)
        clear hK K
        refine norm_ (a':=?_) ?_ ?_
        rotate_left
        · show Act.put _ (some 16) _ = _
          simp only [NR]
          rfl
        refine two_ (i:=5) (j:=6) (Ni:=some 19) (Nj:=none) #[yy,yy,yy,yy,yy,yy,nn,nn] #[yy,yy,yy,yy,yy,nn,yy,nn] rfl rfl rfl rfl (by kernel_rfl) (by decide) (by decide) (fun K hK => ?_) (fun K hK => ?_)
        · skip
          refine value_ (w1:=?_) (v:=?_) (by rfl) rfl ?_ ?_
          rotate_left 2
          · go_simp
            constructor
            · rfl
            · rfl
          refine hK.out _ _ ((World.grownBy_alloc _ (.cells (madeCells #[.int .u64 0] n) 25) none).cell hHeld (by simp)) (fun hHeld => ?_)
          clear hK K
          refine norm_ (a':=?_) ?_ ?_
          rotate_left
          · show Act.put _ (some 19) _ = _
            simp only [NR]
            rfl
          refine one_ (i:=6) (N:=none) #[yy,yy,yy,yy,yy,yy,yy,nn] rfl rfl (by kernel_rfl) (by decide) (fun K hK => ?_)
          have hc3 : ((w3.alloc (.cells (madeCells #[.int .u64 0] n) 25)).alloc (.cells (madeCells #[.int .u64 0] n) 25)).cell? ⟨g3,0,none⟩ = some (.slice none 0 0):=cell_of (j:=0) (al2 HX3c.out) rfl;have hf3 : ((w3.alloc (.cells (madeCells #[.int .u64 0] n) 25)).alloc (.cells (madeCells #[.int .u64 0] n) 25)).frozen? ⟨g3,0,none⟩ = false:=frozen_of (al2 HX3c.out)
          refine skip_ (w1:=?_) (by rfl) rfl ?_ ?_
          rotate_left
          · go_simp
            rfl
          refine hK.out _ _ (cell_tn (F:=fun k => k = g3) hHeld (Tn.set g3 0 _ rfl) HNE13.out) (fun hHeld => ?_)
          clear hK K
          exact norm_ (by simp only [putAll,Act.put,List.setIfInBounds_toArray,List.set_cons_zero,List.set_cons_succ]) (hCont (w3.heap.size,w3.heap.size + 1) _ (two_a HX3c.out))
        · skip
          have hc3 : (w3.alloc (.cells (madeCells #[.int .u64 0] n) 25)).cell? ⟨g3,0,none⟩ = some (.slice none 0 0):=cell_of (j:=0) (al1 HX3c.out) rfl;have hf3 : (w3.alloc (.cells (madeCells #[.int .u64 0] n) 25)).frozen? ⟨g3,0,none⟩ = false:=frozen_of (al1 HX3c.out)
          refine skip_ (w1:=?_) (by rfl) rfl ?_ ?_
          rotate_left
          · go_simp
            rfl
          refine hK.out _ _ (cell_tn (F:=fun k => k = g3) hHeld (Tn.set g3 0 _ rfl) HNE13.out) (fun hHeld => ?_)
          clear hK K
          refine one_ (i:=5) (N:=some 19) #[yy,yy,yy,yy,yy,yy,yy,nn] rfl rfl (by kernel_rfl) (by decide) (fun K hK => ?_)
          refine value_ (w1:=?_) (v:=?_) (by rfl) rfl ?_ ?_
          rotate_left 2
          · go_simp
            constructor
            · rfl
            · rfl
          refine hK.out _ _ ((World.grownBy_alloc _ (.cells (madeCells #[.int .u64 0] n) 25) none).cell hHeld (by simp)) (fun hHeld => ?_)
          clear hK K
          refine norm_ (a':=?_) ?_ ?_
          rotate_left
          · show Act.put _ (some 19) _ = _
            simp only [NR]
            rfl
          exact norm_ (by simp only [putAll,Act.put,List.setIfInBounds_toArray,List.set_cons_zero,List.set_cons_succ]) (hCont (w3.heap.size,w3.heap.size + 1) _ (two_b HX3c.out))
      · skip
        refine value_ (w1:=?_) (v:=?_) (by rfl) rfl ?_ ?_
        rotate_left 2
        · go_simp
          constructor
          · rfl
          · rfl
        refine hK.out _ _ ((World.grownBy_alloc _ (.cells (madeCells #[.int .u64 0] n) 25) none).cell hHeld (by simp)) (fun hHeld => ?_)
        clear hK K
        refine norm_ (a':=?_) ?_ ?_
        rotate_left
        · show Act.put _ (some 19) _ = _
          simp only [NR]
          rfl
        refine one_ (i:=2) (N:=some 16) #[yy,yy,yy,yy,yy,yy,nn,nn] rfl rfl (by kernel_rfl) (by decide) (fun K hK => ?_)
        refine value_ (w1:=?_) (v:=?_) (by rfl) rfl ?_ ?_
        rotate_left 2
        · go_simp
          constructor
          · rfl
          · rfl
        refine hK.out _ _ ((World.grownBy_alloc _ (.cells (madeCells #[.int .u64 0] n) 25) none).cell hHeld (by simp)) (fun hHeld => ?_)
        clear hK K
        refine norm_ (a':=?_) ?_ ?_
        rotate_left
        · show Act.put _ (some 16) _ = _
          simp only [NR]
          rfl
        refine one_ (i:=6) (N:=none) #[yy,yy,yy,yy,yy,yy,yy,nn] rfl rfl (by kernel_rfl) (by decide) (fun K hK => ?_)
        have hc3 : ((w3.alloc (.cells (madeCells #[.int .u64 0] n) 25)).alloc (.cells (madeCells #[.int .u64 0] n) 25)).cell? ⟨g3,0,none⟩ = some (.slice none 0 0):=cell_of (j:=0) (al2 HX3c.out) rfl;have hf3 : ((w3.alloc (.cells (madeCells #[.int .u64 0] n) 25)).alloc (.cells (madeCells #[.int .u64 0] n) 25)).frozen? ⟨g3,0,none⟩ = false:=frozen_of (al2 HX3c.out)
        refine skip_ (w1:=?_) (by rfl) rfl ?_ ?_
        rotate_left
        · go_simp
          rfl
        refine hK.out _ _ (cell_tn (F:=fun k => k = g3) hHeld (Tn.set g3 0 _ rfl) HNE13.out) (fun hHeld => ?_)
        clear hK K
        exact norm_ (by simp only [putAll,Act.put,List.setIfInBounds_toArray,List.set_cons_zero,List.set_cons_succ]) (hCont (w3.heap.size + 1,w3.heap.size) _ (two_c HX3c.out))
    rintro ⟨nb,db⟩ w4 hF
    have HF4:=Aside0.mk hF;have HX1d:=Am (blk_tn HX1c.out hF.tn HNE13.out);have HX4d:=Am (blk_tn HX4c.out hF.tn HNE43.out);have hHeld : w4.cell? ⟨g1,0,none⟩ = some (.slice A n c):=cell_of (j:=0) HX1d.out rfl;have hc4:=cell_of (j:=0) HX4d.out rfl;have hf4:=frozen_of (j:=0) HX4d.out
    clear hF
    refine norm_ (a':=?_) ?_ ?_
    rotate_left
    · simp only [putAll,Act.put,List.setIfInBounds_toArray,List.set_cons_zero,List.set_cons_succ]
      rfl
    refine last_ (i:=7) (N:=none) #[yy,yy,yy,yy,yy,yy,yy,yy] rfl rfl (by kernel_rfl) (by decide) (fun K hK => ?_)
    refine skip_ (w1:=?_) (by rfl) rfl ?_ ?_
    rotate_left
    · go_simp
      rfl
    refine hK.out _ _ ?_
    clear hK K
    refine done_ (by kernel_rfl) ?_
    obtain ⟨hz3,hz4,hz1⟩:=HZ1.out
    have hg1s : g1 < w3.heap.size:=blk_lt' HX1c.out
    have hg2s : g2 < w3.heap.size:=blk_lt' HX2c.out
    have hg3s : g3 < w3.heap.size:=blk_lt' HX3c.out
    have hg4s : g4 < w3.heap.size:=blk_lt' HX4c.out
    have hn1:=HF4.out.n1
    have hn2:=HF4.out.n2
    have h23 : w1.heap.size ≤ g2:=by rw [HG2S.out];exact HG2.out.size
    have h13 : g1 < w1.heap.size ∧ g3 < w1.heap.size ∧ g4 < w1.heap.size:=HSM.out
    have HT5:=Am ((HF4.out.tn.mono (G:=fun k => k = g3 ∨ k = g4) (fun i _ h => .inl h)).trans' (Tn.set g4 0 (.slice (some ⟨db,0,none⟩) n n) (.inr rfl)))
    have T4 : Tn w4 (w4.setCell ⟨g4,0,none⟩ (.slice (some ⟨db,0,none⟩) n n)) (fun k => k = g4):=Tn.set g4 0 _ rfl
    have HX1e:=Am (blk_tn HX1d.out T4 (by show ¬ g1 = g4;omega))
    have HX2e:=Am (blk_tn HX2c.out HT5.out (by show ¬ (g2 = g3 ∨ g2 = g4);omega))
    have HX3e:=Am (blk_tn HF4.out.b3 T4 (by show ¬ g3 = g4;omega))
    have HX4e : Aside0 ((w4.setCell ⟨g4,0,none⟩ (.slice (some ⟨db,0,none⟩) n n)).heap[g4]? = some (.cells #[.slice (some ⟨db,0,none⟩) n n] 27 (0,0))):=⟨blk_set 0 _ HX4d.out⟩
    have HNe:=Am (made_own (B:=w3.heap.size) (blk_tn HF4.out.b1 T4 (by show ¬ nb = g4;omega)) hn1 (by have:=HT0.out.le;have:=HN.out;omega))
    have HDe:=Am (made_own (B:=w3.heap.size) (blk_tn HF4.out.b2 T4 (by show ¬ db = g4;omega)) hn2 (by have:=HT0.out.le;have:=HN.out;omega))
    have HNB3 : Aside0 (g3 ≠ nb):=⟨by omega⟩
    have HNB4 : Aside0 (g4 ≠ nb):=⟨by omega⟩
    have HNEB:=Aside0.mk HF4.out.ne
    have HBN:=Aside0.mk hn1
    have HBD:=Aside0.mk hn2
    have HGS:=Am (And.intro hg1s (And.intro hg2s (And.intro hg3s hg4s)))
    have HG23:=Aside0.mk h23
    clear hz1 hz3 hz4 hg1s hg2s hg3s hg4s hn1 hn2 h23 h13 T4 hmk
    clear HX1c HX2c HX3c HX4c HX1d HX4d HF4
    generalize w4.setCell ⟨g4,0,none⟩ (.slice (some ⟨db,0,none⟩) n n) = w5 at HT5 HX1e HX2e HX3e HX4e HNe HDe ⊢
    have hn0 : 0 < n:=by have:=HT0.out.pos;have:=HN.out;omega
    have hn0i : (0 : Int) < (n : Int):=by omega
    go_upto_region 5 with (fail)
    have hcn : w5.cell? ⟨nb,0,none⟩ = some (.int .u64 (rd (List.replicate n 0) ((0 : Nat) : Int))):=num_cell HNe.out hn0 (by simp)
    have hcd : ∀ v,(w5.setCell ⟨nb,0,none⟩ v).cell? ⟨db,0,none⟩ = some (.int .u64 (rd (List.replicate n 0) ((0 : Nat) : Int))):=fun v => num_cell (own_tn HDe.out (Tn.set nb 0 v (F:=fun k => k = nb) rfl) (fun k hk e => by cases hk;exact HNEB.out e.symm)) hn0 (by simp)
    have hfn:=own_frozen HNe.out 0
    have hfd:=own_frozen HDe.out 0
    refine start_ (n:=6) (S:=fun w' => w'.cell? ⟨g3,0,none⟩ = some (.slice (some ⟨nb,0,none⟩) n n) ∧ w'.cell? ⟨g4,0,none⟩ = some (.slice (some ⟨db,0,none⟩) n n)) (ds:=[5]) #[nn,nn,nn,nn,nn,nn] (by kernel_rfl) rfl rfl ⟨cell_of (j:=0) (show w5.drew.heap[g3]? = _ from HX3e.out) rfl,cell_of (j:=0) (show w5.drew.heap[g4]? = _ from HX4e.out) rfl⟩ (fun hHeld => ?_)
    refine take_ (i:=0) (N:=some 20) (v:=?_) (a':=?_) #[yy,nn,nn,nn,nn,nn] rfl rfl (by kernel_rfl) (fun _ _ _ h => h) (Or.inl ⟨by rfl,?_⟩) hHeld ?_ ?_
    rotate_left
    · rintro w' ⟨s0,s1⟩
      go_simp
      with_reducible rfl
    rotate_left
    · simp only [NR]
      rfl
    refine pure_ (i:=2) (N:=some 22) (v:=?_) (a':=?_) #[yy,nn,yy,nn,nn,nn] rfl rfl (by kernel_rfl) (fun _ _ _ h => h) (Or.inl ⟨by rfl,?_⟩) ?_ ?_
    rotate_left
    · intro w'
      go_simp
      with_reducible rfl
    rotate_left
    · simp only [NR]
      rfl
    refine take_ (i:=1) (N:=some 21) (v:=?_) (a':=?_) #[yy,yy,yy,nn,nn,nn] rfl rfl (by kernel_rfl) (fun _ _ _ h => h) (Or.inl ⟨by rfl,?_⟩) hHeld ?_ ?_
    rotate_left
    · rintro w' ⟨s0,s1⟩
      go_simp
      with_reducible rfl
    rotate_left
    · simp only [NR]
      rfl
    refine one_ (i:=3) (N:=none) #[yy,yy,yy,yy,nn,nn] rfl rfl (by kernel_rfl) (by decide) (fun K hK => ?_)
    refine skip_ (w1:=?_) (by rfl) rfl ?_ ?_
    rotate_left
    · go_simp
      rfl
    refine hK.out _ _ ⟨cell_tn (cell_of (j:=0) (show w5.drew.heap[g3]? = _ from HX3e.out) rfl) (Tn.set nb 0 _ (F:=fun k => k = nb) rfl) HNB3.out,cell_tn (cell_of (j:=0) (show w5.drew.heap[g4]? = _ from HX4e.out) rfl) (Tn.set nb 0 _ (F:=fun k => k = nb) rfl) HNB4.out⟩ (fun hHeld => ?_)
    clear hK K
    refine pure_ (i:=4) (N:=some 23) (v:=?_) (a':=?_) #[yy,yy,yy,yy,yy,nn] rfl rfl (by kernel_rfl) (fun _ _ _ h => h) (Or.inl ⟨by rfl,?_⟩) ?_ ?_
    rotate_left
    · intro w'
      go_simp
      with_reducible rfl
    rotate_left
    · simp only [NR]
      rfl
    refine last_ (i:=5) (N:=none) #[yy,yy,yy,yy,yy,yy] rfl rfl (by kernel_rfl) (by decide) (fun K hK => ?_)
    refine skip_ (w1:=?_) (by rfl) rfl ?_ ?_
    rotate_left
    · go_simp
      rfl
    refine hK.out _ _ ?_
    clear hK K
    refine done_ (by kernel_rfl) ?_
    have hnn0 : ¬ (nb = g1 ∨ nb = g2 ∨ nb = g3 ∨ nb = g4):=by have:=HBN.out;have:=HGS.out;omega
    have hdd0 : ¬ (db = g1 ∨ db = g2 ∨ db = g3 ∨ db = g4):=by have:=HBD.out;have:=HGS.out;omega
    have TS : Tn w5 ((w5.setCell ⟨nb,0,none⟩ (.int .u64 1)).setCell ⟨db,0,none⟩ (.int .u64 1)).drew (fun k => k = nb ∨ k = db):=((Tn.set nb 0 _ (.inl rfl)).trans' (Tn.set db 0 _ (.inr rfl))).trans' (Tn.drew _ _)
    have HX1f:=Am (blk_tn HX1e.out TS (by show ¬ (g1 = nb ∨ g1 = db);omega))
    have HX2f:=Am (blk_tn HX2e.out TS (by show ¬ (g2 = nb ∨ g2 = db);omega))
    have HX3f:=Am (blk_tn HX3e.out TS (by show ¬ (g3 = nb ∨ g3 = db);omega))
    have HX4f:=Am (blk_tn HX4e.out TS (by show ¬ (g4 = nb ∨ g4 = db);omega))
    have HNf:=Am (own_kept (own_tn (num_put HNe.out hn0 (by simp) 1) (Tn.set db 0 (.int .u64 1) (F:=fun k => k = db) rfl) (fun k hk e => by cases hk;exact HNEB.out e)) (gb_drew _ none) (by simp))
    have HDf:=Am (own_kept (num_put (own_tn HDe.out (Tn.set nb 0 (.int .u64 1) (F:=fun k => k = nb) rfl) (fun k hk e => by cases hk;exact HNEB.out e.symm)) hn0 (by simp) 1) (gb_drew _ none) (by simp))
    have HT6:=Am ((HT5.out.mono (G:=fun k => k = g3 ∨ k = g4 ∨ k = nb ∨ k = db) (fun i _ h => by rcases h with h | h <;> omega)).trans' (TS.mono (fun i _ h => by rcases h with h | h <;> omega)))
    clear hnn0 hdd0 TS HX1e HX2e HX3e HX4e HNe HDe HT5 hcn hcd hfn hfd
    generalize ((w5.setCell ⟨nb,0,none⟩ (.int .u64 1)).setCell ⟨db,0,none⟩ (.int .u64 1)).drew = w6 at HT6 HX1f HX2f HX3f HX4f HNf HDf ⊢
    go_upto_region 7 with (fail)
    have HX1g:=Am (blk_kept HX1f.out (World.grownBy_alloc w6 (.cells #[.nilFunc] 48) none) (by simp))
    have HX2g:=Am (blk_kept HX2f.out (World.grownBy_alloc w6 (.cells #[.nilFunc] 48) none) (by simp))
    have HX3g:=Am (blk_kept HX3f.out (World.grownBy_alloc w6 (.cells #[.nilFunc] 48) none) (by simp))
    have HX4g:=Am (blk_kept HX4f.out (World.grownBy_alloc w6 (.cells #[.nilFunc] 48) none) (by simp))
    have HX5g:=Am (heap_alloc_new w6 (.cells #[.nilFunc] 48))
    have HNg:=Am (own_kept HNf.out (World.grownBy_alloc w6 (.cells #[.nilFunc] 48) none) (by simp))
    have HDg:=Am (own_kept HDf.out (World.grownBy_alloc w6 (.cells #[.nilFunc] 48) none) (by simp))
    have HT7:=Am (HT6.out.trans' (Tn.alloc w6 (.cells #[.nilFunc] 48) _))
    have hs6:=HT6.out.size
    have hnl:=(HNf.out.lt nb rfl).2
    have hdl:=(HDf.out.lt db rfl).2
    have h1l:=blk_lt' HX1f.out
    have h2l:=blk_lt' HX2f.out
    have h3l:=blk_lt' HX3f.out
    have h4l:=blk_lt' HX4f.out
    obtain ⟨g5,hg5⟩ : ∃ g,g = w6.heap.size:=⟨_,rfl⟩
    have HN5 : Aside0 (w3.heap.size ≤ g5 ∧ g5 ≠ nb ∧ g5 ≠ db ∧ g5 ≠ g1 ∧ g5 ≠ g2 ∧ g5 ≠ g3 ∧ g5 ≠ g4):=⟨by omega⟩
    rw [← hg5] at HX5g ⊢
    clear hs6 hnl hdl h1l h2l h3l h4l hg5 HX1f HX2f HX3f HX4f HNf HDf HT6
    generalize w6.alloc (.cells #[.nilFunc] 48) = w7 at HT7 HX1g HX2g HX3g HX4g HX5g HNg HDg ⊢
    have hc5:=cell_of (j:=0) HX5g.out rfl
    have hf5:=frozen_of (j:=0) HX5g.out
    have hst : (store ⟨g5,0,none⟩ (.func (.func 16) #[] #[.pointer (some ⟨g1,0,none⟩),.pointer (some ⟨g2,0,none⟩),.pointer (some ⟨g3,0,none⟩),.pointer (some ⟨g4,0,none⟩),.pointer (some ⟨g5,0,none⟩)])).run Tryd.prog w7 = .ok () (w7.setCell ⟨g5,0,none⟩ (.func (.func 16) #[] #[.pointer (some ⟨g1,0,none⟩),.pointer (some ⟨g2,0,none⟩),.pointer (some ⟨g3,0,none⟩),.pointer (some ⟨g4,0,none⟩),.pointer (some ⟨g5,0,none⟩)])):=by
      rw [run_store _ _ _ _ _ rfl,hc5];simp [hf5]
    go_upto_region 8 with (fail)
    have HX5h:=Am (show (w7.setCell ⟨g5,0,none⟩ (.func (.func 16) #[] #[.pointer (some ⟨g1,0,none⟩),.pointer (some ⟨g2,0,none⟩),.pointer (some ⟨g3,0,none⟩),.pointer (some ⟨g4,0,none⟩),.pointer (some ⟨g5,0,none⟩)])).heap[g5]? = some (.cells #[(.func (.func 16) #[] #[.pointer (some ⟨g1,0,none⟩),.pointer (some ⟨g2,0,none⟩),.pointer (some ⟨g3,0,none⟩),.pointer (some ⟨g4,0,none⟩),.pointer (some ⟨g5,0,none⟩)])] 48 (0,0)) from blk_set 0 _ HX5g.out)
    have T5 : Tn w7 (w7.setCell ⟨g5,0,none⟩ (.func (.func 16) #[] #[.pointer (some ⟨g1,0,none⟩),.pointer (some ⟨g2,0,none⟩),.pointer (some ⟨g3,0,none⟩),.pointer (some ⟨g4,0,none⟩),.pointer (some ⟨g5,0,none⟩)])) (fun k => k = g5):=Tn.set g5 0 _ rfl
    obtain ⟨i5,i51,i52,i53,i54,i55,i56⟩:=HN5.out
    have HX1h:=Am (blk_tn HX1g.out T5 (by show ¬ g1 = g5;omega))
    have HX2h:=Am (blk_tn HX2g.out T5 (by show ¬ g2 = g5;omega))
    have HX3h:=Am (blk_tn HX3g.out T5 (by show ¬ g3 = g5;omega))
    have HX4h:=Am (blk_tn HX4g.out T5 (by show ¬ g4 = g5;omega))
    have HNh:=Am (own_tn HNg.out T5 (fun k hk e => by cases hk;exact i51 e.symm))
    have HDh:=Am (own_tn HDg.out T5 (fun k hk e => by cases hk;exact i52 e.symm))
    have HT8:=Am ((HT7.out.mono (G:=fun k => k = g3 ∨ k = g4 ∨ k = nb ∨ k = db ∨ k = g5) (fun i _ h => by rcases h with h | h | h | h <;> simp [h])).trans' (T5.mono (fun i _ h => by simp [h])))
    clear T5 i5 i51 i52 i53 i54 i55 i56 hst hc5 hf5 HX1g HX2g HX3g HX4g HX5g HNg HDg HT7
    generalize w7.setCell ⟨g5,0,none⟩ (.func (.func 16) #[] #[.pointer (some ⟨g1,0,none⟩),.pointer (some ⟨g2,0,none⟩),.pointer (some ⟨g3,0,none⟩),.pointer (some ⟨g4,0,none⟩),.pointer (some ⟨g5,0,none⟩)]) = w8 at HT8 HX1h HX2h HX3h HX4h HX5h HNh HDh ⊢
    obtain ⟨ad,hA,hcell⟩:=HR.out.2.2 hn0
    subst hA
    have had : ad.block < w.heap.size:=by
      obtain ⟨x,hx⟩ : ∃ x,ls[0]? = some x:=⟨_,List.getElem?_eq_getElem (by have:=HN.out;omega)⟩
      have:=World.block_lt_of_cell? w _ (acc_cells HR.out hx).1
      rwa [H.add_block] at this
    obtain ⟨fL,hfL⟩ : ∃ fL : Nat → Int,fL = fun k => if k = g1 ∨ k = g2 ∨ k = g3 ∨ k = g4 ∨ k = g5 then 2 else if k = nb then 0 else if k = db then 1 else f k:=⟨_,rfl⟩
    have z1:=HZ1.out
    have zg1:=HG1.out.size
    have zg2:=HG2.out.size
    have zg3:=HG3.out.size
    have zg:=HG2S.out
    have zb:=HBN.out
    have zd:=HBD.out
    have zn:=HN5.out
    have zs:=HSM.out
    have zgs:=HGS.out
    have hkbP : w1.heap.size ≤ kb:=by
      rcases Nat.lt_or_ge kb w1.heap.size with h | h
      · have h1:=HLOW.out kb h
        have h2:=HKM.out.fk
        omega
      · exact h
    have hTA : Tn w w8 (fun k => w.heap.size ≤ k):=(((Tn.gb0 HG1.out _).trans' (Tn.gb0 HG2.out _)).trans' (Tn.gb0 HG3.out _)).trans' (HT8.out.mono (fun i _ h => by show w.heap.size ≤ i;rcases h with h | h | h | h | h <;> omega))
    have HTA:=Aside0.mk hTA
    have HS:=Am (show Shr w8 w1.heap.size fL kb m D ls ad n c g1 g2 g3 g4 g5 nb db (.func (.func 16) #[] #[.pointer (some ⟨g1,0,none⟩),.pointer (some ⟨g2,0,none⟩),.pointer (some ⟨g3,0,none⟩),.pointer (some ⟨g4,0,none⟩),.pointer (some ⟨g5,0,none⟩)]) from
      ⟨HR.out.tn hTA (fun a ha _ hF => by cases ha;omega),(HKM.out.relab (g:=fL) (fun k h1 h2 => by
          rw [hfL]
          show (if _ then _ else _) = _
          rw [if_neg (by omega),if_neg (by omega),if_neg (by omega)]) hkbP).tn ((Tn.gb0 HG3.out (fun k => k = g3 ∨ k = g4 ∨ k = nb ∨ k = db ∨ k = g5)).trans' HT8.out) (fun k hF => by
          rw [hfL]
          show (if _ then _ else _) < (4 : Int)
          rcases hF with h | h | h | h | h
          · rw [if_pos (by omega)];decide
          · rw [if_pos (by omega)];decide
          · split
            · decide
            · decide
          · split
            · decide
            · split
              · decide
              · decide
          · rw [if_pos (by omega)];decide),HX1h.out,HX2h.out,HX3h.out,HX4h.out,HX5h.out,
        by rw [hfL];show (if _ then _ else _) < (0 : Int);rw [if_neg (by omega),if_neg (by omega),if_neg (by omega),HLOW.out _ (by omega)];decide,
        by rw [hfL];exact if_pos (by omega),by rw [hfL];exact if_pos (by omega),by rw [hfL];exact if_pos (by omega),by rw [hfL];exact if_pos (by omega),by rw [hfL];exact if_pos (by omega),
        by rw [hfL];show (if _ then _ else _) = (0 : Int);rw [if_neg (by omega),if_pos rfl],by rw [hfL];show (if _ then _ else _) = (1 : Int);rw [if_neg (by omega),if_neg (by have:=HNEB.out;omega),if_pos rfl]⟩)
    have HFB:=Am (show ∀ k,F01 fL k → k = nb ∨ k = db ∨ (f k = 0 ∨ f k = 1) from fun k hF => by
      unfold F01 at hF
      rw [hfL] at hF
      by_cases e1 : k = nb
      · exact .inl e1
      · by_cases e2 : k = db
        · exact .inr (.inl e2)
        · refine .inr (.inr ?_)
          simp only [e1,e2,if_false] at hF
          split at hF
          · rcases hF with h | h <;> cases h
          · exact hF)
    have HDC:=Am (down_calls w1.heap.size w3.heap.size fL kb m D ls ad n c g1 g2 g3 g4 g5 nb db HN.out
      (fun p k h => by rw [← HN.out] at h ⊢;have:=(kids_mem (Nat.le_refl _)).1 h;omega)
      (fun p k h0 h => by rw [← HN.out] at h;exact (HT0.out.kid h0 h).2.2.2)
      (fun p h0 h1 => by
        obtain ⟨q,rfl⟩ : ∃ q : Nat,p = q:=⟨p.toNat,by omega⟩
        exact (HT0.out.dep q (by have:=HN.out;omega)).2) 5 0 (by omega) (by omega) (by rw [dep_root];decide) w8 (startV n) HS.out (by simp [startV]) (by simp [startV]) HNh.out HDh.out)
    rw [← HN.out,down_gives HT0.out,HN.out] at HDC
    have HF34:=Am (And.intro HS.out.f3 HS.out.f4)
    have HZS:=Am (show w.heap.size ≤ w1.heap.size ∧ w.heap.size ≤ w3.heap.size ∧ w.heap.size ≤ g3 ∧ w.heap.size ≤ g4 ∧ w1.heap.size ≤ w3.heap.size by omega)
    have HAP:=Am (show nb ≠ g3 ∧ nb ≠ g4 ∧ db ≠ g3 ∧ db ≠ g4 by omega)
    have hc5:=cell_of (j:=0) HX5h.out rfl
    clear zg1 zg2 zg3 zg z1 zb zd zn zs zgs hkbP hTA hcell had HKM HS
    go_wp2_with fail
    refine (HDC.out).mono ?_
    rintro e w9 ⟨rfl,-,-,hn9,hd9,ht9⟩
    have no3 : ¬ F01 fL g3:=fun h => by have:=HF34.out.1;unfold F01 at h;omega
    have no4 : ¬ F01 fL g4:=fun h => by have:=HF34.out.2;unfold F01 at h;omega
    have HX3i:=Am (blk_tn HX3h.out ht9 no3)
    have HX4i:=Am (blk_tn HX4h.out ht9 no4)
    have HN9:=Aside0.mk hn9
    have HD9:=Aside0.mk hd9
    have HT9:=Aside0.mk ht9
    have hc3:=cell_of (j:=0) HX3i.out rfl
    have hf3:=frozen_of (j:=0) HX3i.out
    have hc4 : ∀ v,(w9.setCell ⟨g3,0,none⟩ v).cell? ⟨g4,0,none⟩ = some (.slice (some ⟨db,0,none⟩) n n):=fun v => cell_tn (cell_of (j:=0) HX4i.out rfl) (Tn.set g3 0 v (F:=fun k => k = g3) rfl) HNE43.out
    have hf4:=frozen_of (j:=0) HX4i.out
    clear hn9 hd9 ht9 no3 no4 hc5 HDC
    go_upto_region 9 with (fail)
    refine start_ (n:=4) (S:=fun w' => w'.cell? ⟨g3,0,none⟩ = some (.slice (some ⟨nb,0,none⟩) n n) ∧ w'.cell? ⟨g4,0,none⟩ = some (.slice (some ⟨db,0,none⟩) n n)) (ds:=[3]) #[nn,nn,nn,nn] (by kernel_rfl) rfl rfl ⟨cell_of (j:=0) (show w9.drew.heap[g3]? = _ from HX3i.out) rfl,cell_of (j:=0) (show w9.drew.heap[g4]? = _ from HX4i.out) rfl⟩ (fun hHeld => ?_)
    refine take_ (i:=0) (N:=some 27) (v:=?_) (a':=?_) #[yy,nn,nn,nn] rfl rfl (by kernel_rfl) (fun _ _ _ h => h) (Or.inl ⟨by rfl,?_⟩) hHeld ?_ ?_
    rotate_left
    · rintro w' ⟨s0,s1⟩
      go_simp
      with_reducible rfl
    rotate_left
    · simp only [NR]
      rfl
    refine take_ (i:=1) (N:=some 28) (v:=?_) (a':=?_) #[yy,yy,nn,nn] rfl rfl (by kernel_rfl) (fun _ _ _ h => h) (Or.inl ⟨by rfl,?_⟩) hHeld ?_ ?_
    rotate_left
    · rintro w' ⟨s0,s1⟩
      go_simp
      with_reducible rfl
    rotate_left
    · simp only [NR]
      rfl
    refine one_ (i:=2) (N:=none) #[yy,yy,yy,nn] rfl rfl (by kernel_rfl) (by decide) (fun K hK => ?_)
    refine skip_ (w1:=?_) (by rfl) rfl ?_ ?_
    rotate_left
    · go_simp
      rfl
    refine hK.out _ _ ⟨cell_of (j:=0) (blk_set 0 _ (show w9.drew.heap[g3]? = _ from HX3i.out)) rfl,cell_tn (cell_of (j:=0) (show w9.drew.heap[g4]? = _ from HX4i.out) rfl) (Tn.set g3 0 _ (F:=fun k => k = g3) rfl) HNE43.out⟩ (fun hHeld => ?_)
    clear hK K
    refine last_ (i:=3) (N:=none) #[yy,yy,yy,yy] rfl rfl (by kernel_rfl) (by decide) (fun K hK => ?_)
    refine skip_ (w1:=?_) (by rfl) rfl ?_ ?_
    rotate_left
    · go_simp
      rfl
    refine hK.out _ _ ?_
    clear hK K
    refine done_ (by kernel_rfl) ?_
    have T1 : Tn w9 (w9.setCell ⟨g3,0,none⟩ (.slice (some ⟨nb,0,none⟩) n n)) (fun k => k = g3):=Tn.set g3 0 _ rfl
    have T2 : Tn (w9.setCell ⟨g3,0,none⟩ (.slice (some ⟨nb,0,none⟩) n n)) ((w9.setCell ⟨g3,0,none⟩ (.slice (some ⟨nb,0,none⟩) n n)).setCell ⟨g4,0,none⟩ (.slice (some ⟨db,0,none⟩) n n)).drew (fun k => k = g4):=(Tn.set (F:=fun k => k = g4) g4 0 _ rfl).trans' (Tn.drew _ _)
    have HX3j:=Am (blk_tn (show (w9.setCell ⟨g3,0,none⟩ (.slice (some ⟨nb,0,none⟩) n n)).heap[g3]? = some (.cells #[.slice (some ⟨nb,0,none⟩) n n] 27 (0,0)) from blk_set 0 _ HX3i.out) T2 (fun e => HNE43.out e.symm))
    have HX4j:=Am (show ((w9.setCell ⟨g3,0,none⟩ (.slice (some ⟨nb,0,none⟩) n n)).setCell ⟨g4,0,none⟩ (.slice (some ⟨db,0,none⟩) n n)).drew.heap[g4]? = some (.cells #[.slice (some ⟨db,0,none⟩) n n] 27 (0,0)) from blk_set 0 _ (blk_tn HX4i.out T1 HNE43.out))
    have T12 : Tn w9 ((w9.setCell ⟨g3,0,none⟩ (.slice (some ⟨nb,0,none⟩) n n)).setCell ⟨g4,0,none⟩ (.slice (some ⟨db,0,none⟩) n n)).drew (fun k => k = g3 ∨ k = g4):=(T1.mono (fun _ _ h => .inl h)).trans' (T2.mono (fun _ _ h => .inr h))
    have HNj:=Am (own_tn HN9.out T12 (fun k hk e => by cases hk;have h:=HAP.out;rcases e with e | e <;> simp only at e <;> omega))
    have HDj:=Am (own_tn HD9.out T12 (fun k hk e => by cases hk;have h:=HAP.out;rcases e with e | e <;> simp only at e <;> omega))
    have HTj:=Am ((HTA.out.trans' (HT9.out.mono (G:=fun k => w.heap.size ≤ k) (fun i _ h => by
      show w.heap.size ≤ i
      have z:=HZS.out
      have zb:=HBN.out
      have zd:=HBD.out
      rcases HFB.out i h with e | e | e
      · omega
      · omega
      · rcases Nat.lt_or_ge i w1.heap.size with q | q
        · have:=HLOW.out i q;omega
        · omega))).trans' (T12.mono (fun i _ h => by show w.heap.size ≤ i;have z:=HZS.out;rcases h with h | h <;> omega)))
    clear T1 T2 T12 hc3 hf3 hc4 hf4 HX3i HX4i
    generalize ((w9.setCell ⟨g3,0,none⟩ (.slice (some ⟨nb,0,none⟩) n n)).setCell ⟨g4,0,none⟩ (.slice (some ⟨db,0,none⟩) n n)).drew = w10 at HX3j HX4j HNj HDj HTj ⊢
    go_wp2
    refine bodyPost_ret (results_c2 rfl _ _ ⟨g3,0,none⟩ ⟨g4,0,none⟩ (.slice (some ⟨nb,0,none⟩) n n) (.slice (some ⟨db,0,none⟩) n n) _ _ rfl (cell_of (j:=0) HX3j.out rfl) Tryd.underlying27 rfl (cell_of (j:=0) HX4j.out rfl) Tryd.underlying27) rfl ?_
    refine ⟨gb_of_tn HTj.out (fun _ h => h),.inr ⟨HE0.out,nb,db,HNEB.out,by rw [HN.out],?_,?_⟩⟩
    · rw [HN.out];exact own_mono HNj.out HZS.out.2.1
    · rw [HN.out];exact own_mono HDj.out HZS.out.2.1
end Go.Proofs.YtbhijfbjdbjpbaaDoor.T
namespace Go.Proofs.YtbhijfbjdbjpbaaDoor.T
open Go.RowKit Go.Proofs.YtbhijfbjdbjpbaaDoorW.PrintWords Go.Proofs.YtbhijfbjdbjpbaaDoorW.PrintLast Go.Proofs.YtbhijfbjdbjpbaaDoor.H Go.Maps Go.Proofs.YtbhijfbjdbjpbaaDoor.Q Go.Proofs.YtbhijfbjdbjpbaaDoor.GSH
set_option linter.unusedVariables false
set_option linter.unusedSimpArgs false
set_option maxHeartbeats 8000000 in
set_option maxRecDepth 100000 in
theorem beyond_calls (w : World) : Calls Tryd.prog 81 #[] w fun e w' => e = .returned (.agg #[.int .u64 18446744073709551615,.bool false]) ∧ w.grownBy w' none:=by
  go_enter Tryd.func81,Tryd.ntmps81
  go_wp2
  refine bodyPost_ret (results_single rfl (Vals.cell w.heap.size 106 _ (0,0) _ rfl (heap_alloc_new w _) Tryd.underlying106 rfl (by kernel_rfl) .nil)) rfl ?_
  exact ⟨rfl,World.grownBy_alloc w _ none⟩
set_option maxHeartbeats 8000000 in
set_option maxRecDepth 100000 in
theorem of_calls (w : World) (h l : Int) : Calls Tryd.prog 68 #[.agg #[.int .u64 h,.int .u64 l]] w fun e w' => e = .returned (.agg (if 0 < h then #[.int .u64 18446744073709551615,.bool false] else #[.int .u64 l,.bool true])) ∧ w.grownBy w' none:=by
  by_cases hh : 0 < h
  · have b1 : decide (0 < h) = true:=decide_eq_true hh
    rw [if_pos hh]
    clear hh
    go_enter Tryd.func68,Tryd.ntmps68
    go_wp2_with fail
    refine (beyond_calls _).mono ?_
    rintro e w1 ⟨rfl,hg⟩
    have HB:=Am (show w1.heap[w.heap.size + 1]? = some (.cells #[.int .u64 0,.bool false] 106 (0,0)) from blk_kept (by have:=heap_alloc_new (w.alloc (.cells #[.int .u64 h,.int .u64 l] 76)) (.cells #[.int .u64 0,.bool false] 106);rwa [World.size_alloc] at this) hg (by simp))
    have HG:=Am (World.grownBy.trans (World.grownBy.trans (World.grownBy_alloc w (.cells #[.int .u64 h,.int .u64 l] 76) none) (World.grownBy_alloc _ (.cells #[.int .u64 0,.bool false] 106) none)) hg)
    clear hg
    have c0:=cell_of (j:=0) HB.out rfl
    have c1 : ∀ v,(w1.setCell ⟨w.heap.size + 1,0,none⟩ v).cell? ⟨w.heap.size + 1,1,none⟩ = some (.bool false):=fun v => cell_of (j:=1) (blk_set 0 v HB.out) rfl
    have f0:=frozen_of (j:=0) HB.out
    have f1:=frozen_of (j:=1) HB.out
    go_wp2
    have X:=blk_set 1 (.bool false) (blk_set 0 (.int .u64 18446744073709551615) HB.out)
    refine bodyPost_ret (results_single rfl (Vals.cell (w.heap.size + 1) 106 #[.int .u64 18446744073709551615,.bool false] (0,0) _ rfl X Tryd.underlying106 rfl (by kernel_rfl) .nil)) rfl ?_
    exact ⟨rfl,gb_of_tn (F:=fun k => k = w.heap.size + 1) (((Tn.gb0 HG.out (fun k => k = w.heap.size + 1)).trans' (Tn.set _ 0 _ rfl)).trans' (Tn.set _ 1 _ rfl)) (fun k h => by omega)⟩
  · have b1 : decide (0 < h) = false:=decide_eq_false hh
    rw [if_neg hh]
    clear hh
    go_enter Tryd.func68,Tryd.ntmps68
    go_wp2
    have X:=heap_alloc_new (w.alloc (.cells #[.int .u64 h,.int .u64 l] 76)) (.cells #[.int .u64 l,.bool true] 106)
    rw [World.size_alloc] at X
    refine bodyPost_ret (results_single rfl (Vals.cell (w.heap.size + 1) 106 #[.int .u64 l,.bool true] (0,0) _ rfl X Tryd.underlying106 rfl (by kernel_rfl) .nil)) rfl ?_
    exact ⟨rfl,World.grownBy.trans (World.grownBy_alloc w (.cells #[.int .u64 h,.int .u64 l] 76) none) (World.grownBy_alloc _ (.cells #[.int .u64 l,.bool true] 106) none)⟩
def addU (a b : Int) : Int:=if a + b < 18446744073709551616 then a + b else 18446744073709551615
theorem addU_in {a b : Int} (ha : U a) (hb : U b) : U (addU a b):=by
  obtain ⟨a0,a1⟩:=ha;obtain ⟨b0,b1⟩:=hb
  unfold addU U
  split <;> omega
set_option maxHeartbeats 8000000 in
set_option maxRecDepth 100000 in
theorem fadd_calls (w : World) (a b : Int) (ha : U a) (hb : U b) : Calls Tryd.prog 39 #[.int .u64 a,.int .u64 b] w fun e w' => (∃ o,e = .returned (.tuple #[.int .u64 (addU a b),.bool o])) ∧ w.grownBy w' none:=by
  have HA : Aside0 (addV (V 0 a) (V 0 b) = ((a + b) / 18446744073709551616,(a + b) % 18446744073709551616,true)):=⟨by
    obtain ⟨a0,a1⟩:=ha;obtain ⟨b0,b1⟩:=hb
    unfold addV V
    rw [if_pos (by omega)]
    simp⟩
  have HW:=Am (wadd (ah:=0) (al:=a) (bh:=0) (bl:=b) ⟨by decide,by decide⟩ ha ⟨by decide,by decide⟩ hb)
  have HS : Aside0 ((if 0 < (a + b) / 18446744073709551616 then (#[.int .u64 18446744073709551615,.bool false] : Array Value) else #[.int .u64 ((a + b) % 18446744073709551616),.bool true]) = #[.int .u64 (addU a b),.bool (decide (a + b < 18446744073709551616))]):=⟨by
    obtain ⟨a0,a1⟩:=ha;obtain ⟨b0,b1⟩:=hb
    unfold addU
    by_cases c : a + b < 18446744073709551616
    · rw [if_neg (by omega),if_pos c,decide_eq_true c];congr 2;congr 1;omega
    · rw [if_pos (by omega),if_neg c,decide_eq_false c]⟩
  rw [HA.out] at HW
  clear ha hb HA
  go_enter Tryd.func39,Tryd.ntmps39
  go_wp2_with fail
  refine (wide_Of.calls a 0 a _ rfl).mono ?_
  rintro e w1 ⟨rfl,hb1⟩
  have HB1:=Am (gb_of_below hb1 none)
  clear hb1
  go_wp2_with fail
  refine (wide_Of.calls b 0 b _ rfl).mono ?_
  rintro e w2 ⟨rfl,hb1⟩
  have HB2:=Am (World.grownBy.trans HB1.out (gb_of_below hb1 none))
  clear hb1 HB1
  go_wp2_with fail
  refine (wide_Add.calls 0 a 0 b _ _ _ _ HW.out).mono ?_
  rintro e w3 ⟨rfl,hb1⟩
  have HB3:=Am (World.grownBy.trans HB2.out (gb_of_below hb1 none))
  clear hb1 HB2 HW
  go_wp2_with fail
  refine (of_calls _ _ _).mono ?_
  rintro e w4 ⟨rfl,hg⟩
  have HB4:=Am (World.grownBy.trans HB3.out (World.grownBy.trans (World.grownBy_alloc w3 _ none) hg))
  clear hg HB3
  rw [HS.out]
  clear HS
  go_upto_region 3 with (fail)
  go_quiet (fail)
  go_wp2
  go_ret2
  exact ⟨⟨_,rfl⟩,World.grownBy.trans HB4.out (World.grownBy.trans (World.grownBy_alloc w4 _ none) (gb_drewN _ _ none))⟩
end Go.Proofs.YtbhijfbjdbjpbaaDoor.T
namespace Go.Proofs.YtbhijfbjdbjpbaaDoor.T
open Go.RowKit Go.Proofs.YtbhijfbjdbjpbaaDoorW.PrintWords Go.Proofs.YtbhijfbjdbjpbaaDoorW.PrintLast Go.Proofs.YtbhijfbjdbjpbaaDoor.H Go.Maps Go.Proofs.YtbhijfbjdbjpbaaDoor.Q
set_option linter.unusedVariables false
set_option linter.unusedSimpArgs false
theorem KMap.relab2 {w : World} {P : Nat} {f g : Nat → Int} {kb n : Nat} {D : DataW Value} {ls : List Acc} {j : Nat} (h : KMap w P f kb n D ls j) (hg : ∀ k,k < w.heap.size → 4 ≤ f k → g k = f k) : KMap w P g kb n D ls j:=by
  refine ⟨h.own,fun p h0 hp => ?_,by rw [hg kb h.own.lt (by rw [h.fk];decide)];exact h.fk⟩
  obtain ⟨A,cc,h1,h2,h3⟩:=h.rows p h0 hp
  exact ⟨A,cc,h1,h2,fun b hb => by rw [hg b (h2.lt b hb).2 (by rw [h3 b hb];omega)];exact h3 b hb⟩
def usV (ls : List Acc) (n : Int) : Int:=(ls.map Acc.us).getD n.toNat 0
def AccU (ls : List Acc) : Prop:=∀ a ∈ ls,U a.us
theorem usV_in {ls : List Acc} (h : AccU ls) (n : Int) : U (usV ls n):=by
  unfold usV
  rw [List.getD_eq_getElem?_getD,List.getElem?_map]
  cases e : ls[n.toNat]? with
  | none => exact ⟨by decide,by decide⟩
  | some a => exact h a (List.mem_of_getElem? e)
theorem us_cell {w : World} {ad : Addr} {n : Nat} {ls : List Acc} (h : Rd Ec w (some ad) n ls) {i : Nat} (hi : i < n) : w.cell? ⟨(ad.add (i * 5)).block,(ad.add (i * 5)).off + 4,none⟩ = some (.int .u64 (usV ls (i : Int))):=by
  obtain ⟨a,ha⟩ : ∃ a,ls[i]? = some a:=⟨_,List.getElem?_eq_getElem (by rw [h.1];exact hi)⟩
  have e2 : usV ls (i : Int) = a.us:=by
    unfold usV
    rw [Int.toNat_natCast,List.getD_eq_getElem?_getD,List.getElem?_map,ha];rfl
  rw [e2]
  exact (acc_cells h ha).2.2.2.2
theorem rch_in {ls : List Acc} (t : Tree ls) : ∀ {k : Nat} {p i : Int},Rch ls k p i → 0 ≤ p → 0 ≤ i ∧ i < ls.length
  | 0,_,_,h,_ => h.elim
  | k + 1,p,i,h,hp => by
    rcases h with h | ⟨x,hx,h⟩
    · have:=t.kid hp h;omega
    · exact rch_in t h (by have:=t.kid hp hx;omega)
/-- What stands while a row is written by a walk down the tree. -/
structure Shu (w : World) (P : Nat) (f : Nat → Int) (kb m : Nat) (D : DataW Value) (ls : List Acc) (ad : Addr) (n c g1 g2 g4 g5 ob : Nat) (fv : Value) (T5 : TypeId) : Prop where
  rd : Rd Ec w (some ad) n ls
  km : KMap w P f kb m D ls ls.length
  b1 : w.heap[g1]? = some (.cells #[.slice (some ad) n c] 24 (0,0))
  b2 : w.heap[g2]? = some (.cells #[.map (some kb)] 45 (0,0))
  b4 : w.heap[g4]? = some (.cells #[.slice (some ⟨ob,0,none⟩) n n] 27 (0,0))
  b5 : w.heap[g5]? = some (.cells #[fv] T5 (0,0))
  fa : f ad.block < 0
  f1 : f g1 = 2
  f2 : f g2 = 2
  f4 : f g4 = 2
  f5 : f g5 = 2
  fo : f ob = 0
def F0 (f : Nat → Int) (k : Nat) : Prop:=f k = 0
theorem Shu.tn {w w' : World} {P : Nat} {f : Nat → Int} {kb m : Nat} {D : DataW Value} {ls : List Acc} {ad : Addr} {n c g1 g2 g4 g5 ob : Nat} {fv : Value} {T5 : TypeId} (h : Shu w P f kb m D ls ad n c g1 g2 g4 g5 ob fv T5) (t : Tn w w' (F0 f)) : Shu w' P f kb m D ls ad n c g1 g2 g4 g5 ob fv T5:=by
  have no2 : ∀ g,f g = 2 → ¬ F0 f g:=fun g hg hF => by unfold F0 at hF;omega
  refine ⟨h.rd.tn t (fun a ha _ hF => by cases ha;have:=h.fa;unfold F0 at hF;omega),h.km.tn t (fun k hF => by unfold F0 at hF;omega),blk_tn h.b1 t (no2 _ h.f1),blk_tn h.b2 t (no2 _ h.f2),blk_tn h.b4 t (no2 _ h.f4),blk_tn h.b5 t (no2 _ h.f5),h.fa,h.f1,h.f2,h.f4,h.f5,h.fo⟩
/-- What one walk answers and leaves. -/
def UpI (w : World) (Q : Nat) (f : Nat → Int) (n ob : Nat) (h : Int) (st : List Int) (e : Ending) (w' : World) : Prop:=
  e = .returned (.int .u64 h) ∧ st.length = n ∧ w'.ownsRow Q 25 (Ei .u64).sz (.slice (some ⟨ob,0,none⟩) n n) n (flat (Ei .u64) st) ∧ Tn w w' (F0 f)
def capsU (g1 g2 g4 g5 : Nat) : Array Value:=#[.pointer (some ⟨g1,0,none⟩),.pointer (some ⟨g2,0,none⟩),.pointer (some ⟨g5,0,none⟩),.pointer (some ⟨g4,0,none⟩)]
def upF (h : Int → Int) (ls : List Acc) (p : Int) (ks : List Int) : Int:=ks.foldl (fun x i => addU x (h i)) (usV ls p)
def upS (h : Int → Int) (g : Int → List Int → List Int) (ls : List Acc) (p : Int) (ks : List Int) (st : List Int) : List Int:=(ks.foldl (fun s i => g i s) st).set p.toNat (upF h ls p ks)
set_option maxHeartbeats 8000000 in
set_option maxRecDepth 100000 in
theorem up_walk (P Q : Nat) (f : Nat → Int) (kb m : Nat) (D : DataW Value) (ls : List Acc) (ad : Addr) (n c g1 g2 g4 g5 ob : Nat) (hus : AccU ls) (h : Int → Int) (g : Int → List Int → List Int) (p : Nat) (hpn : p < n)
    (hU : ∀ k ∈ kidsV ls (p : Int) n,U (h k))
    (IH : ∀ i ∈ kidsV ls (p : Int) n,∀ (w : World) (st : List Int),Shu w P f kb m D ls ad n c g1 g2 g4 g5 ob (.func (.func 38) #[] (capsU g1 g2 g4 g5)) 72 → st.length = n → w.ownsRow Q 25 (Ei .u64).sz (.slice (some ⟨ob,0,none⟩) n n) n (flat (Ei .u64) st) →
      Calls Tryd.prog 38 (#[.int .i64 i] ++ capsU g1 g2 g4 g5) w (UpI w Q f n ob (h i) (g i st)))
    (w : World) (st : List Int) (hs : Shu w P f kb m D ls ad n c g1 g2 g4 g5 ob (.func (.func 38) #[] (capsU g1 g2 g4 g5)) 72) (h1 : st.length = n)
    (ho : w.ownsRow Q 25 (Ei .u64).sz (.slice (some ⟨ob,0,none⟩) n n) n (flat (Ei .u64) st)) :
    Calls Tryd.prog 38 (#[.int .i64 p] ++ capsU g1 g2 g4 g5) w (UpI w Q f n ob (upF h ls (p : Int) (kidsV ls (p : Int) n)) (upS h g ls (p : Int) (kidsV ls (p : Int) n) st)):=by
  have HLS:=Am (show ls.length = n from hs.rd.1)
  have hn64:=hs.rd.2.1
  have hpn2 : (p : Int) < (n : Int):=by omega
  have hpw : (Lit.int .i64 (p : Int)).wf = true:=i64_wf (by omega) (by omega)
  obtain ⟨A,cc,hat,hrow,hlab⟩:=hs.km.rows (p : Int) (by omega) hpw
  rw [HLS.out] at hat hrow hlab
  have hlk:=look_of hs.km.own hpw hat
  obtain ⟨ks,hks⟩ : ∃ ks,ks = kidsV ls (p : Int) n:=⟨_,rfl⟩
  rw [← hks] at hU IH hat hrow hlab hlk ⊢
  obtain ⟨r,hr⟩ : ∃ r,r = ks.length:=⟨_,rfl⟩
  have HRL:=Aside0.mk hr
  rw [← hr] at hat hrow hlab hlk
  have HB:=Aside0.mk hrow
  have HLB:=Aside0.mk hlab
  obtain ⟨A',c',he,hrk,-,-⟩:=own_open hr.symm hrow
  injection he with e1 e2 e3
  subst e1 e3
  have HRK:=Aside0.mk hrk
  have hr64:=hrk.2.1
  have HUH:=Aside0.mk hU
  have HIH:=Aside0.mk IH
  have HS:=Aside0.mk hs
  have HO:=Aside0.mk ho
  have HL1:=Aside0.mk h1
  have HU0:=Am (usV_in hus (p : Int))
  have k1:=cell_of (j:=0) hs.b1 rfl
  have k2:=cell_of (j:=0) hs.b2 rfl
  have k3:=us_cell hs.rd hpn
  obtain ⟨x0,hx0⟩ : ∃ x0,x0 = usV ls (p : Int):=⟨_,rfl⟩
  have HX0:=Aside0.mk hx0
  rw [← hx0] at k3 HU0
  clear hrow hlab hat hks hr hrk hU IH hs ho h1 hpw hus hx0
  show Calls Tryd.prog 38 #[.int .i64 p,.pointer (some ⟨g1,0,none⟩),.pointer (some ⟨g2,0,none⟩),.pointer (some ⟨g5,0,none⟩),.pointer (some ⟨g4,0,none⟩)] w _
  go_enter Tryd.func38,Tryd.ntmps38
  go_wp2_with fail
  go_loopg [7,19] r (fun k v7 v19 wr => ∃ (j : Nat) (s : List Int) (x : Int),v7 = .int .u64 x ∧ v19 = .int .i64 j ∧ Aside0 (j + k = r) ∧ j ≤ r ∧ Aside0 ((ks.take j).foldl (fun s i => g i s) st = s) ∧ Aside0 ((ks.take j).foldl (fun x i => addU x (h i)) x0 = x) ∧ Aside0 (U x) ∧ Aside0 (s.length = n) ∧ Aside0 (wr.ownsRow Q 25 (Ei .u64).sz (.slice (some ⟨ob,0,none⟩) n n) n (flat (Ei .u64) s)) ∧ Aside0 (Tn w wr (F0 f)))
  case atStart => exact ⟨0,st,x0,rfl,rfl,⟨by omega⟩,by omega,⟨rfl⟩,⟨rfl⟩,HU0,HL1,HO,⟨Tn.refl _ _⟩⟩
  case round =>
    clear HO HL1 k1 k2 k3 hlk HU0
    obtain ⟨j,s,x,rfl,rfl,HDJ,hj,HE,HEX,HUX,HLN,HN,HT⟩:=hrel
    cases gk with
    | zero =>
      obtain rfl : j = r:=by have:=HDJ.out;omega
      have HS1:=Am (HS.out.tn HT.out)
      have k4:=cell_of (j:=0) HS1.out.b4 rfl
      have hcn:=num_cell HN.out hpn HLN.out
      have hfn:=own_frozen HN.out p
      have hE:=HE.out
      have hEX:=HEX.out
      rw [List.take_of_length_le (by rw [HRL.out];exact Nat.le_refl _)] at hE hEX
      have HF1:=Am (show upF h ls (p : Int) ks = x by unfold upF;rw [← HX0.out];exact hEX)
      have HF2:=Am (show upS h g ls (p : Int) ks st = s.set p x by unfold upS;rw [HF1.out,hE];rfl)
      clear hE hEX
      go_wp2
      go_ret
      refine ⟨by rw [HF1.out];rfl,by rw [HF2.out];simpa using HLN.out,?_,?_⟩
      · rw [HF2.out];exact num_put HN.out hpn HLN.out x
      · exact HT.out.trans' (Tn.set ob p _ HS1.out.fo)
    | succ d =>
      have hlt : j < r:=by have:=HDJ.out;omega
      have hlt1 : decide ((j : Int) < (r : Int)) = true:=decide_eq_true (by omega)
      have hji : (j : Int) < (r : Int):=by omega
      have hjl : j < ks.length:=by rw [← HRL.out];exact hlt
      have HS1:=Am (HS.out.tn HT.out)
      have HRK1:=Am (HRK.out.tn HT.out (fun a ha h0 hF => by
        subst ha
        have h3:=HLB.out a.block
        have hform:=(own_form HB.out).2 a rfl
        rw [hform] at h3
        have h4:=h3 rfl
        simp at h4
        unfold F0 at hF;omega))
      obtain ⟨bd,rfl,hcj⟩:=HRK1.out.int j hlt
      have hmem : rd ks (j : Int) ∈ ks:=by
        have : rd ks (j : Int) = ks[j]:=by simp [rd,List.getD_eq_getElem?_getD,List.getElem?_eq_getElem hjl]
        rw [this];exact List.getElem_mem hjl
      have HCI:=HIH.out _ hmem
      have HUI:=Am (HUH.out _ hmem)
      obtain ⟨q,hq⟩ : ∃ q : Int,q = rd ks (j : Int):=⟨_,rfl⟩
      have HST:=Am (show (ks.take (j + 1)).foldl (fun s i => g i s) st = g q s by rw [take_snoc hjl,← hq,← HE.out,List.foldl_append];rfl)
      have HSX:=Am (show (ks.take (j + 1)).foldl (fun x i => addU x (h i)) x0 = addU x (h q) by rw [take_snoc hjl,← hq,← HEX.out,List.foldl_append];rfl)
      rw [← hq] at hcj HCI HUI
      have HCQ:=Aside0.mk HCI
      have k5:=cell_of (j:=0) HS1.out.b5 rfl
      clear hmem hq HCI
      go_wp2_with fail
      refine (HCQ.out wr s HS1.out HLN.out HN.out).mono ?_
      rintro e w4 ⟨rfl,e1,e3,e5⟩
      have HE1:=Aside0.mk e1
      have HE3:=Aside0.mk e3
      have HE5:=Am (HT.out.trans' e5)
      clear e1 e3 e5 HCQ k5
      go_wp2_with fail
      refine (fadd_calls w4 x (h q) HUX.out HUI.out).mono ?_
      rintro e w5 ⟨⟨o,rfl⟩,hg⟩
      have HW3:=Am (own_kept HE3.out hg (by simp))
      have HW5:=Am (HE5.out.trans' (Tn.gb0 hg _))
      clear hg HE3 HE5
      go_wp2_with fail
      go_roundg d
      case measure => omega
      case rel => exact ⟨j + 1,_,_,rfl,by go_num,⟨by have:=HDJ.out;omega⟩,by omega,⟨HST.out⟩,⟨HSX.out⟩,⟨addU_in HUX.out HUI.out⟩,HE1,HW3,HW5⟩
/-- An account's usage and those below it,as far as k deep. -/
def sumF (ls : List Acc) : Nat → Int → Int
  | 0,_ => 0
  | k + 1,p => upF (sumF ls k) ls p (kidsV ls p ls.length)
def sumS (ls : List Acc) : Nat → Int → List Int → List Int
  | 0,_,st => st
  | k + 1,p,st => upS (sumF ls k) (sumS ls k) ls p (kidsV ls p ls.length) st
theorem foldU {h : Int → Int} : ∀ (ks : List Int) (x : Int),U x → (∀ k ∈ ks,U (h k)) → U (ks.foldl (fun x i => addU x (h i)) x)
  | [],x,hx,_ => hx
  | k :: r,x,hx,hk => foldU r _ (addU_in hx (hk k (List.mem_cons_self ..))) (fun j hj => hk j (List.mem_cons_of_mem _ hj))
theorem sumF_in {ls : List Acc} (h : AccU ls) : ∀ (k : Nat) (p : Int),U (sumF ls k p)
  | 0,_ => (⟨by decide,by decide⟩ : U 0)
  | k + 1,p => foldU _ _ (usV_in h p) (fun i _ => sumF_in h k i)
theorem up_calls (P Q : Nat) (f : Nat → Int) (kb m : Nat) (D : DataW Value) (ls : List Acc) (ad : Addr) (n c g1 g2 g4 g5 ob : Nat) (hus : AccU ls) (t : Tree ls) (hln : ls.length = n) :
    ∀ (k : Nat) (p : Int),0 ≤ p → p < n → 5 ≤ depV ls p + k → ∀ (w : World) (st : List Int),Shu w P f kb m D ls ad n c g1 g2 g4 g5 ob (.func (.func 38) #[] (capsU g1 g2 g4 g5)) 72 → st.length = n → w.ownsRow Q 25 (Ei .u64).sz (.slice (some ⟨ob,0,none⟩) n n) n (flat (Ei .u64) st) →
      Calls Tryd.prog 38 (#[.int .i64 p] ++ capsU g1 g2 g4 g5) w (UpI w Q f n ob (sumF ls k p) (sumS ls k p st)):=by
  intro k
  induction k with
  | zero => intro p h0 h1 hk;have:=(t.dep p.toNat (by omega)).2;rw [Int.toNat_of_nonneg h0] at this;omega
  | succ k ih =>
    intro p h0 h1 hk w st hs l1 o1
    obtain ⟨q,rfl⟩ : ∃ q : Nat,p = q:=⟨p.toNat,by omega⟩
    rw [sumF,sumS,hln]
    refine up_walk P Q f kb m D ls ad n c g1 g2 g4 g5 ob hus (sumF ls k) (sumS ls k) q (by omega) (fun i _ => sumF_in hus k i) (fun i hi w' st' h l1' o1' => ?_) w st hs l1 o1
    rw [← hln] at hi
    obtain ⟨a,b,c',d⟩:=t.kid h0 hi
    exact ih i (by omega) (by omega) (by omega) w' st' h l1' o1'
theorem foldl_same {α β : Type} {f g : α → β → α} : ∀ (l : List β) (a : α),(∀ b ∈ l,∀ a,f a b = g a b) → l.foldl f a = l.foldl g a
  | [],_,_ => rfl
  | b :: r,a,h => by
    rw [List.foldl_cons,List.foldl_cons,h b (List.mem_cons_self ..)]
    exact foldl_same r _ (fun x hx => h x (List.mem_cons_of_mem _ hx))
theorem sumF_more {ls : List Acc} (t : Tree ls) : ∀ (k : Nat) (p : Int),0 ≤ p → p < ls.length → 5 ≤ depV ls p + k → sumF ls (k + 1) p = sumF ls k p
  | 0,p,h0,h1,hk => by have:=(t.dep p.toNat (by omega)).2;rw [Int.toNat_of_nonneg h0] at this;omega
  | k + 1,p,h0,h1,hk => by
    rw [sumF]
    conv => rhs;rw [sumF]
    unfold upF
    refine foldl_same _ _ fun i hi x => ?_
    obtain ⟨a,b,c',d⟩:=t.kid h0 hi
    rw [sumF_more t k i (by omega) b (by omega)]
theorem sumF_5 {ls : List Acc} (t : Tree ls) {p : Int} (h0 : 0 ≤ p) (h1 : p < ls.length) : ∀ (j k : Nat),k + j = 5 → 5 ≤ depV ls p + k → sumF ls k p = sumF ls 5 p
  | 0,k,e,_ => by rw [show k = 5 by omega]
  | j + 1,k,e,hk => by rw [← sumF_more t k p h0 h1 hk];exact sumF_5 t h0 h1 j (k + 1) (by omega) (by omega)
def sumV (ls : List Acc) (i : Int) : Int:=sumF ls 5 i
def sumsV (ls : List Acc) : List Int:=(List.range ls.length).map (fun i : Nat => sumV ls (i : Int))
theorem rd_set' {xs : List Int} {q p : Int} {y : Int} (hq : 0 ≤ q) (hp : 0 ≤ p) (h : p < xs.length) : rd (xs.set q.toNat y) p = if p = q then y else rd xs p:=by
  obtain ⟨a,rfl⟩ : ∃ a : Nat,q = a:=⟨q.toNat,by omega⟩
  obtain ⟨b,rfl⟩ : ∃ b : Nat,p = b:=⟨p.toNat,by omega⟩
  rw [Int.toNat_natCast]
  by_cases e : b = a
  · subst e;rw [if_pos rfl,rd_set_eq (by omega)]
  · rw [if_neg (by omega),rd_set_ne (fun h => e h.symm)]
theorem sumS_ok {ls : List Acc} (t : Tree ls) : ∀ (k : Nat) (p : Int) (st : List Int),0 ≤ p → p < ls.length → 5 ≤ depV ls p + k → k ≤ 5 → st.length = ls.length →
    (sumS ls k p st).length = ls.length ∧ (∀ j : Int,0 ≤ j → j < ls.length → rd st j = sumV ls j → rd (sumS ls k p st) j = sumV ls j) ∧ rd (sumS ls k p st) p = sumV ls p ∧ ∀ j,Rch ls k p j → rd (sumS ls k p st) j = sumV ls j
  | 0,p,st,h0,h1,hk,_,_ => by have:=(t.dep p.toNat (by omega)).2;rw [Int.toNat_of_nonneg h0] at this;omega
  | k + 1,p,st,h0,h1,hk,h5,hl => by
    have key : ∀ (ks : List Int) (s : List Int),(∀ i ∈ ks,i ∈ kidsV ls p ls.length) → s.length = ls.length →
        (ks.foldl (fun s i => sumS ls k i s) s).length = ls.length ∧ (∀ j : Int,0 ≤ j → j < ls.length → rd s j = sumV ls j → rd (ks.foldl (fun s i => sumS ls k i s) s) j = sumV ls j) ∧ ∀ i ∈ ks,rd (ks.foldl (fun s i => sumS ls k i s) s) i = sumV ls i ∧ ∀ j,Rch ls k i j → rd (ks.foldl (fun s i => sumS ls k i s) s) j = sumV ls j:=by
      intro ks
      induction ks with
      | nil => exact fun s _ hs => ⟨hs,fun _ _ _ h => h,fun _ h => by cases h⟩
      | cons i r ih =>
        intro s hks hs
        obtain ⟨i0,i1,i2,i3⟩:=t.kid h0 (hks i (List.mem_cons_self ..))
        obtain ⟨a,b,c,d⟩:=sumS_ok t k i s (by omega) i1 (by omega) (by omega) hs
        obtain ⟨a',b',c'⟩:=ih (sumS ls k i s) (fun j hj => hks j (List.mem_cons_of_mem _ hj)) a
        refine ⟨a',fun j j0 j1 hj => b' j j0 j1 (b j j0 j1 hj),fun j hj => ?_⟩
        rcases List.mem_cons.1 hj with e | e
        · subst e
          refine ⟨b' _ (by omega) i1 c,fun q hq => ?_⟩
          obtain ⟨q0,q1⟩:=rch_in t hq (by omega)
          exact b' q q0 q1 (d q hq)
        · exact c' j e
    obtain ⟨a,b,c⟩:=key _ st (fun _ h => h) hl
    have hS : sumS ls (k + 1) p st = ((kidsV ls p ls.length).foldl (fun s i => sumS ls k i s) st).set p.toNat (sumV ls p):=by
      rw [sumS]
      unfold upS
      rw [show upF (sumF ls k) ls p (kidsV ls p ls.length) = sumF ls (k + 1) p from rfl,sumF_5 t h0 h1 (4 - k) (k + 1) (by omega) hk];rfl
    have hset : ∀ j : Int,0 ≤ j → j < ls.length → rd ((kidsV ls p ls.length).foldl (fun s i => sumS ls k i s) st) j = sumV ls j → rd (sumS ls (k + 1) p st) j = sumV ls j:=fun j j0 j1 hj => by
      rw [hS,rd_set' h0 j0 (by omega)]
      split
      · rename_i e;rw [e]
      · exact hj
    refine ⟨by rw [hS,List.length_set];exact a,fun j j0 j1 hj => hset j j0 j1 (b j j0 j1 hj),by rw [hS,rd_set' h0 h0 (by omega),if_pos rfl],fun j hj => ?_⟩
    obtain ⟨j0,j1⟩:=rch_in t hj h0
    rcases hj with hj | ⟨x,hx,hj⟩
    · exact hset j j0 j1 (c j hj).1
    · exact hset j j0 j1 ((c x hx).2 j hj)
theorem sums_give {ls : List Acc} (t : Tree ls) {st : List Int} (hl : st.length = ls.length) : sumS ls 5 0 st = sumsV ls:=by
  have hp:=t.pos
  obtain ⟨a,b,c,d⟩:=sumS_ok t 5 0 st (by omega) (by omega) (by rw [dep_root];decide) (by omega) hl
  refine list_of_rd (F:=fun i => sumV ls i) a fun i hi => ?_
  rcases rch_all t 5 (i : Int) (by omega) (by omega) (by have:=t.dep i hi;omega) with e | e
  · rw [e];exact c
  · exact d _ e
end Go.Proofs.YtbhijfbjdbjpbaaDoor.T
namespace Go.Proofs.YtbhijfbjdbjpbaaDoor.T
open Go.RowKit Go.Proofs.YtbhijfbjdbjpbaaDoorW.PrintWords Go.Proofs.YtbhijfbjdbjpbaaDoorW.PrintLast Go.Proofs.YtbhijfbjdbjpbaaDoor.H Go.Maps Go.Proofs.YtbhijfbjdbjpbaaDoor.Q
set_option linter.unusedVariables false
set_option linter.unusedSimpArgs false
set_option maxHeartbeats 8000000 in
set_option maxRecDepth 100000 in
theorem sums_calls (w : World) (P : Nat) (f : Nat → Int) (kb m : Nat) (D : DataW Value) (ls : List Acc) (ad : Addr) (n c : Nat) (hr : Rd Ec w (some ad) n ls) (hk : KMap w P f kb m D ls ls.length) (ht : Tree ls) (hus : AccU ls) (hfa : f ad.block < 4) :
    Calls Tryd.prog 19 #[.slice (some ad) n c,.map (some kb)] w fun e w' => ∃ ob,e = .returned (.slice (some ⟨ob,0,none⟩) n n) ∧ w'.ownsRow w.heap.size 25 (Ei .u64).sz (.slice (some ⟨ob,0,none⟩) n n) n (flat (Ei .u64) (sumsV ls)) ∧ w.grownBy w' none:=by
  have hlen:=hr.2.1
  have HN:=Aside0.mk hr.1
  have HTR:=Aside0.mk ht
  have hn64 : n ≤ 64:=by have:=ht.le;have:=hr.1;omega
  have hn0 : 0 < n:=by have:=ht.pos;have:=hr.1;omega
  have HR:=Aside0.mk hr
  have HKM:=Aside0.mk hk
  have HUS:=Aside0.mk hus
  have HFA:=Aside0.mk hfa
  have had : ad.block < w.heap.size:=by
    obtain ⟨x,hx⟩ : ∃ x,ls[0]? = some x:=⟨_,List.getElem?_eq_getElem (by have:=hr.1;omega)⟩
    have:=World.block_lt_of_cell? w _ (acc_cells hr hx).1
    rwa [H.add_block] at this
  have HAD:=Aside0.mk had
  have hmk : ∀ W : World,(Instr.makeSlice 27 (.int .i64 (n : Int)) (.int .i64 (n : Int))).run Tryd.prog W = .ok (.slice (some ⟨W.heap.size,0,none⟩) n n) (W.alloc (.cells (madeCells #[.int .u64 0] n) 25)):=fun W =>
    run_make_row' 27 25 (.int .u64 0) 8 Tryd.underlying27 (by kernel_rfl) rfl .i64 .i64 n (by omega) (by omega) W
  clear hr hk ht hus hfa had
  go_enter Tryd.func19,Tryd.ntmps19
  go_upto_region 1 with (fail)
  obtain ⟨g1,hg1⟩ : ∃ g,g = w.heap.size:=⟨_,rfl⟩
  obtain ⟨g2,hg2⟩ : ∃ g,g = w.heap.size + 1:=⟨_,rfl⟩
  have e2:=World.grownBy_alloc (w.alloc (.cells #[.slice (some ad) n c] 24)) (.cells #[.map (some kb)] 45) none
  have e1:=World.grownBy_alloc w (.cells #[.slice (some ad) n c] 24) none
  have HG1:=Am (World.grownBy.trans e1 e2)
  have HX1:=Am (blk_kept (heap_alloc_new w (.cells #[.slice (some ad) n c] 24)) e2 (by simp))
  have HX2:=Am (heap_alloc_new (w.alloc (.cells #[.slice (some ad) n c] 24)) (.cells #[.map (some kb)] 45))
  simp only [World.size_alloc] at HX2
  have HZ1:=Am (show g1 = w.heap.size ∧ g2 = w.heap.size + 1 from ⟨hg1,hg2⟩)
  rw [← hg1] at HX1
  rw [← hg2] at HX2
  rw [← hg2,← hg1]
  clear e1 e2 hg1 hg2
  have HZW:=Am (show ((w.alloc (.cells #[.slice (some ad) n c] 24)).alloc (.cells #[.map (some kb)] 45)).heap.size = w.heap.size + 2 by simp only [World.size_alloc])
  generalize (w.alloc (.cells #[.slice (some ad) n c] 24)).alloc (.cells #[.map (some kb)] 45) = w1 at HG1 HX1 HX2 HZW ⊢
  have k1:=cell_of (j:=0) HX1.out rfl
  go_upto_region 2 with (fail)
  obtain ⟨ob,hob⟩ : ∃ g,g = w1.heap.size:=⟨_,rfl⟩
  obtain ⟨g4,hg4⟩ : ∃ g,g = w1.heap.size + 1:=⟨_,rfl⟩
  have e1:=World.grownBy_alloc w1 (.cells (madeCells #[.int .u64 0] n) 25) none
  have e2:=World.grownBy_alloc (w1.alloc (.cells (madeCells #[.int .u64 0] n) 25)) (.cells #[.slice (some ⟨w1.heap.size,0,none⟩) n n] 27) none
  have HG2:=Am (World.grownBy.trans e1 e2)
  have HY1:=Am (blk_kept HX1.out HG2.out (by simp))
  have HY2:=Am (blk_kept HX2.out HG2.out (by simp))
  have HX4:=Am (heap_alloc_new (w1.alloc (.cells (madeCells #[.int .u64 0] n) 25)) (.cells #[.slice (some ⟨w1.heap.size,0,none⟩) n n] 27))
  have HO:=Am (blk_kept (heap_alloc_new w1 (.cells (madeCells #[.int .u64 0] n) 25)) e2 (by simp))
  have HW2:=Am (show ((w1.alloc (.cells (madeCells #[.int .u64 0] n) 25)).alloc (.cells #[.slice (some ⟨w1.heap.size,0,none⟩) n n] 27)).heap.size = w1.heap.size + 2 by simp only [World.size_alloc])
  simp only [World.size_alloc] at HX4
  have HZ2:=Am (show ob = w1.heap.size ∧ g4 = w1.heap.size + 1 from ⟨hob,hg4⟩)
  rw [← hg4] at HX4
  rw [← hg4]
  rw [← hob] at HX4 HO HG2 HY1 HY2 HW2 ⊢
  clear e1 e2 hob hg4 hmk k1 HX1 HX2
  generalize (w1.alloc (.cells (madeCells #[.int .u64 0] n) 25)).alloc (.cells #[.slice (some ⟨ob,0,none⟩) n n] 27) = w2 at HG2 HY1 HY2 HX4 HO HW2 ⊢
  go_upto_region 3 with (fail)
  have e3:=World.grownBy_alloc w2 (.cells #[.nilFunc] 72) none
  have HZa:=Am (blk_kept HY1.out e3 (by simp))
  have HZb:=Am (blk_kept HY2.out e3 (by simp))
  have HZd:=Am (blk_kept HX4.out e3 (by simp))
  have HZo:=Am (blk_kept HO.out e3 (by simp))
  have HX5:=Am (heap_alloc_new w2 (.cells #[.nilFunc] 72))
  have HG3:=Am (World.grownBy.trans HG2.out e3)
  obtain ⟨g5,hg5⟩ : ∃ g,g = w2.heap.size:=⟨_,rfl⟩
  have HZ5:=Aside0.mk hg5
  rw [← hg5] at HX5 ⊢
  clear hg5 e3 HY1 HY2 HX4 HO HG2
  generalize w2.alloc (.cells #[.nilFunc] 72) = w3 at HZa HZb HZd HZo HX5 HG3 ⊢
  have hc5:=cell_of (j:=0) HX5.out rfl
  have hf5:=frozen_of (j:=0) HX5.out
  have hst : (store ⟨g5,0,none⟩ (.func (.func 38) #[] #[.pointer (some ⟨g1,0,none⟩),.pointer (some ⟨g2,0,none⟩),.pointer (some ⟨g5,0,none⟩),.pointer (some ⟨g4,0,none⟩)])).run Tryd.prog w3 = .ok () (w3.setCell ⟨g5,0,none⟩ (.func (.func 38) #[] #[.pointer (some ⟨g1,0,none⟩),.pointer (some ⟨g2,0,none⟩),.pointer (some ⟨g5,0,none⟩),.pointer (some ⟨g4,0,none⟩)])):=by
    rw [run_store _ _ _ _ _ rfl,hc5];simp [hf5]
  go_upto_region 4 with (fail)
  have T5 : Tn w3 (w3.setCell ⟨g5,0,none⟩ (.func (.func 38) #[] #[.pointer (some ⟨g1,0,none⟩),.pointer (some ⟨g2,0,none⟩),.pointer (some ⟨g5,0,none⟩),.pointer (some ⟨g4,0,none⟩)])) (fun k => k = g5):=Tn.set g5 0 _ rfl
  obtain ⟨z1,z2⟩:=HZ1.out
  obtain ⟨z3,z4⟩:=HZ2.out
  have z5:=HZ5.out
  have z6:=HZW.out
  have z7:=HW2.out
  have HF1:=Am (blk_tn HZa.out T5 (by show ¬ g1 = g5;omega))
  have HF2:=Am (blk_tn HZb.out T5 (by show ¬ g2 = g5;omega))
  have HF4:=Am (blk_tn HZd.out T5 (by show ¬ g4 = g5;omega))
  have HFO:=Am (blk_tn HZo.out T5 (by show ¬ ob = g5;omega))
  have HF5:=Am (show (w3.setCell ⟨g5,0,none⟩ (.func (.func 38) #[] #[.pointer (some ⟨g1,0,none⟩),.pointer (some ⟨g2,0,none⟩),.pointer (some ⟨g5,0,none⟩),.pointer (some ⟨g4,0,none⟩)])).heap[g5]? = some (.cells #[(.func (.func 38) #[] #[.pointer (some ⟨g1,0,none⟩),.pointer (some ⟨g2,0,none⟩),.pointer (some ⟨g5,0,none⟩),.pointer (some ⟨g4,0,none⟩)])] 72 (0,0)) from blk_set 0 _ HX5.out)
  have HTW:=Am (((Tn.gb0 HG1.out (fun k => w.heap.size ≤ k)).trans' (Tn.gb0 HG3.out _)).trans' (T5.mono (fun i _ h => by show w.heap.size ≤ i;omega)))
  clear T5 hst hc5 hf5 HZa HZb HZd HZo HX5
  generalize w3.setCell ⟨g5,0,none⟩ (.func (.func 38) #[] #[.pointer (some ⟨g1,0,none⟩),.pointer (some ⟨g2,0,none⟩),.pointer (some ⟨g5,0,none⟩),.pointer (some ⟨g4,0,none⟩)]) = w4 at HF1 HF2 HF4 HFO HF5 HTW ⊢
  obtain ⟨fL,hfL⟩ : ∃ fL : Nat → Int,fL = fun k => if k < w.heap.size then (if 4 ≤ f k then f k else -1) else if k = ob then 0 else 2:=⟨_,rfl⟩
  have had:=HAD.out
  have hfa:=HFA.out
  have HS:=Am (show Shu w4 P fL kb m D ls ad n c g1 g2 g4 g5 ob (.func (.func 38) #[] #[.pointer (some ⟨g1,0,none⟩),.pointer (some ⟨g2,0,none⟩),.pointer (some ⟨g5,0,none⟩),.pointer (some ⟨g4,0,none⟩)]) 72 from
    ⟨HR.out.tn HTW.out (fun a ha _ hF => by cases ha;omega),(HKM.out.relab2 (g:=fL) (fun k h1 h2 => by
        rw [hfL]
        show (if _ then _ else _) = _
        rw [if_pos h1,if_pos h2])).tn (HTW.out.mono (G:=fun k => w.heap.size ≤ k) (fun _ _ h => h)) (fun k hF => by
        rw [hfL]
        show (if _ then _ else _) < (4 : Int)
        have hF' : w.heap.size ≤ k:=hF
        rw [if_neg (by omega)]
        split <;> decide),HF1.out,HF2.out,HF4.out,HF5.out,
      by rw [hfL];show (if _ then _ else _) < (0 : Int);rw [if_pos had,if_neg (by omega)];decide,
      by rw [hfL];show (if _ then _ else _) = (2 : Int);rw [if_neg (by omega),if_neg (by omega)],
      by rw [hfL];show (if _ then _ else _) = (2 : Int);rw [if_neg (by omega),if_neg (by omega)],
      by rw [hfL];show (if _ then _ else _) = (2 : Int);rw [if_neg (by omega),if_neg (by omega)],
      by rw [hfL];show (if _ then _ else _) = (2 : Int);rw [if_neg (by omega),if_neg (by omega)],
      by rw [hfL];show (if _ then _ else _) = (0 : Int);rw [if_neg (by omega),if_pos rfl]⟩)
  have HFB:=Am (show ∀ k,F0 fL k → w.heap.size ≤ k from fun k hF => by
    unfold F0 at hF
    rw [hfL] at hF
    rcases Nat.lt_or_ge k w.heap.size with q | q
    · simp only [q,if_true] at hF
      split at hF <;> omega
    · exact q)
  have HNO4:=Am (show ¬ F0 fL g4 from fun h => by unfold F0 at h;have:=HS.out.f4;omega)
  have HOB:=Am (made_own (B:=w.heap.size) HFO.out (by omega) hn64)
  have HUC:=Am (up_calls P w.heap.size fL kb m D ls ad n c g1 g2 g4 g5 ob HUS.out HTR.out HN.out 5 0 (by omega) (by omega) (by rw [dep_root];decide) w4 (List.replicate n 0) HS.out (by simp) HOB.out)
  rw [sums_give HTR.out (by rw [HN.out];simp)] at HUC
  have k5:=cell_of (j:=0) HF5.out rfl
  clear z1 z2 z3 z4 z5 z6 z7 had hfa HS HF5 hfL HKM
  go_wp2_with fail
  refine (HUC.out).mono ?_
  rintro e w5 ⟨rfl,-,ho,ht⟩
  have HO5:=Aside0.mk ho
  have HT5:=Aside0.mk ht
  have k4:=cell_of (j:=0) (blk_tn HF4.out ht HNO4.out) rfl
  clear ho ht k5 HUC
  go_wp2
  go_ret
  exact ⟨ob,rfl,HO5.out,gb_of_tn (HTW.out.trans' (HT5.out.mono (fun i _ h => HFB.out i h))) (fun k h => h)⟩
end Go.Proofs.YtbhijfbjdbjpbaaDoor.T
namespace Go.Proofs.YtbhijfbjdbjpbaaDoor.T
open Go.RowKit Go.Proofs.YtbhijfbjdbjpbaaDoorW.PrintWords Go.Proofs.YtbhijfbjdbjpbaaDoorW.PrintLast Go.Proofs.YtbhijfbjdbjpbaaDoor.H Go.Maps Go.Proofs.YtbhijfbjdbjpbaaDoor.Q Go.Proofs.YtbhijfbjdbjpbaaDoor.GSH
set_option linter.unusedVariables false
set_option linter.unusedSimpArgs false
theorem bind_of {α β : Type} {x : Option α} {a : α} {f : α → Option β} {r : Option β} (h : x = some a) (h2 : f a = r) : x.bind f = r:=by rw [h];exact h2
/-- a * b / c,rounded down,in a word. -/
def partQ (a b c : Int) : Int:=if c = 0 then 0 else a * b / c % 18446744073709551616
theorem VV {x : Int} : V (x / 18446744073709551616) (x % 18446744073709551616) = x:=by unfold V;omega
theorem hiU {a b : Int} (ha : U a) (hb : U b) : U (a * b / 18446744073709551616) ∧ U (a * b % 18446744073709551616):=by
  have:=mul_bd ha hb
  generalize a * b = x at *
  unfold U;omega
theorem part_f {a b c : Int} (ha : U a) (hb : U b) (hc : U c) : share_part.f 20 a b c = some (partQ a b c):=by
  unfold share_part.f partQ
  refine bind_of (wmul ha hb) ?_
  by_cases h0 : c = 0
  · subst h0
    rw [if_pos rfl]
    exact bind_of (wdiv0 20) rfl
  · rw [if_neg h0]
    refine bind_of (wdiv 20 (by omega) (hiU ha hb).1 (hiU ha hb).2 hc h0) ?_
    rw [VV]
theorem partQ_in {a b c : Int} : U (partQ a b c):=by
  unfold partQ U
  split <;> omega
theorem part_calls (w : World) (a b c : Int) (ha : U a) (hb : U b) (hc : U c) : Calls Tryd.prog 21 #[.int .u64 a,.int .u64 b,.int .u64 c] w fun e w' => e = .returned (.int .u64 (partQ a b c)) ∧ w.grownBy w' none:=
  (share_part.calls 20 a b c _ w (part_f ha hb hc)).mono (fun e w' h => ⟨h.1,gb_of_below h.2 none⟩)
def floorV (N Q L A F S P H : Int) : Int:=if checkV N Q L A F S P H = 0 then N * P * 4294967296 else 0
theorem check_cfg {N Q L A F S P H : Int} (h : checkV N Q L A F S P H = 0) : inR N Q L A F S P H = true:=by
  unfold checkV at h
  by_cases c : inR N Q L A F S P H = true
  · exact c
  · rw [if_neg c] at h;cases h
theorem floor_bd {N Q L A F S P H : Int} (h : checkV N Q L A F S P H = 0) : 4294967296 ≤ N * P * 4294967296 ∧ N * P * 4294967296 ≤ 1152921504606846976:=by
  have C:=inR_cfg (check_cfg h)
  have:=area_bd C.n0 C.n1 C.p0 C.p1
  omega
theorem floor_f (N Q L A F S P H : Int) : config_Floor.f 20 N Q L A F S P H = some (floorV N Q L A F S P H):=by
  unfold config_Floor.f floorV
  refine bind_of (p_check 20 (by omega) N Q L A F S P H) ?_
  by_cases h : checkV N Q L A F S P H = 0
  · rw [if_pos h,if_pos h]
    refine bind_of (p_area (bds (inR_cfg (check_cfg h)))) ?_
    have:=floor_bd h
    rw [w64_in (x:=N * P) (by omega) (by omega),w64_in (by omega) (by omega)]
  · rw [if_neg h,if_neg h]
theorem floor_calls (w : World) (a0 a1 a2 a3 a4 a5 a6 a7 : Int) : Calls Tryd.prog 20 #[.agg #[.int .i64 a0,.int .i64 a1,.int .i64 a2,.int .i64 a3,.int .i64 a4,.int .i64 a5,.int .i64 a6,.int .i64 a7]] w fun e w' => e = .returned (.int .u64 (floorV a0 a1 a2 a3 a4 a5 a6 a7)) ∧ w.grownBy w' none:=
  (config_Floor.calls 20 a0 a1 a2 a3 a4 a5 a6 a7 _ w (floor_f a0 a1 a2 a3 a4 a5 a6 a7)).mono (fun e w' h => ⟨h.1,gb_of_below h.2 none⟩)
theorem check_calls (w : World) (a0 a1 a2 a3 a4 a5 a6 a7 : Int) : Calls Tryd.prog 18 #[.agg #[.int .i64 a0,.int .i64 a1,.int .i64 a2,.int .i64 a3,.int .i64 a4,.int .i64 a5,.int .i64 a6,.int .i64 a7]] w fun e w' => e = .returned (.int .i64 (checkV a0 a1 a2 a3 a4 a5 a6 a7)) ∧ w.grownBy w' none:=
  (config_Check.calls 10 a0 a1 a2 a3 a4 a5 a6 a7 _ w (p_check 10 (by omega) a0 a1 a2 a3 a4 a5 a6 a7)).mono (fun e w' h => ⟨h.1,gb_of_below h.2 none⟩)
/-- A usage by a share,with 32 bits behind the point,rounded up;the greatest word at most. -/
def expQ (x n : Int) : Int:=if (x + n * 2147483648 - 1) / (n * 2147483648) < 18446744073709551616 then (x + n * 2147483648 - 1) / (n * 2147483648) else 18446744073709551615
def expV (u n d : Int) : Int:=if n * 4096 < d then expQ (u * 4096) 1 else expQ (u * d) n
theorem expQ_up {x n q r : Int} (hn : 0 < n) (hx : x = q * n + r) (hr0 : 0 ≤ r) (hr : r < n) : (x + n * 2147483648 - 1) / (n * 2147483648) = q / 2147483648 + (if r > 0 ∨ q % 2147483648 > 0 then 1 else 0):=by
  have hq : q = q / 2147483648 * 2147483648 + q % 2147483648:=by omega
  have hm0 : 0 ≤ q % 2147483648:=by omega
  have hm1 : q % 2147483648 < 2147483648:=by omega
  generalize q / 2147483648 = a at *
  generalize q % 2147483648 = b at *
  have hN : 0 < n * 2147483648:=by omega
  have hbn0 : 0 ≤ b * n:=Int.mul_nonneg hm0 (by omega)
  have hbn1 : b * n ≤ 2147483647 * n:=Int.mul_le_mul_of_nonneg_right (by omega) (by omega)
  have hbn2 : 0 < b → n ≤ b * n:=fun h => by
    have:=Int.mul_le_mul_of_nonneg_right (show (1 : Int) ≤ b by omega) (show 0 ≤ n by omega)
    omega
  have e1 : x = a * (n * 2147483648) + (b * n + r):=by
    rw [hx,hq,Int.add_mul,Int.mul_assoc,Int.mul_comm 2147483648 n];omega
  have hb00 : b = 0 → b * n = 0:=fun h => by rw [h,Int.zero_mul]
  generalize b * n = y at *
  by_cases c : r > 0 ∨ b > 0
  · rw [if_pos c]
    have e2 : x + n * 2147483648 - 1 = (y + r - 1) + (a + 1) * (n * 2147483648):=by rw [e1,Int.add_mul,Int.one_mul];omega
    rw [e2,Int.add_mul_ediv_right _ _ (by omega),Int.ediv_eq_zero_of_lt (by omega) (by omega)]
    omega
  · rw [if_neg c]
    have e2 : x + n * 2147483648 - 1 = (y + r + n * 2147483648 - 1) + a * (n * 2147483648):=by rw [e1];omega
    have hb0 : b = 0:=by omega
    have hy0 : y = 0:=hb00 hb0
    rw [e2,Int.add_mul_ediv_right _ _ (by omega),Int.ediv_eq_zero_of_lt (by omega) (by omega)]
    omega
theorem shl33 {x : Int} (h : U x) : (IntKind.u64.wrap (x * 8589934592) > 0) ↔ x % 2147483648 > 0:=by
  rw [w64]
  obtain ⟨a,b⟩:=h
  omega
theorem exp_j0 {x0 x1 x2 : Int} (h0 : U x0) (h1 : U x1) (h2 : U x2) (hp : 0 < x1) : share_exponent.j0 22 x0 x1 x2 = some (expQ (x0 * x2) x1):=by
  rw [share_exponent.j0]
  refine bind_of (wmul h0 h2) ?_
  obtain ⟨u1,u2⟩:=hiU h0 h2
  have hbd:=mul_bd h0 h2
  refine bind_of (wdiv 21 (by omega) u1 u2 h1 (by omega)) ?_
  rw [VV]
  obtain ⟨x,hx⟩ : ∃ x,x = x0 * x2:=⟨_,rfl⟩
  rw [← hx] at hbd ⊢
  obtain ⟨q,hq⟩ : ∃ q,q = x / x1:=⟨_,rfl⟩
  obtain ⟨r,hr⟩ : ∃ r,r = x % x1:=⟨_,rfl⟩
  have hxq : x = q * x1 + r:=by rw [hq,hr,Int.mul_comm];exact (Int.mul_ediv_add_emod x x1).symm
  have hr0 : 0 ≤ r:=by rw [hr];exact Int.emod_nonneg _ (by omega)
  have hr1 : r < x1:=by rw [hr];exact Int.emod_lt_of_pos _ hp
  have hq0 : 0 ≤ q:=by rw [hq];exact Int.ediv_nonneg hbd.1 (by omega)
  have hq1 : q ≤ x:=by rw [hq];exact Int.ediv_le_self _ hbd.1
  have hE:=expQ_up hp hxq hr0 hr1
  unfold expQ
  rw [← hq,← hr,hE]
  have U1 : U (q / 18446744073709551616):=by unfold U;omega
  have U2 : U (q % 18446744073709551616):=by unfold U;omega
  clear hq hr hE hx hxq h0 h1 h2 u1 u2
  refine bind_of (wshr U1 U2 31 (by omega) (by omega)) ?_
  have e31 : shrV (q / 18446744073709551616) (q % 18446744073709551616) 31 = (q / 2147483648 / 18446744073709551616,q / 2147483648 % 18446744073709551616):=by
    unfold shrV
    refine Prod.ext ?_ ?_
    · show q / 18446744073709551616 / 2 ^ 31 = _
      omega
    · show q / 18446744073709551616 * 2 ^ (64 - 31) % 18446744073709551616 + q % 18446744073709551616 / 2 ^ 31 = _
      omega
  rw [e31]
  obtain ⟨e,he⟩ : ∃ e,e = q / 2147483648:=⟨_,rfl⟩
  have hsh:=shl33 U2
  rw [show q % 18446744073709551616 % 2147483648 = q % 2147483648 by omega] at hsh
  rw [← he]
  have U3 : U (e / 18446744073709551616):=by unfold U;omega
  have U4 : U (e % 18446744073709551616):=by unfold U;omega
  have hb : 0 ≤ e ∧ e < 340282366920938463463374607431768211455:=by omega
  have key : ∀ b : Bool,share_exponent.j1 21 b (e / 18446744073709551616) (e % 18446744073709551616) = some (if e + (if b = true then 1 else 0) < 18446744073709551616 then e + (if b = true then 1 else 0) else 18446744073709551615):=by
    intro b
    rw [share_exponent.j1]
    cases b
    · rw [if_neg (by decide)]
      simp only [Bool.false_eq_true,if_false,Int.add_zero]
      by_cases c : e < 18446744073709551616
      · rw [if_neg (by omega),if_pos c];congr 1;omega
      · rw [if_pos (by omega),if_neg c]
    · rw [if_pos rfl]
      simp only [if_true]
      refine bind_of (show wide_Of.f 1 = some (0,1) from rfl) ?_
      refine bind_of (wadd U3 U4 ⟨by decide,by decide⟩ ⟨by decide,by decide⟩) ?_
      rw [VV,show V 0 1 = 1 from rfl,show addV e 1 = ((e + 1) / 18446744073709551616,(e + 1) % 18446744073709551616,true) from if_pos (by omega)]
      dsimp only
      by_cases c : e + 1 < 18446744073709551616
      · rw [if_neg (by omega),if_pos c];congr 1;omega
      · rw [if_pos (by omega),if_neg c]
  dsimp only
  by_cases c : r > 0
  · rw [if_pos c,key true,if_pos rfl,if_pos (Or.inl c)]
  · rw [if_neg c]
    by_cases c2 : q % 2147483648 > 0
    · rw [show (decide (IntKind.u64.wrap (q % 18446744073709551616 * 8589934592) > 0)) = true from decide_eq_true (hsh.2 c2),key true,if_pos rfl,if_pos (Or.inr c2)]
    · rw [show (decide (IntKind.u64.wrap (q % 18446744073709551616 * 8589934592) > 0)) = false from decide_eq_false (fun h => c2 (hsh.1 h)),key false,if_neg (show ¬ (r > 0 ∨ q % 2147483648 > 0) by omega)]
      simp only [Bool.false_eq_true,if_false]
theorem exp_f {u n d : Int} (hu : U u) (hn : U n) (hd : U d) (hp : 0 < n) : share_exponent.f 22 u n d = some (expV u n d):=by
  unfold share_exponent.f
  refine bind_of (wmul hn ⟨by decide,by decide⟩) ?_
  refine bind_of (show wide_Of.f d = some (0,d) from rfl) ?_
  refine bind_of (wcmp (hiU hn ⟨by decide,by decide⟩).2 hd) ?_
  rw [VV,show V 0 d = d by unfold V;omega]
  unfold cmpV expV
  by_cases c : n * 4096 < d
  · rw [if_pos c,if_pos c,if_pos (by decide)]
    exact exp_j0 hu ⟨by decide,by decide⟩ ⟨by decide,by decide⟩ (by decide)
  · rw [if_neg c,if_neg c]
    by_cases c2 : n * 4096 = d
    · rw [if_pos c2,if_neg (by decide)];exact exp_j0 hu hn hd hp
    · rw [if_neg c2,if_neg (by decide)];exact exp_j0 hu hn hd hp
theorem expQ_in {x n : Int} (hx : 0 ≤ x) (hn : 0 < n) : U (expQ x n):=by
  unfold expQ
  have : 0 ≤ (x + n * 2147483648 - 1) / (n * 2147483648):=Int.ediv_nonneg (by omega) (by omega)
  unfold U
  split <;> omega
theorem expV_in {u n d : Int} (hu : U u) (hn : U n) (hd : U d) (hp : 0 < n) : U (expV u n d):=by
  unfold expV
  split
  · exact expQ_in (by have:=hu.1;omega) (by decide)
  · exact expQ_in (Int.mul_nonneg hu.1 hd.1) hp
theorem exponent_calls (w : World) (u n d : Int) (hu : U u) (hn : U n) (hd : U d) (hp : 0 < n) : Calls Tryd.prog 24 #[.int .u64 u,.int .u64 n,.int .u64 d] w fun e w' => e = .returned (.int .u64 (expV u n d)) ∧ w.grownBy w' none:=
  (share_exponent.calls 22 u n d _ w (exp_f hu hn hd hp)).mono (fun e w' h => ⟨h.1,gb_of_below h.2 none⟩)
def halfV (e : Int) : Int:=((HH e.toNat : Nat) : Int)
theorem half_calls (w : World) (hL : LaidW w) (e : Int) (he : U e) : Calls Tryd.prog 23 #[.int .u64 e] w fun q w' => q = .returned (.int .u64 (halfV e)) ∧ w.grownBy w' none:=
  (ladder_Half.calls e _ w hL (half_i he)).mono (fun e w' h => ⟨h.1,gb_of_below h.2 none⟩)
end Go.Proofs.YtbhijfbjdbjpbaaDoor.T
namespace Go.Proofs.YtbhijfbjdbjpbaaDoor.T
open Go.RowKit Go.Proofs.YtbhijfbjdbjpbaaDoorW.PrintWords Go.Proofs.YtbhijfbjdbjpbaaDoorW.PrintLast Go.Proofs.YtbhijfbjdbjpbaaDoor.H Go.Maps Go.Proofs.YtbhijfbjdbjpbaaDoor.Q
set_option linter.unusedVariables false
set_option linter.unusedSimpArgs false
theorem wrapU (x : Int) : U (IntKind.u64.wrap x):=by unfold U;rw [w64];omega
theorem UONE : U 9223372036854775808:=⟨by decide,by decide⟩
theorem sisV_in (ls : List Acc) (ks : List Int) : U (sisV ls ks):=by
  have key : ∀ (ks : List Int) (s : Int),U s → U (ks.foldl (fun s k => IntKind.u64.wrap (s + IntKind.u64.wrap (shV ls k))) s):=by
    intro ks
    induction ks with
    | nil => exact fun s h => h
    | cons k r ih => exact fun s h => ih _ (wrapU _)
  exact key ks 0 ⟨by decide,by decide⟩
/-- What one child's turn writes ahead of its own walk. -/
def setE (ls : List Acc) (ss : List Int) (W : Int) (p : Int) (st : List Int) (i : Int) : List Int:=
  st.set i.toNat (IntKind.u64.wrap (partQ (rd ss i) 9223372036854775808 W + partQ (IntKind.u64.wrap (rd st p - partQ (rd ss i) 9223372036854775808 W)) (IntKind.u64.wrap (shV ls i)) (sisV ls (kidsV ls p ls.length))))
def foldE (g : Int → List Int → List Int) (ls : List Acc) (ss : List Int) (W : Int) (p : Int) (ks : List Int) (st : List Int) : List Int:=ks.foldl (fun s i => g i (setE ls ss W p s i)) st
/-- What stands while the effective usages are written. -/
structure She (w : World) (P : Nat) (f : Nat → Int) (kb m : Nat) (D : DataW Value) (ls : List Acc) (ad : Addr) (n c g1 g2 g4 g5 ob : Nat) (fv : Value) (T5 : TypeId) (g3 g6 sb R : Nat) (ss : List Int) (W : Int) : Prop where
  s : Shu w P f kb m D ls ad n c g1 g2 g4 g5 ob fv T5
  b3 : w.heap[g3]? = some (.cells #[.slice (some ⟨sb,0,none⟩) n n] 27 (0,0))
  b6 : w.heap[g6]? = some (.cells #[.int .u64 W] 25 (0,0))
  sr : w.ownsRow R 25 (Ei .u64).sz (.slice (some ⟨sb,0,none⟩) n n) n (flat (Ei .u64) ss)
  f3 : f g3 = 2
  f6 : f g6 = 2
  fs : f sb = 3
theorem She.tn {w w' : World} {P : Nat} {f : Nat → Int} {kb m : Nat} {D : DataW Value} {ls : List Acc} {ad : Addr} {n c g1 g2 g4 g5 ob : Nat} {fv : Value} {T5 : TypeId} {g3 g6 sb R : Nat} {ss : List Int} {W : Int} (h : She w P f kb m D ls ad n c g1 g2 g4 g5 ob fv T5 g3 g6 sb R ss W) (t : Tn w w' (F0 f)) : She w' P f kb m D ls ad n c g1 g2 g4 g5 ob fv T5 g3 g6 sb R ss W:=
  ⟨h.s.tn t,blk_tn h.b3 t (fun hF => by have:=h.f3;unfold F0 at hF;omega),blk_tn h.b6 t (fun hF => by have:=h.f6;unfold F0 at hF;omega),own_tn h.sr t (fun k hk hF => by cases hk;have h1:=h.fs;have h2 : f sb = 0:=hF;omega),h.f3,h.f6,h.fs⟩
/-- What one walk answers and leaves. -/
def EffI (w : World) (Q : Nat) (f : Nat → Int) (n ob : Nat) (st : List Int) (e : Ending) (w' : World) : Prop:=
  e = .returned (.tuple #[]) ∧ st.length = n ∧ w'.ownsRow Q 25 (Ei .u64).sz (.slice (some ⟨ob,0,none⟩) n n) n (flat (Ei .u64) st) ∧ Tn w w' (F0 f)
def capsE (g1 g2 g3 g6 g4 g5 : Nat) : Array Value:=#[.pointer (some ⟨g1,0,none⟩),.pointer (some ⟨g2,0,none⟩),.pointer (some ⟨g3,0,none⟩),.pointer (some ⟨g6,0,none⟩),.pointer (some ⟨g4,0,none⟩),.pointer (some ⟨g5,0,none⟩)]
set_option maxHeartbeats 8000000 in
set_option maxRecDepth 100000 in
theorem eff_walk (P Q R : Nat) (f : Nat → Int) (kb m : Nat) (D : DataW Value) (ls : List Acc) (ad : Addr) (n c g1 g2 g3 g6 g4 g5 ob sb : Nat) (ss : List Int) (W : Int) (hsl : ss.length = n) (hsu : ∀ i,U (rd ss i)) (hW : U W) (g : Int → List Int → List Int) (p : Nat) (hpn : p < n)
    (hin : ∀ k ∈ kidsV ls (p : Int) n,0 ≤ k ∧ k < n)
    (IH : ∀ i ∈ kidsV ls (p : Int) n,∀ (w : World) (st : List Int),She w P f kb m D ls ad n c g1 g2 g4 g5 ob (.func (.func 22) #[] (capsE g1 g2 g3 g6 g4 g5)) 48 g3 g6 sb R ss W → st.length = n → w.ownsRow Q 25 (Ei .u64).sz (.slice (some ⟨ob,0,none⟩) n n) n (flat (Ei .u64) st) →
      Calls Tryd.prog 22 (#[.int .i64 i] ++ capsE g1 g2 g3 g6 g4 g5) w (EffI w Q f n ob (g i st)))
    (w : World) (st : List Int) (hs : She w P f kb m D ls ad n c g1 g2 g4 g5 ob (.func (.func 22) #[] (capsE g1 g2 g3 g6 g4 g5)) 48 g3 g6 sb R ss W) (h1 : st.length = n)
    (ho : w.ownsRow Q 25 (Ei .u64).sz (.slice (some ⟨ob,0,none⟩) n n) n (flat (Ei .u64) st)) :
    Calls Tryd.prog 22 (#[.int .i64 p] ++ capsE g1 g2 g3 g6 g4 g5) w (EffI w Q f n ob (foldE g ls ss W (p : Int) (kidsV ls (p : Int) n) st)):=by
  have HLS:=Am (show ls.length = n from hs.s.rd.1)
  have hn64:=hs.s.rd.2.1
  have hpn2 : (p : Int) < (n : Int):=by omega
  have hpw : (Lit.int .i64 (p : Int)).wf = true:=i64_wf (by omega) (by omega)
  obtain ⟨A,cc,hat,hrow,hlab⟩:=hs.s.km.rows (p : Int) (by omega) hpw
  rw [HLS.out] at hat hrow hlab
  have hlk:=look_of hs.s.km.own hpw hat
  obtain ⟨ks,hks⟩ : ∃ ks,ks = kidsV ls (p : Int) n:=⟨_,rfl⟩
  have HKS:=Aside0.mk hks
  rw [← hks] at hin IH hat hrow hlab hlk ⊢
  obtain ⟨r,hr⟩ : ∃ r,r = ks.length:=⟨_,rfl⟩
  have HRL:=Aside0.mk hr
  rw [← hr] at hat hrow hlab hlk
  have HB:=Aside0.mk hrow
  have HLB:=Aside0.mk hlab
  obtain ⟨A',c',he,hrk,-,-⟩:=own_open hr.symm hrow
  injection he with e1 e2 e3
  subst e1 e3
  have HRK:=Aside0.mk hrk
  have hr64:=hrk.2.1
  have HSI:=Am (sisters_calls w ad n c ls A r cc ks hs.s.rd hrk hin)
  have HIN:=Aside0.mk hin
  have HIH:=Aside0.mk IH
  have HS:=Aside0.mk hs
  have HO:=Aside0.mk ho
  have HL1:=Aside0.mk h1
  have HSL:=Aside0.mk hsl
  have HSU:=Aside0.mk hsu
  have HUW:=Aside0.mk hW
  have k1:=cell_of (j:=0) hs.s.b1 rfl
  have k2:=cell_of (j:=0) hs.s.b2 rfl
  clear hrow hlab hat hks hr hrk hin IH hs ho h1 hpw hsl hsu hW
  show Calls Tryd.prog 22 #[.int .i64 p,.pointer (some ⟨g1,0,none⟩),.pointer (some ⟨g2,0,none⟩),.pointer (some ⟨g3,0,none⟩),.pointer (some ⟨g6,0,none⟩),.pointer (some ⟨g4,0,none⟩),.pointer (some ⟨g5,0,none⟩)] w _
  go_enter Tryd.func22,Tryd.ntmps22
  go_wp2_with fail
  refine (HSI.out).mono ?_
  rintro e w1 ⟨rfl,rfl⟩
  obtain ⟨all,hall⟩ : ∃ all,all = sisV ls ks:=⟨_,rfl⟩
  have HALL:=Aside0.mk hall
  have HUA:=Am (show U all by rw [hall];exact sisV_in ls ks)
  rw [← hall]
  clear hall HSI
  go_wp2_with fail
  go_loopg [21] r (fun k v21 wr => ∃ (j : Nat) (s : List Int),v21 = .int .i64 j ∧ Aside0 (j + k = r) ∧ j ≤ r ∧ Aside0 (foldE g ls ss W (p : Int) (ks.take j) st = s) ∧ Aside0 (s.length = n) ∧ Aside0 (wr.ownsRow Q 25 (Ei .u64).sz (.slice (some ⟨ob,0,none⟩) n n) n (flat (Ei .u64) s)) ∧ Aside0 (Tn w wr (F0 f)))
  case atStart => exact ⟨0,st,rfl,⟨by omega⟩,by omega,⟨rfl⟩,HL1,HO,⟨Tn.refl _ _⟩⟩
  case round =>
    clear HO HL1 k1 k2 hlk
    obtain ⟨j,s,rfl,HDJ,hj,HE,HLN,HN,HT⟩:=hrel
    cases gk with
    | zero =>
      obtain rfl : j = r:=by have:=HDJ.out;omega
      go_wp2
      go_end0
      refine ⟨rfl,?_⟩
      have hE:=HE.out
      rw [List.take_of_length_le (by rw [HRL.out];exact Nat.le_refl _)] at hE
      rw [hE]
      exact ⟨HLN.out,HN.out,HT.out⟩
    | succ d =>
      have hlt : j < r:=by have:=HDJ.out;omega
      have hlt1 : decide ((j : Int) < (r : Int)) = true:=decide_eq_true (by omega)
      have hji : (j : Int) < (r : Int):=by omega
      have hjl : j < ks.length:=by rw [← HRL.out];exact hlt
      have HS1:=Am (HS.out.tn HT.out)
      have HRK1:=Am (HRK.out.tn HT.out (fun a ha h0 hF => by
        subst ha
        have h3:=HLB.out a.block
        have hform:=(own_form HB.out).2 a rfl
        rw [hform] at h3
        have h4:=h3 rfl
        simp at h4
        unfold F0 at hF;omega))
      obtain ⟨bd,rfl,hcj⟩:=HRK1.out.int j hlt
      have hmem : rd ks (j : Int) ∈ ks:=by
        have : rd ks (j : Int) = ks[j]:=by simp [rd,List.getD_eq_getElem?_getD,List.getElem?_eq_getElem hjl]
        rw [this];exact List.getElem_mem hjl
      obtain ⟨hq0,hq1⟩:=HIN.out _ hmem
      have HCI:=HIH.out _ hmem
      obtain ⟨q,hq⟩ : ∃ q : Nat,rd ks (j : Int) = q:=⟨(rd ks (j : Int)).toNat,by omega⟩
      have HST:=Am (show foldE g ls ss W (p : Int) (ks.take (j + 1)) st = g (q : Int) (setE ls ss W (p : Int) s (q : Int)) by rw [take_snoc hjl,hq,← HE.out];unfold foldE;rw [List.foldl_append];rfl)
      rw [hq] at hcj HCI
      have HCQ:=Aside0.mk HCI
      have HUS:=Am (HSU.out (q : Int))
      have hqn : q < n:=by omega
      have hqn2 : (q : Int) < (n : Int):=by omega
      clear hmem hq0 hq1 hq HCI
      go_upto_region 4 with (fail)
      have HSd:=Am (HS1.out.tn (Tn.drew wr _))
      refine start_ (n:=7) (S:=fun w' => w'.cell? ⟨g3,0,none⟩ = some (.slice (some ⟨sb,0,none⟩) n n) ∧ w'.cell? ⟨sb,q,none⟩ = some (.int .u64 (rd ss (q : Int))) ∧ w'.cell? ⟨g6,0,none⟩ = some (.int .u64 W)) (ds:=[]) #[nn,nn,nn,nn,nn,nn,nn] (by kernel_rfl) rfl rfl ⟨cell_of (j:=0) HSd.out.b3 rfl,num_cell HSd.out.sr hqn HSL.out,cell_of (j:=0) HSd.out.b6 rfl⟩ (fun hHeld => ?_)
      refine pure_ (i:=1) (N:=some 26) (v:=?_) (a':=?_) #[nn,yy,nn,nn,nn,nn,nn] rfl rfl (by kernel_rfl) (fun _ _ _ h => h) (Or.inl ⟨by rfl,?_⟩) ?_ ?_
      rotate_left
      · intro w'
        go_simp
        with_reducible rfl
      rotate_left
      · simp only [NR]
        rfl
      refine take_ (i:=0) (N:=some 25) (v:=?_) (a':=?_) #[yy,yy,nn,nn,nn,nn,nn] rfl rfl (by kernel_rfl) (fun _ _ _ h => h) (Or.inl ⟨by rfl,?_⟩) hHeld ?_ ?_
      rotate_left
      · rintro w' ⟨s0,s1,s2⟩
        go_simp
        with_reducible rfl
      rotate_left
      · simp only [NR]
        rfl
      refine pure_ (i:=2) (N:=some 27) (v:=?_) (a':=?_) #[yy,yy,yy,nn,nn,nn,nn] rfl rfl (by kernel_rfl) (fun _ _ _ h => h) (Or.inl ⟨by rfl,?_⟩) ?_ ?_
      rotate_left
      · intro w'
        go_simp
        with_reducible rfl
      rotate_left
      · simp only [NR]
        rfl
      refine take_ (i:=3) (N:=some 28) (v:=?_) (a':=?_) #[yy,yy,yy,yy,nn,nn,nn] rfl rfl (by kernel_rfl) (fun _ _ _ h => h) (Or.inl ⟨by rfl,?_⟩) hHeld ?_ ?_
      rotate_left
      · rintro w' ⟨s0,s1,s2⟩
        go_simp
        with_reducible rfl
      rotate_left
      · simp only [NR]
        rfl
      refine take_ (i:=4) (N:=some 29) (v:=?_) (a':=?_) #[yy,yy,yy,yy,yy,nn,nn] rfl rfl (by kernel_rfl) (fun _ _ _ h => h) (Or.inl ⟨by rfl,?_⟩) hHeld ?_ ?_
      rotate_left
      · rintro w' ⟨s0,s1,s2⟩
        go_simp
        with_reducible rfl
      rotate_left
      · simp only [NR]
        rfl
      refine one_ (i:=5) (N:=some 30) #[yy,yy,yy,yy,yy,yy,nn] rfl rfl (by kernel_rfl) (by decide) (fun K hK => ?_)
      refine goes_ Tryd.func21 (by kernel_rfl) rfl #[.int .u64 (rd ss (q : Int)),.int .u64 9223372036854775808,.int .u64 W] (by rfl) rfl rfl (by simp only [List.map_toArray,List.map_cons,List.map_nil];try rfl) ?_
      with_reducible refine ((part_calls _ _ _ _ HUS.out UONE HUW.out)).mono ?_
      rintro e w41 ⟨rfl,hg⟩
      refine ⟨_,rfl,?_⟩
      have HG41:=Aside0.mk hg
      refine hK.out _ _ ⟨hg.cell hHeld.1 (by simp),hg.cell hHeld.2.1 (by simp),hg.cell hHeld.2.2 (by simp)⟩ (fun hHeld => ?_)
      clear hK K
      refine norm_ (a':=?_) ?_ ?_
      rotate_left
      · show Act.put _ (some 30) _ = _
        simp only [NR]
        rfl
      refine pure_ (i:=6) (N:=some 11) (v:=?_) (a':=?_) #[yy,yy,yy,yy,yy,yy,yy] rfl rfl (by kernel_rfl) (fun _ _ _ h => h) (Or.inl ⟨by rfl,?_⟩) ?_ ?_
      rotate_left
      · intro w'
        go_simp
        with_reducible rfl
      rotate_left
      · simp only [NR]
        rfl
      refine done_ (by kernel_rfl) ?_
      have HSe:=Am ((HSd.out.tn (Tn.gb0 HG41.out _)).tn (Tn.drew w41 _))
      have HOe:=Am (own_kept (own_kept (own_kept HN.out (gb_drew wr none) (by simp)) HG41.out (by simp)) (gb_drew w41 none) (by simp))
      have HTe:=Am (((HT.out.trans' (Tn.drew wr _)).trans' (Tn.gb0 HG41.out _)).trans' (Tn.drew w41 _))
      obtain ⟨u,hu⟩ : ∃ u,u = partQ (rd ss (q : Int)) 9223372036854775808 W:=⟨_,rfl⟩
      have HUU:=Aside0.mk hu
      rw [← hu]
      clear hu HSd HG41
      go_upto_region 5 with (fail)
      refine start_ (n:=20) (S:=fun w' => w'.cell? ⟨g4,0,none⟩ = some (.slice (some ⟨ob,0,none⟩) n n) ∧ w'.cell? ⟨ob,p,none⟩ = some (.int .u64 (rd s (p : Int))) ∧ w'.cell? ⟨g1,0,none⟩ = some (.slice (some ad) n c) ∧ w'.cell? ⟨(ad.add (q * 5)).block,(ad.add (q * 5)).off + 2,none⟩ = some (.int .i64 (shV ls (q : Int)))) (ds:=[19]) #[nn,nn,nn,nn,nn,nn,nn,nn,nn,nn,nn,nn,nn,nn,nn,nn,nn,nn,nn,nn] (by kernel_rfl) rfl rfl ⟨cell_of (j:=0) HSe.out.s.b4 rfl,num_cell HOe.out hpn HLN.out,cell_of (j:=0) HSe.out.s.b1 rfl,sh_cell HSe.out.s.rd hqn⟩ (fun hHeld => ?_)
      refine pure_ (i:=1) (N:=some 32) (v:=?_) (a':=?_) #[nn,yy,nn,nn,nn,nn,nn,nn,nn,nn,nn,nn,nn,nn,nn,nn,nn,nn,nn,nn] rfl rfl (by kernel_rfl) (fun _ _ _ h => h) (Or.inl ⟨by rfl,?_⟩) ?_ ?_
      rotate_left
      · intro w'
        go_simp
        with_reducible rfl
      rotate_left
      · simp only [NR]
        rfl
      refine pure_ (i:=2) (N:=some 33) (v:=?_) (a':=?_) #[nn,yy,yy,nn,nn,nn,nn,nn,nn,nn,nn,nn,nn,nn,nn,nn,nn,nn,nn,nn] rfl rfl (by kernel_rfl) (fun _ _ _ h => h) (Or.inl ⟨by rfl,?_⟩) ?_ ?_
      rotate_left
      · intro w'
        go_simp
        with_reducible rfl
      rotate_left
      · simp only [NR]
        rfl
      refine pure_ (i:=4) (N:=some 35) (v:=?_) (a':=?_) #[nn,yy,yy,nn,yy,nn,nn,nn,nn,nn,nn,nn,nn,nn,nn,nn,nn,nn,nn,nn] rfl rfl (by kernel_rfl) (fun _ _ _ h => h) (Or.inl ⟨by rfl,?_⟩) ?_ ?_
      rotate_left
      · intro w'
        go_simp
        with_reducible rfl
      rotate_left
      · simp only [NR]
        rfl
      refine pure_ (i:=7) (N:=some 38) (v:=?_) (a':=?_) #[nn,yy,yy,nn,yy,nn,nn,yy,nn,nn,nn,nn,nn,nn,nn,nn,nn,nn,nn,nn] rfl rfl (by kernel_rfl) (fun _ _ _ h => h) (Or.inl ⟨by rfl,?_⟩) ?_ ?_
      rotate_left
      · intro w'
        go_simp
        with_reducible rfl
      rotate_left
      · simp only [NR]
        rfl
      refine pure_ (i:=10) (N:=some 41) (v:=?_) (a':=?_) #[nn,yy,yy,nn,yy,nn,nn,yy,nn,nn,yy,nn,nn,nn,nn,nn,nn,nn,nn,nn] rfl rfl (by kernel_rfl) (fun _ _ _ h => h) (Or.inl ⟨by rfl,?_⟩) ?_ ?_
      rotate_left
      · intro w'
        go_simp
        with_reducible rfl
      rotate_left
      · simp only [NR]
        rfl
      refine pure_ (i:=15) (N:=some 46) (v:=?_) (a':=?_) #[nn,yy,yy,nn,yy,nn,nn,yy,nn,nn,yy,nn,nn,nn,nn,yy,nn,nn,nn,nn] rfl rfl (by kernel_rfl) (fun _ _ _ h => h) (Or.inl ⟨by rfl,?_⟩) ?_ ?_
      rotate_left
      · intro w'
        go_simp
        with_reducible rfl
      rotate_left
      · simp only [NR]
        rfl
      refine take_ (i:=0) (N:=some 31) (v:=?_) (a':=?_) #[yy,yy,yy,nn,yy,nn,nn,yy,nn,nn,yy,nn,nn,nn,nn,yy,nn,nn,nn,nn] rfl rfl (by kernel_rfl) (fun _ _ _ h => h) (Or.inl ⟨by rfl,?_⟩) hHeld ?_ ?_
      rotate_left
      · rintro w' ⟨s0,s1,s2,s3⟩
        go_simp
        with_reducible rfl
      rotate_left
      · simp only [NR]
        rfl
      refine take_ (i:=3) (N:=some 34) (v:=?_) (a':=?_) #[yy,yy,yy,yy,yy,nn,nn,yy,nn,nn,yy,nn,nn,nn,nn,yy,nn,nn,nn,nn] rfl rfl (by kernel_rfl) (fun _ _ _ h => h) (Or.inl ⟨by rfl,?_⟩) hHeld ?_ ?_
      rotate_left
      · rintro w' ⟨s0,s1,s2,s3⟩
        go_simp
        with_reducible rfl
      rotate_left
      · simp only [NR]
        rfl
      refine pure_ (i:=5) (N:=some 36) (v:=?_) (a':=?_) #[yy,yy,yy,yy,yy,yy,nn,yy,nn,nn,yy,nn,nn,nn,nn,yy,nn,nn,nn,nn] rfl rfl (by kernel_rfl) (fun _ _ _ h => h) (Or.inl ⟨by rfl,?_⟩) ?_ ?_
      rotate_left
      · intro w'
        go_simp
        with_reducible rfl
      rotate_left
      · simp only [NR]
        rfl
      refine take_ (i:=6) (N:=some 37) (v:=?_) (a':=?_) #[yy,yy,yy,yy,yy,yy,yy,yy,nn,nn,yy,nn,nn,nn,nn,yy,nn,nn,nn,nn] rfl rfl (by kernel_rfl) (fun _ _ _ h => h) (Or.inl ⟨by rfl,?_⟩) hHeld ?_ ?_
      rotate_left
      · rintro w' ⟨s0,s1,s2,s3⟩
        go_simp
        with_reducible rfl
      rotate_left
      · simp only [NR]
        rfl
      refine pure_ (i:=8) (N:=some 39) (v:=?_) (a':=?_) #[yy,yy,yy,yy,yy,yy,yy,yy,yy,nn,yy,nn,nn,nn,nn,yy,nn,nn,nn,nn] rfl rfl (by kernel_rfl) (fun _ _ _ h => h) (Or.inl ⟨by rfl,?_⟩) ?_ ?_
      rotate_left
      · intro w'
        go_simp
        with_reducible rfl
      rotate_left
      · simp only [NR]
        rfl
      refine take_ (i:=9) (N:=some 40) (v:=?_) (a':=?_) #[yy,yy,yy,yy,yy,yy,yy,yy,yy,yy,yy,nn,nn,nn,nn,yy,nn,nn,nn,nn] rfl rfl (by kernel_rfl) (fun _ _ _ h => h) (Or.inl ⟨by rfl,?_⟩) hHeld ?_ ?_
      rotate_left
      · rintro w' ⟨s0,s1,s2,s3⟩
        go_simp
        with_reducible rfl
      rotate_left
      · simp only [NR]
        rfl
      refine pure_ (i:=11) (N:=some 42) (v:=?_) (a':=?_) #[yy,yy,yy,yy,yy,yy,yy,yy,yy,yy,yy,yy,nn,nn,nn,yy,nn,nn,nn,nn] rfl rfl (by kernel_rfl) (fun _ _ _ h => h) (Or.inl ⟨by rfl,?_⟩) ?_ ?_
      rotate_left
      · intro w'
        go_simp
        with_reducible rfl
      rotate_left
      · simp only [NR]
        rfl
      refine pure_ (i:=12) (N:=some 43) (v:=?_) (a':=?_) #[yy,yy,yy,yy,yy,yy,yy,yy,yy,yy,yy,yy,yy,nn,nn,yy,nn,nn,nn,nn] rfl rfl (by kernel_rfl) (fun _ _ _ h => h) (Or.inl ⟨by rfl,?_⟩) ?_ ?_
      rotate_left
      · intro w'
        go_simp
        with_reducible rfl
      rotate_left
      · simp only [NR]
        rfl
      refine take_ (i:=13) (N:=some 44) (v:=?_) (a':=?_) #[yy,yy,yy,yy,yy,yy,yy,yy,yy,yy,yy,yy,yy,yy,nn,yy,nn,nn,nn,nn] rfl rfl (by kernel_rfl) (fun _ _ _ h => h) (Or.inl ⟨by rfl,?_⟩) hHeld ?_ ?_
      rotate_left
      · rintro w' ⟨s0,s1,s2,s3⟩
        go_simp
        with_reducible rfl
      rotate_left
      · simp only [NR]
        rfl
      refine pure_ (i:=14) (N:=some 45) (v:=?_) (a':=?_) #[yy,yy,yy,yy,yy,yy,yy,yy,yy,yy,yy,yy,yy,yy,yy,yy,nn,nn,nn,nn] rfl rfl (by kernel_rfl) (fun _ _ _ h => h) (Or.inl ⟨by rfl,?_⟩) ?_ ?_
      rotate_left
      · intro w'
        go_simp
        with_reducible rfl
      rotate_left
      · simp only [NR]
        rfl
      refine one_ (i:=16) (N:=some 47) #[yy,yy,yy,yy,yy,yy,yy,yy,yy,yy,yy,yy,yy,yy,yy,yy,yy,nn,nn,nn] rfl rfl (by kernel_rfl) (by decide) (fun K hK => ?_)
      refine goes_ Tryd.func21 (by kernel_rfl) rfl #[.int .u64 (IntKind.u64.wrap (rd s (p : Int) - u)),.int .u64 (IntKind.u64.wrap (shV ls (q : Int))),.int .u64 all] (by rfl) rfl rfl (by simp only [List.map_toArray,List.map_cons,List.map_nil];try rfl) ?_
      with_reducible refine ((part_calls _ _ _ _ (wrapU _) (wrapU _) HUA.out)).mono ?_
      rintro e w43 ⟨rfl,hg⟩
      refine ⟨_,rfl,?_⟩
      have HO43:=Am (own_kept HOe.out hg (by simp));have HG43:=Aside0.mk hg;have hcq:=num_cell HO43.out hqn HLN.out;have hfq:=own_frozen HO43.out q
      refine hK.out _ _ ⟨hg.cell hHeld.1 (by simp),hg.cell hHeld.2.1 (by simp),hg.cell hHeld.2.2.1 (by simp),hg.cell hHeld.2.2.2 (by simp)⟩ (fun hHeld => ?_)
      clear hK K
      refine norm_ (a':=?_) ?_ ?_
      rotate_left
      · show Act.put _ (some 47) _ = _
        simp only [NR]
        rfl
      refine pure_ (i:=17) (N:=some 48) (v:=?_) (a':=?_) #[yy,yy,yy,yy,yy,yy,yy,yy,yy,yy,yy,yy,yy,yy,yy,yy,yy,yy,nn,nn] rfl rfl (by kernel_rfl) (fun _ _ _ h => h) (Or.inl ⟨by rfl,?_⟩) ?_ ?_
      rotate_left
      · intro w'
        go_simp
        with_reducible rfl
      rotate_left
      · simp only [NR]
        rfl
      refine pure_ (i:=18) (N:=some 49) (v:=?_) (a':=?_) #[yy,yy,yy,yy,yy,yy,yy,yy,yy,yy,yy,yy,yy,yy,yy,yy,yy,yy,yy,nn] rfl rfl (by kernel_rfl) (fun _ _ _ h => h) (Or.inl ⟨by rfl,?_⟩) ?_ ?_
      rotate_left
      · intro w'
        go_simp
        with_reducible rfl
      rotate_left
      · simp only [NR]
        rfl
      refine last_ (i:=19) (N:=none) #[yy,yy,yy,yy,yy,yy,yy,yy,yy,yy,yy,yy,yy,yy,yy,yy,yy,yy,yy,yy] rfl rfl (by kernel_rfl) (by decide) (fun K hK => ?_)
      refine skip_ (w1:=?_) (by rfl) rfl ?_ ?_
      rotate_left
      · go_simp
        rfl
      refine hK.out _ _ ?_
      clear hK K
      refine done_ (by kernel_rfl) ?_
      obtain ⟨X,hX⟩ : ∃ X,X = IntKind.u64.wrap (u + partQ (IntKind.u64.wrap (rd s (p : Int) - u)) (IntKind.u64.wrap (shV ls (q : Int))) all):=⟨_,rfl⟩
      have HXY:=Am (show setE ls ss W (p : Int) s (q : Int) = s.set q X by rw [hX,HUU.out,HALL.out,HKS.out,← HLS.out];rfl)
      rw [← hX]
      have HN3:=Am (num_put HO43.out hqn HLN.out X)
      have HT3:=Am ((HTe.out.trans' (Tn.gb0 HG43.out _)).trans' (Tn.set (F:=F0 f) ob q (.int .u64 X) HS1.out.s.fo))
      clear hX hcq hfq hcj
      generalize w43.setCell ⟨ob,q,none⟩ (.int .u64 X) = w3 at HN3 HT3 ⊢
      have HS3:=Am (HS.out.tn HT3.out)
      have hc5:=cell_of (j:=0) HS3.out.s.b5 rfl
      go_wp2_with fail
      refine (HCQ.out w3 (setE ls ss W (p : Int) s (q : Int)) HS3.out (by rw [HXY.out];simpa using HLN.out) (by rw [HXY.out];exact HN3.out)).mono ?_
      rintro e w4 ⟨rfl,e1,e3,e5⟩
      have HE1:=Aside0.mk e1
      have HE3:=Aside0.mk e3
      have HE5:=Aside0.mk e5
      clear e1 e3 e5 HCQ hc5
      go_wp2_with fail
      go_roundg d
      case measure => omega
      case rel => exact ⟨j + 1,_,by go_num,⟨by have:=HDJ.out;omega⟩,by omega,⟨HST.out⟩,HE1,HE3,⟨HT3.out.trans' HE5.out⟩⟩
/-- What the walk down from p writes,as far as k deep. -/
def effS (ls : List Acc) (ss : List Int) (W : Int) : Nat → Int → List Int → List Int
  | 0,_,st => st
  | k + 1,p,st => foldE (effS ls ss W k) ls ss W p (kidsV ls p ls.length) st
theorem eff_calls (P Q R : Nat) (f : Nat → Int) (kb m : Nat) (D : DataW Value) (ls : List Acc) (ad : Addr) (n c g1 g2 g3 g6 g4 g5 ob sb : Nat) (ss : List Int) (W : Int) (hsl : ss.length = n) (hsu : ∀ i,U (rd ss i)) (hW : U W) (t : Tree ls) (hln : ls.length = n) :
    ∀ (k : Nat) (p : Int),0 ≤ p → p < n → 5 ≤ depV ls p + k → ∀ (w : World) (st : List Int),She w P f kb m D ls ad n c g1 g2 g4 g5 ob (.func (.func 22) #[] (capsE g1 g2 g3 g6 g4 g5)) 48 g3 g6 sb R ss W → st.length = n → w.ownsRow Q 25 (Ei .u64).sz (.slice (some ⟨ob,0,none⟩) n n) n (flat (Ei .u64) st) →
      Calls Tryd.prog 22 (#[.int .i64 p] ++ capsE g1 g2 g3 g6 g4 g5) w (EffI w Q f n ob (effS ls ss W k p st)):=by
  intro k
  induction k with
  | zero => intro p h0 h1 hk;have:=(t.dep p.toNat (by omega)).2;rw [Int.toNat_of_nonneg h0] at this;omega
  | succ k ih =>
    intro p h0 h1 hk w st hs l1 o1
    obtain ⟨q,rfl⟩ : ∃ q : Nat,p = q:=⟨p.toNat,by omega⟩
    rw [effS,hln]
    refine eff_walk P Q R f kb m D ls ad n c g1 g2 g3 g6 g4 g5 ob sb ss W hsl hsu hW (effS ls ss W k) q (by omega) (fun i hi => by rw [← hln] at hi ⊢;have:=t.kid h0 hi;omega) (fun i hi w' st' h l1' o1' => ?_) w st hs l1 o1
    rw [← hln] at hi
    obtain ⟨a,b,c',d⟩:=t.kid h0 hi
    exact ih i (by omega) (by omega) (by omega) w' st' h l1' o1'
/-- An account's effective usage: from its parent's. -/
def efG (ls : List Acc) (ss : List Int) (W : Int) (i : Int) (x : Int) : Int:=
  IntKind.u64.wrap (partQ (rd ss i) 9223372036854775808 W + partQ (IntKind.u64.wrap (x - partQ (rd ss i) 9223372036854775808 W)) (IntKind.u64.wrap (shV ls i)) (sisV ls (kidsV ls (parV ls i) ls.length)))
def effV (ls : List Acc) (W : Int) (i : Int) : Int:=clm (partQ (rd (sumsV ls) 0) 9223372036854775808 W) (efG ls (sumsV ls) W) ls 4 i
def effsV (ls : List Acc) (W : Int) : List Int:=(List.range ls.length).map (fun i : Nat => effV ls W (i : Int))
theorem eff_gives {ls : List Acc} (t : Tree ls) (W : Int) : effS ls (sumsV ls) W 5 0 ((List.replicate ls.length (0 : Int)).set 0 (partQ (rd (sumsV ls) 0) 9223372036854775808 W)) = effsV ls W:=by
  have hp:=t.pos
  have h0 : rd ((List.replicate ls.length (0 : Int)).set 0 (partQ (rd (sumsV ls) 0) 9223372036854775808 W)) 0 = effV ls W 0:=by
    have:=rd_set_eq (xs:=List.replicate ls.length (0 : Int)) (q:=0) (y:=partQ (rd (sumsV ls) 0) 9223372036854775808 W) (by simpa using hp)
    simpa [effV,clm_root] using this
  obtain ⟨a,b,c⟩:=down_ok (ls:=ls) (fun p s i => setE ls (sumsV ls) W p s i) (fun s i => rd s i = effV ls W i) (fun s => s.length = ls.length) (effS ls (sumsV ls) W) (fun p s => rfl) (fun k p s => rfl)
    (fun p s i h0 hi hok hinv => by
      obtain ⟨k0,k1,k2,k3⟩:=t.kid h0 hi
      obtain ⟨q,rfl⟩ : ∃ q : Nat,i = q:=⟨i.toNat,by omega⟩
      have e : effV ls W (q : Int) = efG ls (sumsV ls) W (q : Int) (rd s p):=by
        rw [show effV ls W (q : Int) = efG ls (sumsV ls) W (q : Int) (effV ls W (parV ls (q : Int))) from clm_step t k0 k1,k2,← hok]
      unfold efG at e
      rw [k2] at e
      refine ⟨by simp [setE,hinv],?_,fun j hj => ?_⟩
      · unfold setE
        rw [Int.toNat_natCast,rd_set_eq (by omega),e]
      · by_cases hjq : j.toNat = q
        · unfold setE
          by_cases hj0 : 0 ≤ j
          · obtain rfl : j = q:=by omega
            rw [Int.toNat_natCast,rd_set_eq (by omega),e]
          · exfalso;omega
        · unfold setE
          simp only [Int.toNat_natCast,rd,List.getD_eq_getElem?_getD]
          rw [List.getElem?_set_ne (fun h => hjq h.symm)]
          simpa [rd,List.getD_eq_getElem?_getD] using hj)
    5 0 _ (by omega) h0 (by simp)
  refine list_of_rd (F:=fun i => effV ls W i) a fun i hi => ?_
  rcases rch_all t 5 (i : Int) (by omega) (by omega) (by have:=t.dep i hi;omega) with e | e
  · rw [e];exact b 0 h0
  · exact c _ e
end Go.Proofs.YtbhijfbjdbjpbaaDoor.T
namespace Go.Proofs.YtbhijfbjdbjpbaaDoor.T
open Go.RowKit Go.Proofs.YtbhijfbjdbjpbaaDoorW.PrintWords Go.Proofs.YtbhijfbjdbjpbaaDoorW.PrintLast Go.Proofs.YtbhijfbjdbjpbaaDoor.H Go.Maps Go.Proofs.YtbhijfbjdbjpbaaDoor.Q
set_option linter.unusedVariables false
set_option linter.unusedSimpArgs false
/-- A nought in a cell of its own. -/
def New1 (w w' : World) (g : Nat) : Prop:=w'.heap[g]? = some (.cells #[.int .u64 0] 25 (0,0)) ∧ w.heap.size ≤ g ∧ w.grownBy w' none
theorem new1_a {w w1 : World} (h : w.drew.grownBy w1 none) : New1 w (w1.alloc (.cells #[.int .u64 0] 25)) w1.heap.size:=
  ⟨heap_alloc_new w1 _,h.size,World.grownBy.trans (World.grownBy.trans (gb_drew w none) h) (World.grownBy_alloc w1 _ none)⟩
theorem new1_b {w w1 : World} (h : (w.drew.alloc (.cells #[.int .u64 0] 25)).grownBy w1 none) : New1 w w1 w.heap.size:=
  ⟨blk_kept (heap_alloc_new w.drew _) h (by simp),Nat.le_refl _,World.grownBy.trans (gb_drew w none) (World.grownBy.trans (World.grownBy_alloc w.drew _ none) h)⟩
/-- The whole: what all have used,or Floor. -/
def wholeV (ls : List Acc) (F : Int) : Int:=if rd (sumsV ls) 0 < F then F else rd (sumsV ls) 0
/-- What Effective answers: nothing,or the effective usages in a list of one's own. -/
def EffectI (w : World) (C F : Int) (ls : List Acc) (e : Ending) (w' : World) : Prop:=
  w.grownBy w' none ∧ (((loadE ls ≠ 0 ∨ C ≠ 0) ∧ e = .returned (.slice none 0 0)) ∨
    (loadE ls = 0 ∧ C = 0 ∧ ∃ ob,e = .returned (.slice (some ⟨ob,0,none⟩) ls.length ls.length) ∧
      w'.ownsRow w.heap.size 25 (Ei .u64).sz (.slice (some ⟨ob,0,none⟩) ls.length ls.length) ls.length (flat (Ei .u64) (effsV ls (wholeV ls F)))))
set_option maxHeartbeats 8000000 in
set_option maxRecDepth 100000 in
theorem Effective_calls (w : World) (a0 a1 a2 a3 a4 a5 a6 a7 : Int) (A : Option Addr) (n c : Nat) (ls : List Acc) (hr : Rd Ec w A n ls) (hc : n ≤ c) (hok : AccOk ls) (hus : AccU ls) :
    Calls Tryd.prog 7 #[.agg #[.int .i64 a0,.int .i64 a1,.int .i64 a2,.int .i64 a3,.int .i64 a4,.int .i64 a5,.int .i64 a6,.int .i64 a7],.slice A n c] w (EffectI w (checkV a0 a1 a2 a3 a4 a5 a6 a7) (floorV a0 a1 a2 a3 a4 a5 a6 a7) ls):=by
  have hlen:=hr.2.1
  have HR:=Aside0.mk hr
  have HN:=Aside0.mk hr.1
  have HUS:=Aside0.mk hus
  have HK : Aside0 (∀ W : World,Rd Ec W A n ls → Calls Tryd.prog 15 #[.slice A n c] W (KidsI W ls)):=⟨fun W h => by
    cases ls with
    | nil => obtain rfl : n = 0:=h.1.symm;exact kids_nil W A c
    | cons x r =>
      obtain ⟨ad,e,_⟩:=h.2.2 (by have:=h.1;simp at this;omega)
      subst e
      exact kids_calls W ad n c x r h hc hok⟩
  obtain ⟨C,hC⟩ : ∃ C,C = checkV a0 a1 a2 a3 a4 a5 a6 a7:=⟨_,rfl⟩
  have HCV:=Aside0.mk hC
  obtain ⟨F,hF⟩ : ∃ F,F = floorV a0 a1 a2 a3 a4 a5 a6 a7:=⟨_,rfl⟩
  have HFV:=Aside0.mk hF
  rw [← hC,← hF]
  clear hr hc hok hus hC hF
  go_enter Tryd.func7,Tryd.ntmps7
  go_upto_region 1 with (fail)
  obtain ⟨g7,hg7⟩ : ∃ g,g = w.heap.size:=⟨_,rfl⟩
  obtain ⟨g1,hg1⟩ : ∃ g,g = w.heap.size + 1:=⟨_,rfl⟩
  have e2:=World.grownBy_alloc (w.alloc (.cells #[.int .i64 a0,.int .i64 a1,.int .i64 a2,.int .i64 a3,.int .i64 a4,.int .i64 a5,.int .i64 a6,.int .i64 a7] 23)) (.cells #[.slice A n c] 24) none
  have e1:=World.grownBy_alloc w (.cells #[.int .i64 a0,.int .i64 a1,.int .i64 a2,.int .i64 a3,.int .i64 a4,.int .i64 a5,.int .i64 a6,.int .i64 a7] 23) none
  have HG1:=Am (World.grownBy.trans e1 e2)
  have HX7:=Am (blk_kept (heap_alloc_new w (.cells #[.int .i64 a0,.int .i64 a1,.int .i64 a2,.int .i64 a3,.int .i64 a4,.int .i64 a5,.int .i64 a6,.int .i64 a7] 23)) e2 (by simp))
  have HX1:=Am (heap_alloc_new (w.alloc (.cells #[.int .i64 a0,.int .i64 a1,.int .i64 a2,.int .i64 a3,.int .i64 a4,.int .i64 a5,.int .i64 a6,.int .i64 a7] 23)) (.cells #[.slice A n c] 24))
  simp only [World.size_alloc] at HX1
  have HZ1:=Am (show g7 = w.heap.size ∧ g1 = w.heap.size + 1 from ⟨hg7,hg1⟩)
  rw [← hg7] at HX7
  rw [← hg1] at HX1
  rw [← hg1,← hg7]
  clear e1 e2 hg1 hg7
  generalize (w.alloc (.cells #[.int .i64 a0,.int .i64 a1,.int .i64 a2,.int .i64 a3,.int .i64 a4,.int .i64 a5,.int .i64 a6,.int .i64 a7] 23)).alloc (.cells #[.slice A n c] 24) = w1 at HG1 HX1 HX7 ⊢
  have HZW:=Am (And.intro (blk_lt' HX1.out) (blk_lt' HX7.out))
  have k1:=cell_of (j:=0) HX1.out rfl
  go_wp2_with fail
  refine (HK.out w1 (HR.out.gb HG1.out)).mono ?_
  rintro e w2 ⟨hg,h⟩
  have HG2:=Aside0.mk hg
  have HX1b:=Am (blk_kept HX1.out hg (by simp))
  have HX7b:=Am (blk_kept HX7.out hg (by simp))
  clear hg k1 HX1 HX7 HK
  rcases h with ⟨hne,rfl⟩ | ⟨h0,kb,m,D,f,rfl,hkm,hlow⟩
  · have HNE:=Aside0.mk hne
    clear hne
    go_wp2
    go_ret
    exact ⟨World.grownBy.trans (World.grownBy.trans HG1.out HG2.out) (World.grownBy_alloc w2 (.cells #[.map none] 45) none),.inl ⟨.inl HNE.out,rfl⟩⟩
  · obtain ⟨f1,hf1⟩ : ∃ f1 : Nat → Int,f1 = fun k => if k < w2.heap.size then f k else -1:=⟨_,rfl⟩
    replace hkm:=hkm.relab2 (g:=f1) (fun k h1 _ => by rw [hf1];exact if_pos h1)
    replace hlow : ∀ k,k < w1.heap.size → f1 k = -1000:=fun k hk => by
      rw [hf1]
      exact (if_pos (Nat.lt_of_lt_of_le hk HG2.out.size)).trans (hlow k hk)
    have HHI:=Am (show ∀ k,w2.heap.size ≤ k → f1 k = -1 from fun k hk => by rw [hf1];exact if_neg (by omega))
    clear hf1 f
    obtain ⟨f,rfl⟩ : ∃ f : Nat → Int,f = f1:=⟨_,rfl⟩
    have HKM:=Aside0.mk hkm
    have HLOW:=Aside0.mk hlow
    have HT0:=Am (tree_of h0)
    have HE0:=Aside0.mk h0
    clear hkm hlow h0
    go_upto_region 2 with (fail)
    have HX1c:=Am (blk_kept HX1b.out (World.grownBy_alloc w2 (.cells #[.map (some kb)] 45) none) (by simp))
    have HX7c:=Am (blk_kept HX7b.out (World.grownBy_alloc w2 (.cells #[.map (some kb)] 45) none) (by simp))
    have HX2c:=Am (heap_alloc_new w2 (.cells #[.map (some kb)] 45))
    have HG3:=Am (World.grownBy.trans HG2.out (World.grownBy_alloc w2 (.cells #[.map (some kb)] 45) none))
    have HKMc:=Am (HKM.out.tn (Tn.gb0 (World.grownBy_alloc w2 (.cells #[.map (some kb)] 45) none) (fun _ => False)) (fun _ h => h.elim))
    obtain ⟨g2,hg2⟩ : ∃ g,g = w2.heap.size:=⟨_,rfl⟩
    have HG2S:=Am (show w1.heap.size ≤ g2 ∧ w2.heap.size ≤ g2 from ⟨by rw [hg2];exact HG2.out.size,by omega⟩)
    have HZ3:=Am (World.grownBy_alloc w2 (.cells #[.map (some kb)] 45) none).size
    rw [← hg2] at HX2c ⊢
    clear hg2 HX1b HX7b HKM HG2
    generalize w2.alloc (.cells #[.map (some kb)] 45) = w3 at HX1c HX2c HX7c HG3 HKMc HZ3 ⊢
    have c0:=cell_of (j:=0) HX7c.out rfl
    have c1:=cell_of (j:=1) HX7c.out rfl
    have c2:=cell_of (j:=2) HX7c.out rfl
    have c3:=cell_of (j:=3) HX7c.out rfl
    have c4:=cell_of (j:=4) HX7c.out rfl
    have c5:=cell_of (j:=5) HX7c.out rfl
    have c6:=cell_of (j:=6) HX7c.out rfl
    have c7:=cell_of (j:=7) HX7c.out rfl
    have HCK:=Am (check_calls w3 a0 a1 a2 a3 a4 a5 a6 a7)
    rw [← HCV.out] at HCK
    go_wp2_with fail
    refine (HCK.out).mono ?_
    rintro e w4 ⟨rfl,hg⟩
    have HX1d:=Am (blk_kept HX1c.out hg (by simp))
    have HX2d:=Am (blk_kept HX2c.out hg (by simp))
    have HX7d:=Am (blk_kept HX7c.out hg (by simp))
    have HG4:=Am (World.grownBy.trans HG3.out hg)
    have HG2U:=Am (blk_lt' HX2d.out)
    have HZ4:=Am (show w2.heap.size ≤ w4.heap.size from Nat.le_trans HZ3.out hg.size)
    have HKMd:=Am (HKMc.out.tn (Tn.gb0 hg (fun _ => False)) (fun _ h => h.elim))
    clear hg c0 c1 c2 c3 c4 c5 c6 c7 HX1c HX2c HX7c HKMc HCK HG3
    by_cases hC0 : C = 0
    · have b0 : (C != 0) = false:=by simp [hC0]
      have HC0:=Aside0.mk hC0
      clear hC0
      have hn0 : 0 < n:=by have:=HT0.out.pos;have:=HN.out;omega
      have hn0i : (0 : Int) < (n : Int):=by omega
      obtain ⟨ad,hA,hcell⟩:=HR.out.2.2 hn0
      subst hA
      have had : ad.block < w.heap.size:=by
        obtain ⟨x,hx⟩ : ∃ x,ls[0]? = some x:=⟨_,List.getElem?_eq_getElem (by have:=HN.out;omega)⟩
        have:=World.block_lt_of_cell? w _ (acc_cells HR.out hx).1
        rwa [H.add_block] at this
      have HAD:=Aside0.mk had
      have HSM:=Am (sums_calls w4 w1.heap.size f kb m D ls ad n c ((HR.out.gb HG1.out).gb HG4.out) HKMd.out HT0.out HUS.out (by rw [HLOW.out _ (by have:=HG1.out.size;omega)];decide))
      have k1:=cell_of (j:=0) HX1d.out rfl
      have k2:=cell_of (j:=0) HX2d.out rfl
      clear hcell had
      go_wp2_with fail
      refine (HSM.out).mono ?_
      rintro e w5 ⟨sb,rfl,ho,hg⟩
      have HX1e:=Am (blk_kept HX1d.out hg (by simp))
      have HX2e:=Am (blk_kept HX2d.out hg (by simp))
      have HX7e:=Am (blk_kept HX7d.out hg (by simp))
      have HKMe:=Am (HKMd.out.tn (Tn.gb0 hg (fun _ => False)) (fun _ h => h.elim))
      have HSR:=Aside0.mk ho
      have HG5:=Am (World.grownBy.trans HG4.out hg)
      have HS4:=Am (show w4.heap.size ≤ sb from (ho.lt sb rfl).1)
      clear hg ho k1 k2 HSM HX1d HX2d HX7d HKMd
      go_upto_region 5 with (fail)
      have eA:=World.grownBy_alloc w5 (.cells #[.slice (some ⟨sb,0,none⟩) n n] 27) none
      have HX1f:=Am (blk_kept HX1e.out eA (by simp))
      have HX2f:=Am (blk_kept HX2e.out eA (by simp))
      have HX7f:=Am (blk_kept HX7e.out eA (by simp))
      have HX3:=Am (heap_alloc_new w5 (.cells #[.slice (some ⟨sb,0,none⟩) n n] 27))
      have HKMf:=Am (HKMe.out.tn (Tn.gb0 eA (fun _ => False)) (fun _ h => h.elim))
      have HSRf:=Am (own_kept HSR.out eA (by simp))
      have HG6:=Am (World.grownBy.trans HG5.out eA)
      obtain ⟨g3,hg3⟩ : ∃ g,g = w5.heap.size:=⟨_,rfl⟩
      have HG3S:=Am (show sb < g3 by rw [hg3];exact (HSR.out.lt sb rfl).2)
      have HG3T:=Am (show w4.heap.size ≤ g3 by have h1:=HS4.out;have h2:=HG3S.out;omega)
      rw [← hg3] at HX3 ⊢
      clear hg3 eA HX1e HX2e HX7e HKMe HSR HG5
      generalize w5.alloc (.cells #[.slice (some ⟨sb,0,none⟩) n n] 27) = w6 at HX1f HX2f HX7f HX3 HKMf HSRf HG6 ⊢
      obtain ⟨s0,hs0⟩ : ∃ s0,s0 = rd (sumsV ls) ((0 : Nat) : Int):=⟨_,rfl⟩
      have HS0E:=Aside0.mk hs0
      have HSL:=Am (show (sumsV ls).length = n by unfold sumsV;rw [List.length_map,List.length_range];exact HN.out)
      have HS0:=Am (num_cell HSRf.out hn0 HSL.out)
      rw [← hs0] at HS0
      have HX7e:=Am (show w6.drew.heap[g7]? = _ from HX7f.out)
      clear hs0
      have HFC : Aside0 (∀ W : World,Calls Tryd.prog 20 #[.agg #[.int .i64 a0,.int .i64 a1,.int .i64 a2,.int .i64 a3,.int .i64 a4,.int .i64 a5,.int .i64 a6,.int .i64 a7]] W fun e w' => e = .returned (.int .u64 F) ∧ W.grownBy w' none):=⟨fun W => by rw [HFV.out];exact floor_calls W a0 a1 a2 a3 a4 a5 a6 a7⟩
      refine start_ (n:=8) (S:=fun w' => w'.cell? ⟨g3,0,none⟩ = some (.slice (some ⟨sb,0,none⟩) n n) ∧ w'.cell? ⟨sb,0,none⟩ = some (.int .u64 s0) ∧ w'.cell? ⟨g7,0,none⟩ = some (.int .i64 a0) ∧ w'.cell? ⟨g7,1,none⟩ = some (.int .i64 a1) ∧ w'.cell? ⟨g7,2,none⟩ = some (.int .i64 a2) ∧ w'.cell? ⟨g7,3,none⟩ = some (.int .i64 a3) ∧ w'.cell? ⟨g7,4,none⟩ = some (.int .i64 a4) ∧ w'.cell? ⟨g7,5,none⟩ = some (.int .i64 a5) ∧ w'.cell? ⟨g7,6,none⟩ = some (.int .i64 a6) ∧ w'.cell? ⟨g7,7,none⟩ = some (.int .i64 a7)) (ds:=[7]) #[nn,nn,nn,nn,nn,nn,nn,nn] (by kernel_rfl) rfl rfl ⟨cell_of (j:=0) (show w6.drew.heap[g3]? = _ from HX3.out) rfl,HS0.out,cell_of (j:=0) (show w6.drew.heap[g7]? = _ from HX7e.out) rfl,cell_of (j:=1) (show w6.drew.heap[g7]? = _ from HX7e.out) rfl,cell_of (j:=2) (show w6.drew.heap[g7]? = _ from HX7e.out) rfl,cell_of (j:=3) (show w6.drew.heap[g7]? = _ from HX7e.out) rfl,cell_of (j:=4) (show w6.drew.heap[g7]? = _ from HX7e.out) rfl,cell_of (j:=5) (show w6.drew.heap[g7]? = _ from HX7e.out) rfl,cell_of (j:=6) (show w6.drew.heap[g7]? = _ from HX7e.out) rfl,cell_of (j:=7) (show w6.drew.heap[g7]? = _ from HX7e.out) rfl⟩ (fun hHeld => ?_)
      refine take_ (i:=0) (N:=some 26) (v:=?_) (a':=?_) #[yy,nn,nn,nn,nn,nn,nn,nn] rfl rfl (by kernel_rfl) (fun _ _ _ h => h) (Or.inl ⟨by rfl,?_⟩) hHeld ?_ ?_
      rotate_left
      · rintro w' ⟨s0,s1,s2,s3,s4,s5,s6,s7,s8,s9⟩
        go_simp
        with_reducible rfl
      rotate_left
      · simp only [NR]
        rfl
      refine pure_ (i:=1) (N:=some 27) (v:=?_) (a':=?_) #[yy,yy,nn,nn,nn,nn,nn,nn] rfl rfl (by kernel_rfl) (fun _ _ _ h => h) (Or.inl ⟨by rfl,?_⟩) ?_ ?_
      rotate_left
      · intro w'
        go_simp
        with_reducible rfl
      rotate_left
      · simp only [NR]
        rfl
      refine take_ (i:=2) (N:=some 28) (v:=?_) (a':=?_) #[yy,yy,yy,nn,nn,nn,nn,nn] rfl rfl (by kernel_rfl) (fun _ _ _ h => h) (Or.inl ⟨by rfl,?_⟩) hHeld ?_ ?_
      rotate_left
      · rintro w' ⟨s0,s1,s2,s3,s4,s5,s6,s7,s8,s9⟩
        go_simp
        with_reducible rfl
      rotate_left
      · simp only [NR]
        rfl
      refine take_ (i:=3) (N:=some 29) (v:=?_) (a':=?_) #[yy,yy,yy,yy,nn,nn,nn,nn] rfl rfl (by kernel_rfl) (fun _ _ _ h => h) (Or.inl ⟨by rfl,?_⟩) hHeld ?_ ?_
      rotate_left
      · rintro w' ⟨s0,s1,s2,s3,s4,s5,s6,s7,s8,s9⟩
        go_simp
        with_reducible rfl
      rotate_left
      · simp only [NR]
        rfl
      refine join_ (σ:=Nat) 1 #[yy,yy,yy,yy,yy,yy,yy,nn] (fun s => [(30,.int .u64 F),(8,.pointer (some ⟨s,0,none⟩)),(31,.int .u64 (if s0 < F then F else s0))]) (fun s w' => New1 w6 w' s) ?_ ?_
      rotate_left
      · intro hCont
        refine two_ (i:=4) (j:=6) (Ni:=some 30) (Nj:=some 8) #[yy,yy,yy,yy,yy,nn,nn,nn] #[yy,yy,yy,yy,nn,nn,yy,nn] rfl rfl rfl rfl (by kernel_rfl) (by decide) (by decide) (fun K hK => ?_) (fun K hK => ?_)
        · skip
          refine goes_ Tryd.func20 (by kernel_rfl) rfl #[.agg #[.int .i64 a0,.int .i64 a1,.int .i64 a2,.int .i64 a3,.int .i64 a4,.int .i64 a5,.int .i64 a6,.int .i64 a7]] (by rfl) rfl rfl (by simp only [List.map_toArray,List.map_cons,List.map_nil];try rfl) ?_
          with_reducible refine ((HFC.out _)).mono ?_
          rintro e w43 ⟨rfl,hg⟩
          refine ⟨_,rfl,?_⟩
          have HG43:=Aside0.mk hg
          refine hK.out _ _ ⟨hg.cell hHeld.1 (by simp),hg.cell hHeld.2.1 (by simp),hg.cell hHeld.2.2.1 (by simp),hg.cell hHeld.2.2.2.1 (by simp),hg.cell hHeld.2.2.2.2.1 (by simp),hg.cell hHeld.2.2.2.2.2.1 (by simp),hg.cell hHeld.2.2.2.2.2.2.1 (by simp),hg.cell hHeld.2.2.2.2.2.2.2.1 (by simp),hg.cell hHeld.2.2.2.2.2.2.2.2.1 (by simp),hg.cell hHeld.2.2.2.2.2.2.2.2.2 (by simp)⟩ (fun hHeld => ?_)
          clear hK K
          refine norm_ (a':=?_) ?_ ?_
          rotate_left
          · show Act.put _ (some 30) _ = _
            simp only [NR]
            rfl
          refine pure_ (i:=5) (N:=some 31) (v:=?_) (a':=?_) #[yy,yy,yy,yy,yy,yy,nn,nn] rfl rfl (by kernel_rfl) (fun _ _ _ h => h) (Or.inl ⟨by rfl,?_⟩) ?_ ?_
          rotate_left
          · intro w'
            go_simp
            with_reducible rfl
          rotate_left
          · simp only [NR]
            rfl
          refine one_ (i:=6) (N:=some 8) #[yy,yy,yy,yy,yy,yy,yy,nn] rfl rfl (by kernel_rfl) (by decide) (fun K hK => ?_)
          refine value_ (w1:=?_) (v:=?_) (by rfl) rfl ?_ ?_
          rotate_left 2
          · go_simp
            constructor
            · rfl
            · rfl
          refine hK.out _ _ ⟨(World.grownBy_alloc _ (.cells #[.int .u64 0] 25) none).cell hHeld.1 (by simp),(World.grownBy_alloc _ (.cells #[.int .u64 0] 25) none).cell hHeld.2.1 (by simp),(World.grownBy_alloc _ (.cells #[.int .u64 0] 25) none).cell hHeld.2.2.1 (by simp),(World.grownBy_alloc _ (.cells #[.int .u64 0] 25) none).cell hHeld.2.2.2.1 (by simp),(World.grownBy_alloc _ (.cells #[.int .u64 0] 25) none).cell hHeld.2.2.2.2.1 (by simp),(World.grownBy_alloc _ (.cells #[.int .u64 0] 25) none).cell hHeld.2.2.2.2.2.1 (by simp),(World.grownBy_alloc _ (.cells #[.int .u64 0] 25) none).cell hHeld.2.2.2.2.2.2.1 (by simp),(World.grownBy_alloc _ (.cells #[.int .u64 0] 25) none).cell hHeld.2.2.2.2.2.2.2.1 (by simp),(World.grownBy_alloc _ (.cells #[.int .u64 0] 25) none).cell hHeld.2.2.2.2.2.2.2.2.1 (by simp),(World.grownBy_alloc _ (.cells #[.int .u64 0] 25) none).cell hHeld.2.2.2.2.2.2.2.2.2 (by simp)⟩ (fun hHeld => ?_)
          clear hK K
          refine norm_ (a':=?_) ?_ ?_
          rotate_left
          · show Act.put _ (some 8) _ = _
            simp only [NR]
            rfl
          exact norm_ (by simp only [putAll,Act.put,List.setIfInBounds_toArray,List.set_cons_zero,List.set_cons_succ]) (hCont w43.heap.size _ (new1_a HG43.out))
        · skip
          refine value_ (w1:=?_) (v:=?_) (by rfl) rfl ?_ ?_
          rotate_left 2
          · go_simp
            constructor
            · rfl
            · rfl
          refine hK.out _ _ ⟨(World.grownBy_alloc _ (.cells #[.int .u64 0] 25) none).cell hHeld.1 (by simp),(World.grownBy_alloc _ (.cells #[.int .u64 0] 25) none).cell hHeld.2.1 (by simp),(World.grownBy_alloc _ (.cells #[.int .u64 0] 25) none).cell hHeld.2.2.1 (by simp),(World.grownBy_alloc _ (.cells #[.int .u64 0] 25) none).cell hHeld.2.2.2.1 (by simp),(World.grownBy_alloc _ (.cells #[.int .u64 0] 25) none).cell hHeld.2.2.2.2.1 (by simp),(World.grownBy_alloc _ (.cells #[.int .u64 0] 25) none).cell hHeld.2.2.2.2.2.1 (by simp),(World.grownBy_alloc _ (.cells #[.int .u64 0] 25) none).cell hHeld.2.2.2.2.2.2.1 (by simp),(World.grownBy_alloc _ (.cells #[.int .u64 0] 25) none).cell hHeld.2.2.2.2.2.2.2.1 (by simp),(World.grownBy_alloc _ (.cells #[.int .u64 0] 25) none).cell hHeld.2.2.2.2.2.2.2.2.1 (by simp),(World.grownBy_alloc _ (.cells #[.int .u64 0] 25) none).cell hHeld.2.2.2.2.2.2.2.2.2 (by simp)⟩ (fun hHeld => ?_)
          clear hK K
          refine norm_ (a':=?_) ?_ ?_
          rotate_left
          · show Act.put _ (some 8) _ = _
            simp only [NR]
            rfl
          refine one_ (i:=4) (N:=some 30) #[yy,yy,yy,yy,yy,nn,yy,nn] rfl rfl (by kernel_rfl) (by decide) (fun K hK => ?_)
          refine goes_ Tryd.func20 (by kernel_rfl) rfl #[.agg #[.int .i64 a0,.int .i64 a1,.int .i64 a2,.int .i64 a3,.int .i64 a4,.int .i64 a5,.int .i64 a6,.int .i64 a7]] (by rfl) rfl rfl (by simp only [List.map_toArray,List.map_cons,List.map_nil];try rfl) ?_
          with_reducible refine ((HFC.out _)).mono ?_
          rintro e w43 ⟨rfl,hg⟩
          refine ⟨_,rfl,?_⟩
          have HG43:=Aside0.mk hg
          refine hK.out _ _ ⟨hg.cell hHeld.1 (by simp),hg.cell hHeld.2.1 (by simp),hg.cell hHeld.2.2.1 (by simp),hg.cell hHeld.2.2.2.1 (by simp),hg.cell hHeld.2.2.2.2.1 (by simp),hg.cell hHeld.2.2.2.2.2.1 (by simp),hg.cell hHeld.2.2.2.2.2.2.1 (by simp),hg.cell hHeld.2.2.2.2.2.2.2.1 (by simp),hg.cell hHeld.2.2.2.2.2.2.2.2.1 (by simp),hg.cell hHeld.2.2.2.2.2.2.2.2.2 (by simp)⟩ (fun hHeld => ?_)
          clear hK K
          refine norm_ (a':=?_) ?_ ?_
          rotate_left
          · show Act.put _ (some 30) _ = _
            simp only [NR]
            rfl
          refine pure_ (i:=5) (N:=some 31) (v:=?_) (a':=?_) #[yy,yy,yy,yy,yy,yy,yy,nn] rfl rfl (by kernel_rfl) (fun _ _ _ h => h) (Or.inl ⟨by rfl,?_⟩) ?_ ?_
          rotate_left
          · intro w'
            go_simp
            with_reducible rfl
          rotate_left
          · simp only [NR]
            rfl
          exact norm_ (by simp only [putAll,Act.put,List.setIfInBounds_toArray,List.set_cons_zero,List.set_cons_succ]) (hCont w6.heap.size _ (new1_b HG43.out))
      rintro g6 w7 hF
      have HF7:=Aside0.mk hF;have hHeld : w7.cell? ⟨g3,0,none⟩ = some (.slice (some ⟨sb,0,none⟩) n n) ∧ w7.cell? ⟨sb,0,none⟩ = some (.int .u64 s0) ∧ w7.cell? ⟨g7,0,none⟩ = some (.int .i64 a0) ∧ w7.cell? ⟨g7,1,none⟩ = some (.int .i64 a1) ∧ w7.cell? ⟨g7,2,none⟩ = some (.int .i64 a2) ∧ w7.cell? ⟨g7,3,none⟩ = some (.int .i64 a3) ∧ w7.cell? ⟨g7,4,none⟩ = some (.int .i64 a4) ∧ w7.cell? ⟨g7,5,none⟩ = some (.int .i64 a5) ∧ w7.cell? ⟨g7,6,none⟩ = some (.int .i64 a6) ∧ w7.cell? ⟨g7,7,none⟩ = some (.int .i64 a7):=⟨hF.2.2.cell (cell_of (j:=0) HX3.out rfl) (by simp),hF.2.2.cell (HS0.out) (by simp),hF.2.2.cell (cell_of (j:=0) HX7f.out rfl) (by simp),hF.2.2.cell (cell_of (j:=1) HX7f.out rfl) (by simp),hF.2.2.cell (cell_of (j:=2) HX7f.out rfl) (by simp),hF.2.2.cell (cell_of (j:=3) HX7f.out rfl) (by simp),hF.2.2.cell (cell_of (j:=4) HX7f.out rfl) (by simp),hF.2.2.cell (cell_of (j:=5) HX7f.out rfl) (by simp),hF.2.2.cell (cell_of (j:=6) HX7f.out rfl) (by simp),hF.2.2.cell (cell_of (j:=7) HX7f.out rfl) (by simp)⟩;have hc6:=cell_of (j:=0) hF.1 rfl;have hf6:=frozen_of (j:=0) hF.1
      clear hF
      refine norm_ (a':=?_) ?_ ?_
      rotate_left
      · simp only [putAll,Act.put,List.setIfInBounds_toArray,List.set_cons_zero,List.set_cons_succ]
        rfl
      refine last_ (i:=7) (N:=none) #[yy,yy,yy,yy,yy,yy,yy,yy] rfl rfl (by kernel_rfl) (by decide) (fun K hK => ?_)
      refine skip_ (w1:=?_) (by rfl) rfl ?_ ?_
      rotate_left
      · go_simp
        rfl
      refine hK.out _ _ ?_
      clear hK K
      refine done_ (by kernel_rfl) ?_
      obtain ⟨Wh,hWh⟩ : ∃ Wh,Wh = (if s0 < F then F else s0):=⟨_,rfl⟩
      have HWE:=Am (show Wh = wholeV ls F by rw [hWh,HS0E.out];rfl)
      rw [← hWh]
      have hFU : U F:=by
        rw [HFV.out]
        unfold floorV
        by_cases h : checkV a0 a1 a2 a3 a4 a5 a6 a7 = 0
        · rw [if_pos h];have:=floor_bd h;unfold U;omega
        · rw [if_neg h];exact ⟨by decide,by decide⟩
      have hSU : ∀ i,U (rd (sumsV ls) i):=fun i => by
        unfold rd
        rw [List.getD_eq_getElem?_getD]
        cases e : (sumsV ls)[i.toNat]? with
        | none => exact (⟨by decide,by decide⟩ : U 0)
        | some y =>
          have:=List.mem_of_getElem? e
          unfold sumsV at this
          obtain ⟨k,_,rfl⟩:=List.mem_map.1 this
          exact sumF_in HUS.out 5 _
      have HSU:=Aside0.mk hSU
      have HUS0:=Am (show U s0 by rw [HS0E.out];exact hSU _)
      have HUWh:=Am (show U Wh by rw [hWh];split;exact hFU;exact HUS0.out)
      clear hWh hFU hSU
      obtain ⟨h61,h62,h6g⟩:=HF7.out
      have z62:=h62
      have T6 : Tn w6 (w7.setCell ⟨g6,0,none⟩ (.int .u64 Wh)) (fun k => k = g6):=(Tn.gb0 h6g _).trans' (Tn.set g6 0 _ rfl)
      have l1:=blk_lt' HX1f.out
      have l2:=blk_lt' HX2f.out
      have l3:=blk_lt' HX3.out
      have lk:=HKMf.out.own.lt
      have HG6S:=Am (show w4.heap.size ≤ g6 ∧ g3 < g6 ∧ g1 < g6 ∧ g2 < g6 ∧ sb < g6 from ⟨by have:=HG3T.out;omega,by omega,by omega,by omega,by have:=HG3S.out;omega⟩)
      have HX1h:=Am (blk_tn HX1f.out T6 (by show ¬ g1 = g6;omega))
      have HX2h:=Am (blk_tn HX2f.out T6 (by show ¬ g2 = g6;omega))
      have HX3h:=Am (blk_tn HX3.out T6 (by show ¬ g3 = g6;omega))
      have HX6h:=Am (show (w7.setCell ⟨g6,0,none⟩ (.int .u64 Wh)).heap[g6]? = some (.cells #[.int .u64 Wh] 25 (0,0)) from blk_set 0 _ h61)
      have HSRh:=Am (own_tn HSRf.out T6 (fun k hk e => by cases hk;have h1:=HG6S.out;have h2 : sb = g6:=e;omega))
      have HKMh:=Am (HKMf.out.lt (f':=f) (T:=fun x => x < 4) ⟨⟨T6.os,T6.tape,T6.output,T6.size,fun k hk hF => T6.block k hk (fun e => by omega)⟩,fun _ _ => rfl⟩ (fun x h h2 => by omega))
      have HT8:=Am ((Tn.gb0 HG6.out (fun k => k = g6)).trans' T6)
      clear h61 h62 h6g z62 T6 l1 l2 l3 lk HX1f HX2f HX3 HX7f HX7e HSRf HKMf HS0 HG6 HF7 HFC
      generalize w7.setCell ⟨g6,0,none⟩ (.int .u64 Wh) = w8 at HX1h HX2h HX3h HX6h HSRh HKMh HT8 ⊢
      have hmk : ∀ W : World,(Instr.makeSlice 27 (.int .i64 (n : Int)) (.int .i64 (n : Int))).run Tryd.prog W = .ok (.slice (some ⟨W.heap.size,0,none⟩) n n) (W.alloc (.cells (madeCells #[.int .u64 0] n) 25)):=fun W => by
        have:=HT0.out.le;have:=HN.out
        exact run_make_row' 27 25 (.int .u64 0) 8 Tryd.underlying27 (by kernel_rfl) rfl .i64 .i64 n (by omega) (by omega) W
      have k1:=cell_of (j:=0) HX1h.out rfl
      go_upto_region 7 with (fail)
      obtain ⟨ob,hob⟩ : ∃ g,g = w8.heap.size:=⟨_,rfl⟩
      obtain ⟨g4,hg4⟩ : ∃ g,g = w8.heap.size + 1:=⟨_,rfl⟩
      have e1:=World.grownBy_alloc w8 (.cells (madeCells #[.int .u64 0] n) 25) none
      have e2:=World.grownBy_alloc (w8.alloc (.cells (madeCells #[.int .u64 0] n) 25)) (.cells #[.slice (some ⟨w8.heap.size,0,none⟩) n n] 27) none
      have e12:=World.grownBy.trans e1 e2
      have HX1i:=Am (blk_kept HX1h.out e12 (by simp))
      have HX2i:=Am (blk_kept HX2h.out e12 (by simp))
      have HX3i:=Am (blk_kept HX3h.out e12 (by simp))
      have HX6i:=Am (blk_kept HX6h.out e12 (by simp))
      have HSRi:=Am (own_kept HSRh.out e12 (by simp))
      have HKMi:=Am (HKMh.out.tn (Tn.gb0 e12 (fun _ => False)) (fun _ h => h.elim))
      have HX4i:=Am (heap_alloc_new (w8.alloc (.cells (madeCells #[.int .u64 0] n) 25)) (.cells #[.slice (some ⟨w8.heap.size,0,none⟩) n n] 27))
      have HOB:=Am (blk_kept (heap_alloc_new w8 (.cells (madeCells #[.int .u64 0] n) 25)) e2 (by simp))
      have HT9:=Am (HT8.out.trans' (Tn.gb0 e12 _))
      have l1:=blk_lt' HX1h.out
      have l2:=blk_lt' HX2h.out
      have l3:=blk_lt' HX3h.out
      have l6:=blk_lt' HX6h.out
      have ls8:=(HSRh.out.lt sb rfl).2
      have HW9:=Am (show ((w8.alloc (.cells (madeCells #[.int .u64 0] n) 25)).alloc (.cells #[.slice (some ⟨w8.heap.size,0,none⟩) n n] 27)).heap.size = w8.heap.size + 2 by simp only [World.size_alloc])
      simp only [World.size_alloc] at HX4i
      have HZ9:=Am (show g4 = ob + 1 ∧ g1 < ob ∧ g2 < ob ∧ g3 < ob ∧ g6 < ob ∧ sb < ob ∧ ob = w8.heap.size by omega)
      rw [← hg4] at HX4i ⊢
      rw [← hob] at HX4i HOB HX1i HX2i HX3i HX6i HSRi HKMi HT9 HW9 ⊢
      clear e1 e2 e12 hob hg4 l1 l2 l3 l6 ls8 hmk k1 HX1h HX2h HX3h HX6h HSRh HKMh HT8
      generalize (w8.alloc (.cells (madeCells #[.int .u64 0] n) 25)).alloc (.cells #[.slice (some ⟨ob,0,none⟩) n n] 27) = w9 at HX1i HX2i HX3i HX4i HX6i HSRi HKMi HT9 HOB HW9 ⊢
      have HOi:=Am (made_own (B:=w.heap.size) HOB.out (by have h1:=HG1.out.size;have h2:=HG4.out.size;have h3:=HG6S.out;have h4:=HZ9.out;omega) (by have:=HT0.out.le;have:=HN.out;omega))
      have HS0i:=Am (num_cell (own_kept HSRi.out (gb_drew w9 none) (by simp)) hn0 HSL.out)
      rw [← HS0E.out] at HS0i
      clear HOB
      refine start_ (n:=8) (S:=fun w' => w'.cell? ⟨g4,0,none⟩ = some (.slice (some ⟨ob,0,none⟩) n n) ∧ w'.cell? ⟨g3,0,none⟩ = some (.slice (some ⟨sb,0,none⟩) n n) ∧ w'.cell? ⟨sb,0,none⟩ = some (.int .u64 s0) ∧ w'.cell? ⟨g6,0,none⟩ = some (.int .u64 Wh)) (ds:=[7]) #[nn,nn,nn,nn,nn,nn,nn,nn] (by kernel_rfl) rfl rfl ⟨cell_of (j:=0) (show w9.drew.heap[g4]? = _ from HX4i.out) rfl,cell_of (j:=0) (show w9.drew.heap[g3]? = _ from HX3i.out) rfl,HS0i.out,cell_of (j:=0) (show w9.drew.heap[g6]? = _ from HX6i.out) rfl⟩ (fun hHeld => ?_)
      refine take_ (i:=0) (N:=some 35) (v:=?_) (a':=?_) #[yy,nn,nn,nn,nn,nn,nn,nn] rfl rfl (by kernel_rfl) (fun _ _ _ h => h) (Or.inl ⟨by rfl,?_⟩) hHeld ?_ ?_
      rotate_left
      · rintro w' ⟨s0,s1,s2,s3⟩
        go_simp
        with_reducible rfl
      rotate_left
      · simp only [NR]
        rfl
      refine take_ (i:=1) (N:=some 36) (v:=?_) (a':=?_) #[yy,yy,nn,nn,nn,nn,nn,nn] rfl rfl (by kernel_rfl) (fun _ _ _ h => h) (Or.inl ⟨by rfl,?_⟩) hHeld ?_ ?_
      rotate_left
      · rintro w' ⟨s0,s1,s2,s3⟩
        go_simp
        with_reducible rfl
      rotate_left
      · simp only [NR]
        rfl
      refine pure_ (i:=2) (N:=some 37) (v:=?_) (a':=?_) #[yy,yy,yy,nn,nn,nn,nn,nn] rfl rfl (by kernel_rfl) (fun _ _ _ h => h) (Or.inl ⟨by rfl,?_⟩) ?_ ?_
      rotate_left
      · intro w'
        go_simp
        with_reducible rfl
      rotate_left
      · simp only [NR]
        rfl
      refine take_ (i:=3) (N:=some 38) (v:=?_) (a':=?_) #[yy,yy,yy,yy,nn,nn,nn,nn] rfl rfl (by kernel_rfl) (fun _ _ _ h => h) (Or.inl ⟨by rfl,?_⟩) hHeld ?_ ?_
      rotate_left
      · rintro w' ⟨s0,s1,s2,s3⟩
        go_simp
        with_reducible rfl
      rotate_left
      · simp only [NR]
        rfl
      refine take_ (i:=4) (N:=some 39) (v:=?_) (a':=?_) #[yy,yy,yy,yy,yy,nn,nn,nn] rfl rfl (by kernel_rfl) (fun _ _ _ h => h) (Or.inl ⟨by rfl,?_⟩) hHeld ?_ ?_
      rotate_left
      · rintro w' ⟨s0,s1,s2,s3⟩
        go_simp
        with_reducible rfl
      rotate_left
      · simp only [NR]
        rfl
      refine one_ (i:=5) (N:=some 40) #[yy,yy,yy,yy,yy,yy,nn,nn] rfl rfl (by kernel_rfl) (by decide) (fun K hK => ?_)
      refine goes_ Tryd.func21 (by kernel_rfl) rfl #[.int .u64 s0,.int .u64 9223372036854775808,.int .u64 Wh] (by rfl) rfl rfl (by simp only [List.map_toArray,List.map_cons,List.map_nil];try rfl) ?_
      with_reducible refine ((part_calls _ _ _ _ HUS0.out UONE HUWh.out)).mono ?_
      rintro e w10 ⟨rfl,hg⟩
      refine ⟨_,rfl,?_⟩
      have HG10:=Aside0.mk hg;have HO10:=Am (own_kept (own_kept HOi.out (gb_drew w9 none) (by simp)) hg (by simp));have hcq:=num_cell HO10.out hn0 (by simp);have hfq:=own_frozen HO10.out 0
      refine hK.out _ _ ⟨hg.cell hHeld.1 (by simp),hg.cell hHeld.2.1 (by simp),hg.cell hHeld.2.2.1 (by simp),hg.cell hHeld.2.2.2 (by simp)⟩ (fun hHeld => ?_)
      clear hK K
      refine norm_ (a':=?_) ?_ ?_
      rotate_left
      · show Act.put _ (some 40) _ = _
        simp only [NR]
        rfl
      refine pure_ (i:=6) (N:=some 41) (v:=?_) (a':=?_) #[yy,yy,yy,yy,yy,yy,yy,nn] rfl rfl (by kernel_rfl) (fun _ _ _ h => h) (Or.inl ⟨by rfl,?_⟩) ?_ ?_
      rotate_left
      · intro w'
        go_simp
        with_reducible rfl
      rotate_left
      · simp only [NR]
        rfl
      refine last_ (i:=7) (N:=none) #[yy,yy,yy,yy,yy,yy,yy,yy] rfl rfl (by kernel_rfl) (by decide) (fun K hK => ?_)
      refine skip_ (w1:=?_) (by rfl) rfl ?_ ?_
      rotate_left
      · go_simp
        rfl
      refine hK.out _ _ ?_
      clear hK K
      refine done_ (by kernel_rfl) ?_
      obtain ⟨X,hX⟩ : ∃ X,X = partQ s0 9223372036854775808 Wh:=⟨_,rfl⟩
      have HXE:=Aside0.mk hX
      rw [← hX]
      have TS : Tn w9 (w10.setCell ⟨ob,0,none⟩ (.int .u64 X)) (fun k => k = ob):=((Tn.drew w9 _).trans' (Tn.gb0 HG10.out _)).trans' (Tn.set ob 0 _ rfl)
      obtain ⟨z94,z91,z92,z93,z96,z9s,z98⟩:=HZ9.out
      have HX1j:=Am (blk_tn HX1i.out TS (by show ¬ g1 = ob;omega))
      have HX2j:=Am (blk_tn HX2i.out TS (by show ¬ g2 = ob;omega))
      have HX3j:=Am (blk_tn HX3i.out TS (by show ¬ g3 = ob;omega))
      have HX4j:=Am (blk_tn HX4i.out TS (by show ¬ g4 = ob;omega))
      have HX6j:=Am (blk_tn HX6i.out TS (by show ¬ g6 = ob;omega))
      have HSRj:=Am (own_tn HSRi.out TS (fun k hk e => by cases hk;have h2 : sb = ob:=e;omega))
      have HOj:=Am (num_put HO10.out hn0 (by simp) X)
      have HWJ:=Am (show w9.heap.size ≤ (w10.setCell ⟨ob,0,none⟩ (.int .u64 X)).heap.size from TS.size)
      have HTj:=Am ((HT9.out.mono (G:=fun k => k = g6 ∨ k = ob) (fun _ _ h => .inl h)).trans' (TS.mono (fun _ _ h => .inr h)))
      have HTJ2:=Aside0.mk TS
      clear hX TS z94 z91 z92 z93 z96 z9s z98 hcq hfq HX1i HX2i HX3i HX4i HX6i HSRi HOi HS0i HO10 HG10 HT9
      generalize w10.setCell ⟨ob,0,none⟩ (.int .u64 X) = w11 at HX1j HX2j HX3j HX4j HX6j HSRj HOj HTj HWJ HTJ2 ⊢
      go_upto_region 9 with (fail)
      have e3:=World.grownBy_alloc w11 (.cells #[.nilFunc] 48) none
      have HX1k:=Am (blk_kept HX1j.out e3 (by simp))
      have HX2k:=Am (blk_kept HX2j.out e3 (by simp))
      have HX3k:=Am (blk_kept HX3j.out e3 (by simp))
      have HX4k:=Am (blk_kept HX4j.out e3 (by simp))
      have HX6k:=Am (blk_kept HX6j.out e3 (by simp))
      have HX5k:=Am (heap_alloc_new w11 (.cells #[.nilFunc] 48))
      have HSRk:=Am (own_kept HSRj.out e3 (by simp))
      have HOk:=Am (own_kept HOj.out e3 (by simp))
      have HTk:=Am (HTj.out.trans' (Tn.gb0 e3 _))
      have HTn:=Am (HTJ2.out.trans' (Tn.gb0 e3 _))
      have l4:=blk_lt' HX4j.out
      obtain ⟨g5,hg5⟩ : ∃ g,g = w11.heap.size:=⟨_,rfl⟩
      have HZ5:=Am (show g4 < g5 by omega)
      rw [← hg5] at HX5k ⊢
      clear hg5 e3 l4 HX1j HX2j HX3j HX4j HX6j HSRj HOj HTj HWJ HTJ2
      generalize w11.alloc (.cells #[.nilFunc] 48) = w12 at HX1k HX2k HX3k HX4k HX5k HX6k HSRk HOk HTk HTn ⊢
      have hc5:=cell_of (j:=0) HX5k.out rfl
      have hf5:=frozen_of (j:=0) HX5k.out
      have hst : (store ⟨g5,0,none⟩ (.func (.func 22) #[] #[.pointer (some ⟨g1,0,none⟩),.pointer (some ⟨g2,0,none⟩),.pointer (some ⟨g3,0,none⟩),.pointer (some ⟨g6,0,none⟩),.pointer (some ⟨g4,0,none⟩),.pointer (some ⟨g5,0,none⟩)])).run Tryd.prog w12 = .ok () (w12.setCell ⟨g5,0,none⟩ (.func (.func 22) #[] #[.pointer (some ⟨g1,0,none⟩),.pointer (some ⟨g2,0,none⟩),.pointer (some ⟨g3,0,none⟩),.pointer (some ⟨g6,0,none⟩),.pointer (some ⟨g4,0,none⟩),.pointer (some ⟨g5,0,none⟩)])):=by
        rw [run_store _ _ _ _ _ rfl,hc5];simp [hf5]
      go_upto_region 10 with (fail)
      have T5 : Tn w12 (w12.setCell ⟨g5,0,none⟩ (.func (.func 22) #[] #[.pointer (some ⟨g1,0,none⟩),.pointer (some ⟨g2,0,none⟩),.pointer (some ⟨g3,0,none⟩),.pointer (some ⟨g6,0,none⟩),.pointer (some ⟨g4,0,none⟩),.pointer (some ⟨g5,0,none⟩)])) (fun k => k = g5):=Tn.set g5 0 _ rfl
      have q9:=HZ9.out
      have q6:=HG6S.out
      have q5:=HZ5.out
      have HX1l:=Am (blk_tn HX1k.out T5 (by show ¬ g1 = g5;omega))
      have HX2l:=Am (blk_tn HX2k.out T5 (by show ¬ g2 = g5;omega))
      have HX3l:=Am (blk_tn HX3k.out T5 (by show ¬ g3 = g5;omega))
      have HX4l:=Am (blk_tn HX4k.out T5 (by show ¬ g4 = g5;omega))
      have HX6l:=Am (blk_tn HX6k.out T5 (by show ¬ g6 = g5;omega))
      have HX5l:=Am (show (w12.setCell ⟨g5,0,none⟩ (.func (.func 22) #[] #[.pointer (some ⟨g1,0,none⟩),.pointer (some ⟨g2,0,none⟩),.pointer (some ⟨g3,0,none⟩),.pointer (some ⟨g6,0,none⟩),.pointer (some ⟨g4,0,none⟩),.pointer (some ⟨g5,0,none⟩)])).heap[g5]? = some (.cells #[(.func (.func 22) #[] #[.pointer (some ⟨g1,0,none⟩),.pointer (some ⟨g2,0,none⟩),.pointer (some ⟨g3,0,none⟩),.pointer (some ⟨g6,0,none⟩),.pointer (some ⟨g4,0,none⟩),.pointer (some ⟨g5,0,none⟩)])] 48 (0,0)) from blk_set 0 _ HX5k.out)
      have HSRl:=Am (own_tn HSRk.out T5 (fun k hk e => by cases hk;have h2 : sb = g5:=e;omega))
      have HOl:=Am (own_tn HOk.out T5 (fun k hk e => by cases hk;have h2 : ob = g5:=e;omega))
      have HTl:=Am ((HTk.out.mono (G:=fun k => k = g6 ∨ k = ob ∨ k = g5) (fun _ _ h => by rcases h with h | h <;> simp [h])).trans' (T5.mono (fun _ _ h => by simp [h])))
      have HTm:=Am ((HTn.out.mono (G:=fun k => k = ob ∨ k = g5) (fun _ _ h => .inl h)).trans' (T5.mono (F:=fun k => k = g5) (G:=fun k => k = ob ∨ k = g5) (fun _ _ h => .inr h)))
      clear T5 hst hc5 hf5 HX1k HX2k HX3k HX4k HX5k HX6k HSRk HOk HTk HTn
      generalize w12.setCell ⟨g5,0,none⟩ (.func (.func 22) #[] #[.pointer (some ⟨g1,0,none⟩),.pointer (some ⟨g2,0,none⟩),.pointer (some ⟨g3,0,none⟩),.pointer (some ⟨g6,0,none⟩),.pointer (some ⟨g4,0,none⟩),.pointer (some ⟨g5,0,none⟩)]) = w13 at HX1l HX2l HX3l HX4l HX5l HX6l HSRl HOl HTl HTm ⊢
      obtain ⟨fL,hfL⟩ : ∃ fL : Nat → Int,fL = fun k => if k = ob then 0 else if k = sb then 3 else if k = g1 ∨ k = g2 ∨ k = g3 ∨ k = g4 ∨ k = g5 ∨ k = g6 then 2 else if 4 ≤ f k then f k else -1:=⟨_,rfl⟩
      have z1:=HZ1.out
      have zw:=HZW.out
      have zg1:=HG1.out.size
      have zg2:=HG2S.out
      have z4:=HZ4.out
      have zg4:=HG4.out.size
      have z3t:=HG3T.out
      have zs4:=HS4.out
      have zad:=HAD.out
      have q3:=HG3S.out
      have q2:=HG2U.out
      have hHI:=HHI.out
      have hf : ∀ k,4 ≤ f k → k ≠ ob ∧ k ≠ sb ∧ ¬ (k = g1 ∨ k = g2 ∨ k = g3 ∨ k = g4 ∨ k = g5 ∨ k = g6):=fun k hk => by
        have h1 : ¬ w2.heap.size ≤ k:=fun h => by have:=hHI k h;omega
        have h2 : ¬ k < w1.heap.size:=fun h => by have:=HLOW.out k h;omega
        omega
      have hTA : Tn w w13 (fun k => w.heap.size ≤ k):=(Tn.gb0 HG1.out _).trans' (HTl.out.mono (fun i _ h => by show w.heap.size ≤ i;omega))
      have HTA:=Aside0.mk hTA
      have HSE:=Am (show She w13 w1.heap.size fL kb m D ls ad n c g1 g2 g4 g5 ob (.func (.func 22) #[] #[.pointer (some ⟨g1,0,none⟩),.pointer (some ⟨g2,0,none⟩),.pointer (some ⟨g3,0,none⟩),.pointer (some ⟨g6,0,none⟩),.pointer (some ⟨g4,0,none⟩),.pointer (some ⟨g5,0,none⟩)]) 48 g3 g6 sb w4.heap.size (sumsV ls) Wh from
        ⟨⟨HR.out.tn hTA (fun a ha _ hF => by cases ha;have h2 : w.heap.size ≤ ad.block:=hF;omega),(HKMi.out.relab2 (g:=fL) (fun k _ h2 => by
            obtain ⟨a,b,d⟩:=hf k h2
            rw [hfL]
            show (if _ then _ else _) = _
            rw [if_neg a,if_neg b,if_neg d,if_pos h2])).tn HTm.out (fun k hF => by
            rw [hfL]
            show (if _ then _ else _) < (4 : Int)
            rcases hF with h | h
            · rw [if_pos h];decide
            · rw [if_neg (by omega),if_neg (by omega),if_pos (by omega)];decide),HX1l.out,HX2l.out,HX4l.out,HX5l.out,
          by rw [hfL];show (if _ then _ else _) < (0 : Int);rw [if_neg (by omega),if_neg (by omega),if_neg (by omega),HLOW.out _ (by omega)];decide,
          by rw [hfL];show (if _ then _ else _) = (2 : Int);rw [if_neg (by omega),if_neg (by omega),if_pos (by omega)],
          by rw [hfL];show (if _ then _ else _) = (2 : Int);rw [if_neg (by omega),if_neg (by omega),if_pos (by omega)],
          by rw [hfL];show (if _ then _ else _) = (2 : Int);rw [if_neg (by omega),if_neg (by omega),if_pos (by omega)],
          by rw [hfL];show (if _ then _ else _) = (2 : Int);rw [if_neg (by omega),if_neg (by omega),if_pos (by omega)],
          by rw [hfL];show (if _ then _ else _) = (0 : Int);rw [if_pos rfl]⟩,HX3l.out,HX6l.out,HSRl.out,
          by rw [hfL];show (if _ then _ else _) = (2 : Int);rw [if_neg (by omega),if_neg (by omega),if_pos (by omega)],
          by rw [hfL];show (if _ then _ else _) = (2 : Int);rw [if_neg (by omega),if_neg (by omega),if_pos (by omega)],
          by rw [hfL];show (if _ then _ else _) = (3 : Int);rw [if_neg (by omega),if_pos rfl]⟩)
      have HFB:=Am (show ∀ k,F0 fL k → w.heap.size ≤ k from fun k hF => by
        unfold F0 at hF
        rw [hfL] at hF
        by_cases e : k = ob
        · omega
        · simp only [e,if_false] at hF
          split at hF
          · omega
          · split at hF
            · omega
            · split at hF <;> omega)
      have HNO4:=Am (show ¬ F0 fL g4 from fun h => by unfold F0 at h;have:=HSE.out.s.f4;omega)
      have HEC:=Am (eff_calls w1.heap.size w.heap.size w4.heap.size fL kb m D ls ad n c g1 g2 g3 g6 g4 g5 ob sb (sumsV ls) Wh HSL.out HSU.out HUWh.out HT0.out HN.out 5 0 (by omega) (by omega) (by rw [dep_root];decide) w13 _ HSE.out (by simp) HOl.out)
      have hX0 : X = partQ (rd (sumsV ls) 0) 9223372036854775808 Wh:=by rw [HXE.out,HS0E.out];rfl
      rw [hX0,show List.replicate n (0 : Int) = List.replicate ls.length 0 by rw [HN.out],eff_gives HT0.out Wh] at HEC
      have k5:=cell_of (j:=0) HX5l.out rfl
      clear hfL z1 zw zg1 zg2 z4 zg4 z3t zs4 zad hHI hf hTA HSE q9 q6 q5 hX0
      go_wp2_with fail
      refine (HEC.out).mono ?_
      rintro e w14 ⟨rfl,-,ho,ht⟩
      have HO5:=Aside0.mk ho
      have HT5:=Aside0.mk ht
      have k4:=cell_of (j:=0) (blk_tn HX4l.out ht HNO4.out) rfl
      clear ho ht k5 HEC
      go_wp2
      go_ret
      refine ⟨gb_of_tn (HTA.out.trans' (HT5.out.mono (fun i _ h => HFB.out i h))) (fun k h => h),.inr ⟨HE0.out,HC0.out,ob,by rw [HN.out];rfl,?_⟩⟩
      rw [HN.out,← HWE.out]
      exact HO5.out
    · have b0 : (C != 0) = true:=by simp [hC0]
      have HC0:=Aside0.mk hC0
      clear hC0
      go_wp2
      go_ret
      exact ⟨World.grownBy.trans HG1.out HG4.out,.inl ⟨.inr HC0.out,rfl⟩⟩
end Go.Proofs.YtbhijfbjdbjpbaaDoor.T
namespace Go.Proofs.YtbhijfbjdbjpbaaDoor.T
open Go.RowKit Go.Proofs.YtbhijfbjdbjpbaaDoorW.PrintWords Go.Proofs.YtbhijfbjdbjpbaaDoorW.PrintLast Go.Proofs.YtbhijfbjdbjpbaaDoor.H Go.Maps Go.Proofs.YtbhijfbjdbjpbaaDoor.Q Go.Proofs.YtbhijfbjdbjpbaaDoor.GSH
set_option linter.unusedVariables false
set_option linter.unusedSimpArgs false
theorem laid_tn {w w' : World} {F : Nat → Prop} (h : LaidW w) (hg : Tn w w' F) (h0 : ¬ F 0) : LaidW w':=fun j hj => cell_tn (h j hj) hg h0
theorem laid_gb {w w' : World} (h : LaidW w) (hg : w.grownBy w' none) : LaidW w':=laid_tn h (Tn.gb0 hg (fun _ => False)) (fun h => h)
theorem laid_pos {w : World} (h : LaidW w) : 0 < w.heap.size:=World.block_lt_of_cell? w _ (h 0 (by omega))
theorem Tree.kidw {ls : List Acc} (t : Tree ls) (i : Nat) (h : i < ls.length) : IntKind.u64.wrap (shV ls (i : Int)) = shV ls (i : Int):=by
  have:=t.sh i h
  exact w64_in (by omega) (by omega)
/-- Numerators: at least 1,and no word overflows. -/
theorem num_in {ls : List Acc} (t : Tree ls) : ∀ (k : Nat) (i : Int),0 ≤ i → i < ls.length → k ≤ 4 → 1 ≤ (clm (1,1) (shG ls) ls k i).1 ∧ (clm (1,1) (shG ls) ls k i).1 ≤ 4096 ^ k
  | 0,i,_,_,_ => ⟨Int.le_refl _,Int.le_refl _⟩
  | k + 1,i,h0,h1,hk => by
    rw [clm]
    by_cases e : i = 0
    · rw [if_pos e]
      exact ⟨Int.le_refl _,by have : (0 : Int) < 4096 ^ (k + 1):=Int.pow_pos (by decide);show (1 : Int) ≤ _;omega⟩
    · rw [if_neg e]
      obtain ⟨a,b,_⟩:=t.par (by omega) h1
      obtain ⟨l,u⟩:=num_in t k _ a b (by omega)
      have hs:=t.sh i.toNat (by omega)
      have hw:=t.kidw i.toNat (by omega)
      rw [Int.toNat_of_nonneg h0] at hs hw
      generalize clm (1,1) (shG ls) ls k (parV ls i) = y at *
      show 1 ≤ IntKind.u64.wrap (y.1 * IntKind.u64.wrap (shV ls i)) ∧ IntKind.u64.wrap (y.1 * IntKind.u64.wrap (shV ls i)) ≤ 4096 ^ (k + 1)
      rw [hw]
      generalize y.1 = x at *
      have hp : (4096 : Int) ^ k ≤ 4096 ^ 3:=by
        have : k = 0 ∨ k = 1 ∨ k = 2 ∨ k = 3:=by omega
        rcases this with rfl | rfl | rfl | rfl <;> decide
      have h2 : x * shV ls i ≤ 4096 ^ k * 4096:=Int.mul_le_mul u hs.2 (by omega) (by have : (0 : Int) < 4096 ^ k:=Int.pow_pos (by decide);omega)
      have h3 : 1 ≤ x * shV ls i:=by
        have:=Int.mul_le_mul l hs.1 (by decide) (by omega)
        omega
      have h4 : (4096 : Int) ^ k * 4096 ≤ 4096 ^ 3 * 4096:=Int.mul_le_mul_of_nonneg_right hp (by decide)
      have h5 : (4096 : Int) ^ 3 * 4096 = 281474976710656:=by decide
      rw [w64_in (by omega) (by omega)]
      exact ⟨h3,by rw [Int.pow_succ];exact h2⟩
theorem num_pos {ls : List Acc} (t : Tree ls) (i : Nat) (h : i < ls.length) : 1 ≤ (partV ls (i : Int)).1 ∧ (partV ls (i : Int)).1 ≤ 281474976710656:=by
  have:=num_in t 4 (i : Int) (by omega) (by omega) (by omega)
  exact ⟨this.1,by have h2:=this.2;rw [show (4096 : Int) ^ 4 = 281474976710656 by decide] at h2;exact h2⟩
theorem den_U {ls : List Acc} : ∀ (k : Nat) (i : Int),U (clm (1,1) (shG ls) ls k i).2
  | 0,i => (⟨by decide,by decide⟩ : U 1)
  | k + 1,i => by
    rw [clm]
    split
    · exact (⟨by decide,by decide⟩ : U 1)
    · exact wrapU _
theorem eff_U {ls : List Acc} {W : Int} (i : Int) : U (effV ls W i):=by
  have key : ∀ (k : Nat) (i : Int),U (clm (partQ (rd (sumsV ls) 0) 9223372036854775808 W) (efG ls (sumsV ls) W) ls k i):=by
    intro k
    induction k with
    | zero => exact fun i => partQ_in
    | succ k ih =>
      intro i
      rw [clm]
      split
      · exact partQ_in
      · exact wrapU _
  exact key 4 i
theorem rd_range {n : Nat} {F : Nat → Int} {j : Nat} (h : j < n) : rd ((List.range n).map F) (j : Int) = F j:=by
  simp [rd,List.getD_eq_getElem?_getD,h]
/-- An account's factor. -/
def factV (ls : List Acc) (W : Int) (i : Int) : Int:=halfV (expV (effV ls W i) (partV ls i).1 (partV ls i).2)
def factsV (ls : List Acc) (W : Int) : List Int:=(List.range ls.length).map (fun i : Nat => factV ls W (i : Int))
/-- What Factors answers: nothing,or the factors in a list of one's own. -/
def FactI (w : World) (C F : Int) (ls : List Acc) (e : Ending) (w' : World) : Prop:=
  w.grownBy w' none ∧ (((loadE ls ≠ 0 ∨ C ≠ 0) ∧ e = .returned (.slice none 0 0)) ∨
    (loadE ls = 0 ∧ C = 0 ∧ ∃ v,e = .returned v ∧
      w'.ownsRow w.heap.size 25 (Ei .u64).sz v ls.length (flat (Ei .u64) (factsV ls (wholeV ls F)))))
set_option maxHeartbeats 8000000 in
set_option maxRecDepth 100000 in
theorem Factors_calls (w : World) (hL : LaidW w) (a0 a1 a2 a3 a4 a5 a6 a7 : Int) (A : Option Addr) (n c : Nat) (ls : List Acc) (hr : Rd Ec w A n ls) (hc : n ≤ c) (hok : AccOk ls) (hus : AccU ls) :
    Calls Tryd.prog 8 #[.agg #[.int .i64 a0,.int .i64 a1,.int .i64 a2,.int .i64 a3,.int .i64 a4,.int .i64 a5,.int .i64 a6,.int .i64 a7],.slice A n c] w (FactI w (checkV a0 a1 a2 a3 a4 a5 a6 a7) (floorV a0 a1 a2 a3 a4 a5 a6 a7) ls):=by
  have hlen:=hr.2.1
  have HN:=Aside0.mk hr.1
  have HLW:=Aside0.mk hL
  have HEF:=Am (fun (W : World) (hW : Rd Ec W A n ls) => Effective_calls W a0 a1 a2 a3 a4 a5 a6 a7 A n c ls hW hc hok hus)
  have HSH:=Am (fun (W : World) (hW : Rd Ec W A n ls) => Shares_calls W A n c ls hW hc hok)
  have HR:=Aside0.mk hr
  obtain ⟨CC,hC⟩ : ∃ C,C = checkV a0 a1 a2 a3 a4 a5 a6 a7:=⟨_,rfl⟩
  obtain ⟨F,hF⟩ : ∃ F,F = floorV a0 a1 a2 a3 a4 a5 a6 a7:=⟨_,rfl⟩
  rw [← hC,← hF] at HEF ⊢
  clear hr hc hok hus hC hF hL
  go_enter Tryd.func8,Tryd.ntmps8
  go_upto_region 1 with (fail)
  have e1:=World.grownBy_alloc w (.cells #[.int .i64 a0,.int .i64 a1,.int .i64 a2,.int .i64 a3,.int .i64 a4,.int .i64 a5,.int .i64 a6,.int .i64 a7] 23) none
  have HX7:=Am (heap_alloc_new w (.cells #[.int .i64 a0,.int .i64 a1,.int .i64 a2,.int .i64 a3,.int .i64 a4,.int .i64 a5,.int .i64 a6,.int .i64 a7] 23))
  have HG0:=Aside0.mk e1
  obtain ⟨g7,hg7⟩ : ∃ g,g = w.heap.size:=⟨_,rfl⟩
  rw [← hg7] at HX7 ⊢
  clear e1 hg7
  generalize w.alloc (.cells #[.int .i64 a0,.int .i64 a1,.int .i64 a2,.int .i64 a3,.int .i64 a4,.int .i64 a5,.int .i64 a6,.int .i64 a7] 23) = w0 at HX7 HG0 ⊢
  have c0:=cell_of (j:=0) HX7.out rfl
  have c1:=cell_of (j:=1) HX7.out rfl
  have c2:=cell_of (j:=2) HX7.out rfl
  have c3:=cell_of (j:=3) HX7.out rfl
  have c4:=cell_of (j:=4) HX7.out rfl
  have c5:=cell_of (j:=5) HX7.out rfl
  have c6:=cell_of (j:=6) HX7.out rfl
  have c7:=cell_of (j:=7) HX7.out rfl
  go_wp2_with fail
  refine (HEF.out w0 (HR.out.gb HG0.out)).mono ?_
  rintro e w1 ⟨hg,h⟩
  have HG1:=Am (World.grownBy.trans HG0.out hg)
  have HG01:=Aside0.mk hg
  clear hg c0 c1 c2 c3 c4 c5 c6 c7 HX7 HEF
  rcases h with ⟨hne,rfl⟩ | ⟨h0,hc0,ub,rfl,huo⟩
  · have HNE:=Aside0.mk hne
    clear hne
    go_wp2_with fail
    refine (HSH.out w1 (HR.out.gb HG1.out)).mono ?_
    rintro e w2 ⟨hg,h⟩
    have HG2:=Am (World.grownBy.trans HG1.out hg)
    clear hg HSH
    rcases h with ⟨_,rfl⟩ | ⟨_,nb,db,_,rfl,_,_⟩
    all_goals
      go_wp2_with fail
      go_loopg [8,21] 0 (fun k v8 v21 wr => v8 = .slice none 0 0 ∧ v21 = .int .i64 0 ∧ k = 0 ∧ wr = w2)
      case atStart => exact ⟨rfl,rfl,rfl,rfl⟩
      case round =>
        obtain ⟨rfl,rfl,rfl,rfl⟩:=hrel
        go_wp2
        go_ret
        exact ⟨HG2.out,.inl ⟨HNE.out,rfl⟩⟩
  · have HE0:=Aside0.mk h0
    have HT0:=Am (tree_of h0)
    have HC0:=Aside0.mk hc0
    have HUO:=Aside0.mk huo
    clear h0 hc0 huo
    rw [HN.out] at HUO ⊢
    go_wp2_with fail
    refine (HSH.out w1 (HR.out.gb HG1.out)).mono ?_
    rintro e w2 ⟨hg,h⟩
    have HG2:=Am (World.grownBy.trans HG1.out hg)
    have HUO2:=Am (own_kept HUO.out hg (by simp))
    clear HSH HUO
    rcases h with ⟨h1,rfl⟩ | ⟨_,nb,db,hnd,rfl,hno,hdo⟩
    · exact absurd HE0.out h1
    · rw [HN.out] at hno hdo
      rw [HN.out]
      have HNO:=Aside0.mk hno
      have HDO:=Aside0.mk hdo
      have HBL:=Am (show nb < w2.heap.size ∧ db < w2.heap.size from ⟨(hno.lt nb rfl).2,(hdo.lt db rfl).2⟩)
      have HUBL:=Am (HUO2.out.lt ub rfl).2
      clear hg hno hdo hnd
      obtain ⟨Wh,hWh⟩ : ∃ Wh,Wh = wholeV ls F:=⟨_,rfl⟩
      have HWE:=Aside0.mk hWh
      rw [← hWh] at HUO2
      clear hWh
      go_wp2_with fail
      go_loopg [8,21] n (fun k v8 v21 wr => ∃ (j : Nat) (fs : List Int) (ov : Value),ov = v8 ∧ v21 = .int .i64 j ∧ Aside0 (j + k = n) ∧ j ≤ n ∧ Aside0 (fs = (List.range j).map (fun i : Nat => factV ls Wh (i : Int))) ∧ Aside0 (wr.ownsRow w2.heap.size 25 (Ei .u64).sz ov j (flat (Ei .u64) fs)) ∧ Aside0 (Tn w2 wr (fun k => w2.heap.size ≤ k)))
      case atStart => exact ⟨0,[],_,rfl,rfl,⟨by omega⟩,by omega,⟨rfl⟩,⟨own_nil _ _ _ _⟩,⟨Tn.refl _ _⟩⟩
      case round =>
        obtain ⟨j,fs,ov,rfl,rfl,HD,hj,HF,HO,HT⟩:=hrel
        cases gk with
        | zero =>
          obtain rfl : j = n:=by have:=HD.out;omega
          go_wp2
          go_ret
          refine ⟨gb_of_tn ((Tn.gb0 HG2.out (fun k => w.heap.size ≤ k)).trans' (HT.out.mono (fun i _ h => by have h2:=HG2.out.size;have h3 : w2.heap.size ≤ i:=h;show w.heap.size ≤ i;omega))) (fun k h => h),.inr ⟨HE0.out,HC0.out,_,rfl,?_⟩⟩
          have h1:=HO.out
          rw [HF.out] at h1
          rw [← HWE.out]
          unfold factsV
          rw [HN.out]
          exact own_mono h1 HG2.out.size
        | succ d =>
          have hlt : j < n:=by have:=HD.out;omega
          have hlt1 : decide ((j : Int) < (n : Int)) = true:=decide_eq_true (by omega)
          have hji : (j : Int) < (n : Int):=by omega
          have h64 : n ≤ 64:=by have h1:=HT0.out.le;have h2:=HN.out;omega
          have hjl : j < ls.length:=by rw [HN.out];exact hlt
          obtain ⟨u,hu⟩ : ∃ u,u = effV ls Wh (j : Int):=⟨_,rfl⟩
          obtain ⟨x,hx⟩ : ∃ x,x = (partV ls (j : Int)).1:=⟨_,rfl⟩
          obtain ⟨y,hy⟩ : ∃ y,y = (partV ls (j : Int)).2:=⟨_,rfl⟩
          obtain ⟨hv,hhv⟩ : ∃ hv,hv = halfV (expV u x y):=⟨_,rfl⟩
          have HHV:=Aside0.mk hhv
          have HNEW:=Am (show (List.range (j + 1)).map (fun i : Nat => factV ls Wh (i : Int)) = fs ++ [hv] by rw [List.range_succ,List.map_append,← HF.out,hhv,hu,hx,hy];rfl)
          have hnp:=num_pos HT0.out j hjl
          have HUU:=Am (show U u by rw [hu];exact eff_U _)
          have HUX:=Am (show U x by rw [hx];unfold U;omega)
          have HUY:=Am (show U y by rw [hy];exact den_U 4 _)
          have HXP:=Am (show 0 < x by rw [hx];omega)
          have HUE:=Am (expV_in HUU.out HUX.out HUY.out HXP.out)
          have HTo : ∀ b,b < w2.heap.size → ¬ (w2.heap.size ≤ b):=fun b h h2 => by omega
          have hcu:=num_cell (own_tn HUO2.out HT.out (fun k hk => by cases hk;exact HTo _ HUBL.out)) hlt (show (effsV ls Wh).length = n by unfold effsV;rw [List.length_map,List.length_range];exact HN.out)
          rw [show rd (effsV ls Wh) (j : Int) = u by rw [hu];exact rd_range hjl] at hcu
          have HNd:=Am (own_kept (own_tn HNO.out HT.out (fun k hk => by cases hk;exact HTo _ HBL.out.1)) (gb_drew wr none) (by simp))
          have HDd:=Am (own_kept (own_tn HDO.out HT.out (fun k hk => by cases hk;exact HTo _ HBL.out.2)) (gb_drew wr none) (by simp))
          have HNL:=Am (show (numsV ls).length = n by unfold numsV;rw [List.length_map,List.length_range];exact HN.out)
          have HDL:=Am (show (densV ls).length = n by unfold densV;rw [List.length_map,List.length_range];exact HN.out)
          have hxn:=num_cell HNd.out hlt HNL.out
          have hyn:=num_cell HDd.out hlt HDL.out
          rw [show rd (numsV ls) (j : Int) = x by rw [hx];exact rd_range hjl] at hxn
          rw [show rd (densV ls) (j : Int) = y by rw [hy];exact rd_range hjl] at hyn
          have HCX:=Aside0.mk hxn
          have HCY:=Aside0.mk hyn
          have HOd:=Am (own_kept HO.out (gb_drew wr none) (by simp))
          have HTd:=Am (HT.out.trans' (Tn.drew wr _))
          have HLd:=Am (laid_tn (laid_gb HLW.out HG2.out) HTd.out (fun h => by have h1:=laid_pos HLW.out;have h2:=HG2.out.size;omega))
          clear hu hx hy hhv hnp HTo hxn hyn
          go_upto_region 7 with (fail)
          refine start_ (n:=15) (S:=fun w' => w'.cell? ⟨nb,j,none⟩ = some (.int .u64 x) ∧ w'.cell? ⟨db,j,none⟩ = some (.int .u64 y)) (ds:=[]) #[nn,nn,nn,nn,nn,nn,nn,nn,nn,nn,nn,nn,nn,nn,nn] (by kernel_rfl) rfl rfl ⟨HCX.out,HCY.out⟩ (fun hHeld => ?_)
          refine pure_ (i:=0) (N:=some 26) (v:=?_) (a':=?_) #[yy,nn,nn,nn,nn,nn,nn,nn,nn,nn,nn,nn,nn,nn,nn] rfl rfl (by kernel_rfl) (fun _ _ _ h => h) (Or.inl ⟨by rfl,?_⟩) ?_ ?_
          rotate_left
          · intro w'
            go_simp
            with_reducible rfl
          rotate_left
          · simp only [NR]
            rfl
          refine pure_ (i:=1) (N:=some 27) (v:=?_) (a':=?_) #[yy,yy,nn,nn,nn,nn,nn,nn,nn,nn,nn,nn,nn,nn,nn] rfl rfl (by kernel_rfl) (fun _ _ _ h => h) (Or.inl ⟨by rfl,?_⟩) ?_ ?_
          rotate_left
          · intro w'
            go_simp
            with_reducible rfl
          rotate_left
          · simp only [NR]
            rfl
          refine pure_ (i:=2) (N:=some 28) (v:=?_) (a':=?_) #[yy,yy,yy,nn,nn,nn,nn,nn,nn,nn,nn,nn,nn,nn,nn] rfl rfl (by kernel_rfl) (fun _ _ _ h => h) (Or.inl ⟨by rfl,?_⟩) ?_ ?_
          rotate_left
          · intro w'
            go_simp
            with_reducible rfl
          rotate_left
          · simp only [NR]
            rfl
          refine pure_ (i:=3) (N:=some 29) (v:=?_) (a':=?_) #[yy,yy,yy,yy,nn,nn,nn,nn,nn,nn,nn,nn,nn,nn,nn] rfl rfl (by kernel_rfl) (fun _ _ _ h => h) (Or.inl ⟨by rfl,?_⟩) ?_ ?_
          rotate_left
          · intro w'
            go_simp
            with_reducible rfl
          rotate_left
          · simp only [NR]
            rfl
          refine pure_ (i:=4) (N:=some 30) (v:=?_) (a':=?_) #[yy,yy,yy,yy,yy,nn,nn,nn,nn,nn,nn,nn,nn,nn,nn] rfl rfl (by kernel_rfl) (fun _ _ _ h => h) (Or.inl ⟨by rfl,?_⟩) ?_ ?_
          rotate_left
          · intro w'
            go_simp
            with_reducible rfl
          rotate_left
          · simp only [NR]
            rfl
          refine pure_ (i:=6) (N:=some 32) (v:=?_) (a':=?_) #[yy,yy,yy,yy,yy,nn,yy,nn,nn,nn,nn,nn,nn,nn,nn] rfl rfl (by kernel_rfl) (fun _ _ _ h => h) (Or.inl ⟨by rfl,?_⟩) ?_ ?_
          rotate_left
          · intro w'
            go_simp
            with_reducible rfl
          rotate_left
          · simp only [NR]
            rfl
          refine pure_ (i:=7) (N:=some 33) (v:=?_) (a':=?_) #[yy,yy,yy,yy,yy,nn,yy,yy,nn,nn,nn,nn,nn,nn,nn] rfl rfl (by kernel_rfl) (fun _ _ _ h => h) (Or.inl ⟨by rfl,?_⟩) ?_ ?_
          rotate_left
          · intro w'
            go_simp
            with_reducible rfl
          rotate_left
          · simp only [NR]
            rfl
          refine pure_ (i:=8) (N:=some 34) (v:=?_) (a':=?_) #[yy,yy,yy,yy,yy,nn,yy,yy,yy,nn,nn,nn,nn,nn,nn] rfl rfl (by kernel_rfl) (fun _ _ _ h => h) (Or.inl ⟨by rfl,?_⟩) ?_ ?_
          rotate_left
          · intro w'
            go_simp
            with_reducible rfl
          rotate_left
          · simp only [NR]
            rfl
          refine take_ (i:=5) (N:=some 31) (v:=?_) (a':=?_) #[yy,yy,yy,yy,yy,yy,yy,yy,yy,nn,nn,nn,nn,nn,nn] rfl rfl (by kernel_rfl) (fun _ _ _ h => h) (Or.inl ⟨by rfl,?_⟩) hHeld ?_ ?_
          rotate_left
          · rintro w' ⟨s0,s1⟩
            go_simp
            with_reducible rfl
          rotate_left
          · simp only [NR]
            rfl
          refine take_ (i:=9) (N:=some 35) (v:=?_) (a':=?_) #[yy,yy,yy,yy,yy,yy,yy,yy,yy,yy,nn,nn,nn,nn,nn] rfl rfl (by kernel_rfl) (fun _ _ _ h => h) (Or.inl ⟨by rfl,?_⟩) hHeld ?_ ?_
          rotate_left
          · rintro w' ⟨s0,s1⟩
            go_simp
            with_reducible rfl
          rotate_left
          · simp only [NR]
            rfl
          refine one_ (i:=10) (N:=some 36) #[yy,yy,yy,yy,yy,yy,yy,yy,yy,yy,yy,nn,nn,nn,nn] rfl rfl (by kernel_rfl) (by decide) (fun K hK => ?_)
          refine goes_ Tryd.func24 (by kernel_rfl) rfl #[.int .u64 u,.int .u64 x,.int .u64 y] (by rfl) rfl rfl (by simp only [List.map_toArray,List.map_cons,List.map_nil];try rfl) ?_
          with_reducible refine ((exponent_calls _ u x y HUU.out HUX.out HUY.out HXP.out)).mono ?_
          rintro e w10 ⟨rfl,hg⟩
          refine ⟨_,rfl,?_⟩
          have HO10:=Am (own_kept HOd.out hg (by simp));have HL10:=Am (laid_gb HLd.out hg);have HT10:=Am (HTd.out.trans' (Tn.gb0 hg _))
          refine hK.out _ _ ⟨hg.cell hHeld.1 (by simp),hg.cell hHeld.2 (by simp)⟩ (fun hHeld => ?_)
          clear hK K
          refine norm_ (a':=?_) ?_ ?_
          rotate_left
          · show Act.put _ (some 36) _ = _
            simp only [NR]
            rfl
          refine one_ (i:=11) (N:=some 37) #[yy,yy,yy,yy,yy,yy,yy,yy,yy,yy,yy,yy,nn,nn,nn] rfl rfl (by kernel_rfl) (by decide) (fun K hK => ?_)
          refine goes_ Tryd.func23 (by kernel_rfl) rfl #[.int .u64 (expV u x y)] (by rfl) rfl rfl (by simp only [List.map_toArray,List.map_cons,List.map_nil];try rfl) ?_
          with_reducible refine ((half_calls _ HL10.out _ HUE.out)).mono ?_
          rintro e w11 ⟨rfl,hg⟩
          refine ⟨_,rfl,?_⟩
          have HO11:=Am (own_kept HO10.out hg (by simp));have HT11:=Am (HT10.out.trans' (Tn.gb0 hg _));rw [← HHV.out]
          refine hK.out _ _ ⟨hg.cell hHeld.1 (by simp),hg.cell hHeld.2 (by simp)⟩ (fun hHeld => ?_)
          clear hK K
          refine norm_ (a':=?_) ?_ ?_
          rotate_left
          · show Act.put _ (some 37) _ = _
            simp only [NR]
            rfl
          refine one_ (i:=12) (N:=some 38) #[yy,yy,yy,yy,yy,yy,yy,yy,yy,yy,yy,yy,yy,nn,nn] rfl rfl (by kernel_rfl) (by decide) (fun K hK => ?_)
          refine value_ (w1:=?_) (v:=?_) (by rfl) rfl ?_ ?_
          rotate_left 2
          · go_simp
            constructor
            · rfl
            · rfl
          have HR6:=Am (own_kept HO11.out (World.grownBy_alloc _ (.cells #[.int .u64 hv] 25) none) (by simp));have HT6:=Am (HT11.out.trans' (Tn.alloc w11 (.cells #[.int .u64 hv] 25) _));have HL6:=Am (show Rd (Ei .u64) (w11.alloc (.cells #[.int .u64 hv] 25)) (some ⟨w11.heap.size,0,none⟩) 1 [hv] from rd_lit (Ei .u64) w11 25 [hv] (by simp));have HZ6:=Aside0.mk HT6.out.size
          refine hK.out _ _ ⟨(World.grownBy_alloc _ (.cells #[.int .u64 hv] 25) none).cell hHeld.1 (by simp),(World.grownBy_alloc _ (.cells #[.int .u64 hv] 25) none).cell hHeld.2 (by simp)⟩ (fun hHeld => ?_)
          clear hK K
          refine norm_ (a':=?_) ?_ ?_
          rotate_left
          · show Act.put _ (some 38) _ = _
            simp only [NR]
            rfl
          refine one_ (i:=13) (N:=some 39) #[yy,yy,yy,yy,yy,yy,yy,yy,yy,yy,yy,yy,yy,yy,nn] rfl rfl (by kernel_rfl) (by decide) (fun K hK => ?_)
          refine app_at_step (Ei .u64) (by rfl) rfl w2.heap.size (.tmp 26) (.tmp 38) 27 25 (.int .u64 0) 8 rfl Tryd.underlying27 (by kernel_rfl) rfl (by decide) ov j fs [hv] _ 1 1 rfl rfl HR6.out HL6.out HZ6.out (by omega) ?_
          intro v7 w7 ho hg hat
          have HO7:=Aside0.mk ho;have HT7:=Am (HT6.out.trans' (Tn.of_gb (F:=fun k => w2.heap.size ≤ k) hg (fun k hk => (HR6.out.lt k hk).1)));have HC7a:=Am (hg.cell hHeld.1 (fun e => by have h1:=(HR6.out.lt nb e.symm).1;have h2:=HBL.out;omega));have HC7b:=Am (hg.cell hHeld.2 (fun e => by have h1:=(HR6.out.lt db e.symm).1;have h2:=HBL.out;omega));clear ho hg hat
          refine hK.out _ _ ⟨HC7a.out,HC7b.out⟩ (fun hHeld => ?_)
          clear hK K
          refine norm_ (a':=?_) ?_ ?_
          rotate_left
          · show Act.put _ (some 39) _ = _
            simp only [NR]
            rfl
          refine pure_ (i:=14) (N:=some 8) (v:=?_) (a':=?_) #[yy,yy,yy,yy,yy,yy,yy,yy,yy,yy,yy,yy,yy,yy,yy] rfl rfl (by kernel_rfl) (fun _ _ _ h => h) (Or.inl ⟨by rfl,?_⟩) ?_ ?_
          rotate_left
          · intro w'
            go_simp
            with_reducible rfl
          rotate_left
          · simp only [NR]
            rfl
          refine done_ (by kernel_rfl) ?_
          go_wp2_with fail
          go_roundg d
          case measure => omega
          case rel => exact ⟨j + 1,fs ++ [hv],_,rfl,by go_num,⟨by have:=HD.out;omega⟩,by omega,⟨HNEW.out.symm⟩,HO7,HT7⟩
end Go.Proofs.YtbhijfbjdbjpbaaDoor.T
namespace Go.Proofs.YtbhijfbjdbjpbaaDoor.T
open Go.RowKit Go.Proofs.YtbhijfbjdbjpbaaDoorW.PrintWords Go.Proofs.YtbhijfbjdbjpbaaDoorW.PrintLast Go.Proofs.YtbhijfbjdbjpbaaDoor.H Go.Maps Go.Proofs.YtbhijfbjdbjpbaaDoor.Q Go.Proofs.YtbhijfbjdbjpbaaDoor.GSH
set_option linter.unusedVariables false
set_option linter.unusedSimpArgs false
def shL : List Acc:=[⟨rootS,-1,1,false,0⟩,⟨⟨#[97]⟩,0,3,false,0⟩,⟨⟨#[98]⟩,0,1,false,0⟩,⟨⟨#[100]⟩,1,5,false,429496729600⟩]
theorem sh_load : loadE shL = 0:=by decide +kernel
theorem sh_check : checkV 4 8 10 1 1000 0 100 100 = 0:=by decide +kernel
theorem sh_nums : numsV shL = [1,3,1,15]:=by decide +kernel
theorem sh_dens : densV shL = [1,4,4,20]:=by decide +kernel
theorem sh_effs : effsV shL (wholeV shL (floorV 4 8 10 1 1000 0 100 100)) = [2305843009213693952,2305843009213693952,576460752303423488,2305843009213693952]:=by decide +kernel
theorem sh_facts : factsV shL (wholeV shL (floorV 4 8 10 1 1000 0 100 100)) = [7755900482342532474,7320595236211045639,7755900482342532474,7320595236211045639]:=by decide +kernel
theorem sh_ok : AccOk shL:=by
  intro a ha
  simp only [shL,List.mem_cons,List.mem_nil_iff,or_false] at ha
  rcases ha with rfl | rfl | rfl | rfl <;> exact ⟨by decide,by decide⟩
theorem sh_us : AccU shL:=by
  intro a ha
  simp only [shL,List.mem_cons,List.mem_nil_iff,or_false] at ha
  rcases ha with rfl | rfl | rfl | rfl <;> exact ⟨by decide,by decide⟩
theorem own_at {w : World} {B n : Nat} {e : TypeId} {v : Value} {xs : List Int} (hl : xs.length = n) (hn : 0 < n) (h : w.ownsRow B e (Ei .u64).sz v n (flat (Ei .u64) xs)) : ∃ b c,v = .slice (some ⟨b,0,none⟩) n c ∧ n ≤ c:=by
  obtain ⟨A,c,rfl,hr,hc,-⟩:=own_open hl h
  obtain ⟨ad,rfl,_⟩:=hr.2.2 hn
  exact ⟨ad.block,c,by rw [← (own_form h).2 ad rfl],hc⟩
set_option maxHeartbeats 8000000 in
set_option maxRecDepth 100000 in
theorem shown_calls (w : World) (hL : LaidW w) :
    Calls Tryd.prog 5 #[] w fun e w' => e = .returned (.bool true) ∧ w.grownBy w' none:=by
  have HL:=Aside0.mk hL
  have HR1 : Aside0 (Rd Ec (w.alloc (.cells #[.string ⟨#[114,111,111,116]⟩,.int .i64 (-1),.int .i64 1,.bool false,.int .u64 0,.string ⟨#[97]⟩,.int .i64 0,.int .i64 3,.bool false,.int .u64 0,.string ⟨#[98]⟩,.int .i64 0,.int .i64 1,.bool false,.int .u64 0,.string ⟨#[100]⟩,.int .i64 1,.int .i64 5,.bool false,.int .u64 429496729600] 37)) (some ⟨w.heap.size,0,none⟩) 4 shL):=⟨rd_lit Ec w 37 shL (by decide)⟩
  have HG1:=Am (World.grownBy_alloc w (.cells #[.string ⟨#[114,111,111,116]⟩,.int .i64 (-1),.int .i64 1,.bool false,.int .u64 0,.string ⟨#[97]⟩,.int .i64 0,.int .i64 3,.bool false,.int .u64 0,.string ⟨#[98]⟩,.int .i64 0,.int .i64 1,.bool false,.int .u64 0,.string ⟨#[100]⟩,.int .i64 1,.int .i64 5,.bool false,.int .u64 429496729600] 37) none)
  clear hL
  go_enter Tryd.func5,Tryd.ntmps5
  go_upto_region 2 with (fail)
  obtain ⟨lb,hlb⟩ : ∃ b,b = w.heap.size:=⟨_,rfl⟩
  rw [← hlb] at HR1 ⊢
  generalize w.alloc (.cells #[.string ⟨#[114,111,111,116]⟩,.int .i64 (-1),.int .i64 1,.bool false,.int .u64 0,.string ⟨#[97]⟩,.int .i64 0,.int .i64 3,.bool false,.int .u64 0,.string ⟨#[98]⟩,.int .i64 0,.int .i64 1,.bool false,.int .u64 0,.string ⟨#[100]⟩,.int .i64 1,.int .i64 5,.bool false,.int .u64 429496729600] 37) = w1 at HR1 HG1 ⊢
  have HS:=Am (Shares_calls w1 (some ⟨lb,0,none⟩) 4 4 shL HR1.out (by decide) sh_ok)
  clear hlb
  go_wp2_with fail
  refine (HS.out).mono ?_
  rintro e w2 ⟨hg,h⟩
  rcases h with ⟨h,_⟩ | ⟨_,nb,db,hnd,rfl,hno,hdo⟩
  · exact absurd sh_load h
  rw [sh_nums] at hno
  rw [sh_dens] at hdo
  have HNO:=Am (show w2.ownsRow w1.heap.size 25 (Ei .u64).sz (.slice (some ⟨nb,0,none⟩) 4 4) 4 (flat (Ei .u64) [1,3,1,15]) from hno)
  have HDO:=Am (show w2.ownsRow w1.heap.size 25 (Ei .u64).sz (.slice (some ⟨db,0,none⟩) 4 4) 4 (flat (Ei .u64) [1,4,4,20]) from hdo)
  have HG2:=Am (World.grownBy.trans HG1.out hg)
  have HR2:=Am (HR1.out.gb hg)
  rw [show shL.length = 4 from rfl]
  clear hg hno hdo HS HR1 HG1
  go_wp2_with fail
  refine (backfilllaw13_plain.calls 4 8 10 1 1000 0 100 100 _ rfl).mono ?_
  rintro e w3 ⟨rfl,hb⟩
  have hg:=gb_of_below hb none
  have HG3:=Am (World.grownBy.trans HG2.out hg)
  have HR3:=Am (HR2.out.gb hg)
  have HN3:=Am (own_kept HNO.out hg (by simp))
  have HD3:=Am (own_kept HDO.out hg (by simp))
  clear hg hb HG2 HR2 HNO HDO
  go_wp2_with fail
  refine (Effective_calls w3 4 8 10 1 1000 0 100 100 (some ⟨lb,0,none⟩) 4 4 shL HR3.out (by decide) sh_ok sh_us).mono ?_
  rintro e w4 ⟨hg,h⟩
  rcases h with ⟨h,_⟩ | ⟨_,_,eb,rfl,heo⟩
  · rcases h with h | h
    · exact absurd sh_load h
    · exact absurd sh_check h
  rw [sh_effs] at heo
  have HE4:=Am (show w4.ownsRow w3.heap.size 25 (Ei .u64).sz (.slice (some ⟨eb,0,none⟩) 4 4) 4 (flat (Ei .u64) [2305843009213693952,2305843009213693952,576460752303423488,2305843009213693952]) from heo)
  have HG4:=Am (World.grownBy.trans HG3.out hg)
  have HR4:=Am (HR3.out.gb hg)
  have HN4:=Am (own_kept HN3.out hg (by simp))
  have HD4:=Am (own_kept HD3.out hg (by simp))
  rw [show shL.length = 4 from rfl]
  clear hg heo HG3 HR3 HN3 HD3
  go_wp2_with fail
  refine (backfilllaw13_plain.calls 4 8 10 1 1000 0 100 100 _ rfl).mono ?_
  rintro e w5 ⟨rfl,hb⟩
  have hg:=gb_of_below hb none
  have HG5:=Am (World.grownBy.trans HG4.out hg)
  have HR5:=Am (HR4.out.gb hg)
  have HN5:=Am (own_kept HN4.out hg (by simp))
  have HD5:=Am (own_kept HD4.out hg (by simp))
  have HE5:=Am (own_kept HE4.out hg (by simp))
  clear hg hb HG4 HR4 HN4 HD4 HE4
  go_wp2_with fail
  refine (Factors_calls w5 (laid_gb HL.out HG5.out) 4 8 10 1 1000 0 100 100 (some ⟨lb,0,none⟩) 4 4 shL HR5.out (by decide) sh_ok sh_us).mono ?_
  rintro e w6 ⟨hg,h⟩
  rcases h with ⟨h,_⟩ | ⟨_,_,v,rfl,hfo⟩
  · rcases h with h | h
    · exact absurd sh_load h
    · exact absurd sh_check h
  rw [sh_facts] at hfo
  obtain ⟨fb,fc,rfl,hfc⟩:=own_at (by decide) (by decide) hfo
  have HF6:=Am (show w6.ownsRow w5.heap.size 25 (Ei .u64).sz (.slice (some ⟨fb,0,none⟩) 4 fc) 4 (flat (Ei .u64) [7755900482342532474,7320595236211045639,7755900482342532474,7320595236211045639]) from hfo)
  have HG6:=Am (World.grownBy.trans HG5.out hg)
  have HN6:=Am (own_kept HN5.out hg (by simp))
  have HD6:=Am (own_kept HD5.out hg (by simp))
  have HE6:=Am (own_kept HE5.out hg (by simp))
  rw [show shL.length = 4 from rfl]
  clear hg hfo hfc HG5 HR5 HN5 HD5 HE5
  go_upto_region 11 with (fail)
  have c1 : w6.cell? ⟨nb,3,none⟩ = some (.int .u64 15):=num_cell HN6.out (j:=3) (by decide) rfl
  have c2 : w6.cell? ⟨db,3,none⟩ = some (.int .u64 20):=num_cell HD6.out (j:=3) (by decide) rfl
  have c3 : w6.cell? ⟨eb,0,none⟩ = some (.int .u64 2305843009213693952):=num_cell HE6.out (j:=0) (by decide) rfl
  have c4 : w6.cell? ⟨eb,2,none⟩ = some (.int .u64 576460752303423488):=num_cell HE6.out (j:=2) (by decide) rfl
  have c5 : w6.cell? ⟨eb,3,none⟩ = some (.int .u64 2305843009213693952):=num_cell HE6.out (j:=3) (by decide) rfl
  have c6 : w6.cell? ⟨fb,0,none⟩ = some (.int .u64 7755900482342532474):=num_cell HF6.out (j:=0) (by decide) rfl
  have c7 : w6.cell? ⟨fb,1,none⟩ = some (.int .u64 7320595236211045639):=num_cell HF6.out (j:=1) (by decide) rfl
  have c8 : w6.cell? ⟨fb,2,none⟩ = some (.int .u64 7755900482342532474):=num_cell HF6.out (j:=2) (by decide) rfl
  go_quiet (fail)
  go_wp2
  go_ret
  exact ⟨rfl,World.grownBy.trans HG6.out (gb_drewN _ _ none)⟩
end Go.Proofs.YtbhijfbjdbjpbaaDoor.T
namespace Go.Proofs.YtbhijfbjdbjpbaaDoor.GSH
open Go.RowKit Go.Proofs.YtbhijfbjdbjpbaaDoorW.PrintWords Go.Proofs.YtbhijfbjdbjpbaaDoorW.PrintLast Go.Proofs.YtbhijfbjdbjpbaaDoorW.PrintMore
attribute [local go_sem] max2_int min2_int max_two min_two max_three min_three max_four min_four   -- for this text's walks alone
set_option linter.unusedVariables false
set_option linter.unusedSimpArgs false
theorem eqA40 (d : Nat) (w : World) (x0 y0 : Int) (x1 y1 : Int) :
  (Op.equalIn (d + 2) 40 (.agg #[.int .u64 x0,.int .u64 x1]) (.agg #[.int .u64 y0,.int .u64 y1])).run Tryd.prog w = .ok (x0 == y0 && (x1 == y1)) w:=by
 refine eqA_of Tryd.underlying40 (by kernel_rfl) ?_
 refine eqf_cons (by rfl) (by go_simp;rfl) (by go_simp;rfl) (by go_simp) ?_
 exact eqf_last (by rfl) (by go_simp;rfl) (by go_simp;rfl) (by go_simp)
end Go.Proofs.YtbhijfbjdbjpbaaDoor.GSH
namespace Go.Proofs.YtbhijfbjdbjpbaaDoor.GSH
open Go.RowKit Go.Proofs.YtbhijfbjdbjpbaaDoorW.PrintWords Go.Proofs.YtbhijfbjdbjpbaaDoorW.PrintLast Go.Proofs.YtbhijfbjdbjpbaaDoorW.PrintMore
attribute [local go_sem] max2_int min2_int max_two min_two max_three min_three max_four min_four   -- for this text's walks alone
set_option linter.unusedVariables false
set_option linter.unusedSimpArgs false
attribute [local go_sem high] eqA40
def backfillref01_Cmp.j0 : Nat → Bool → Int → Int → Int → Int → Option (Int)
 | 0,_,_,_,_,_ => none
 | k + 1,x23,x255000,x255001,x256000,x256001 => if x23 = true then (some (-1)) else (if (x255000 == x256000 && (x255001 == x256001)) = true then (some 0) else (some 1))
def backfillref01_Cmp.f (k : Nat) (a0_0 : Int) (a0_1 : Int) (a1_0 : Int) (a1_1 : Int) : Option (Int):=if a0_0 < a1_0 then (backfillref01_Cmp.j0 k true a0_0 a0_1 a1_0 a1_1) else (if a0_0 = a1_0 then (backfillref01_Cmp.j0 k (decide (a0_1 < a1_1)) a0_0 a0_1 a1_0 a1_1) else (backfillref01_Cmp.j0 k false a0_0 a0_1 a1_0 a1_1))
theorem backfillref01_Cmp.mono_l : ∀ k,(∀ y0 y1 y2 y3 y4,LeO (backfillref01_Cmp.j0 k y0 y1 y2 y3 y4) (backfillref01_Cmp.j0 (k + 1) y0 y1 y2 y3 y4))
 | 0 => fun _ _ _ _ _ r h => by simp [backfillref01_Cmp.j0] at h
 | k + 1 => by
  have ih0:=backfillref01_Cmp.mono_l k
  ·intro y0 y1 y2 y3 y4
   unfold backfillref01_Cmp.j0
   repeat' first
   | (with_reducible exact ih0 _ _ _ _ _)
   | (with_reducible exact LeO.refl _)
   | (with_reducible exact LeO.none _)
   | (with_reducible refine LeO.ite ?_ ?_)
   | (with_reducible refine LeO.bind ?_ (fun _ => ?_))
   | exact ih0 _ _ _ _ _
   | exact LeO.none _
   | refine LeO.ite ?_ ?_
   | refine LeO.bind ?_ (fun _ => ?_)
theorem backfillref01_Cmp.mono : ∀ a0 a1 a2 a3 k,LeO (backfillref01_Cmp.f k a0 a1 a2 a3) (backfillref01_Cmp.f (k + 1) a0 a1 a2 a3):=by
 intro a0 a1 a2 a3 k
 have ih0:=backfillref01_Cmp.mono_l k
 unfold backfillref01_Cmp.f
 repeat' first
   | (with_reducible exact ih0 _ _ _ _ _)
   | (with_reducible exact LeO.refl _)
   | (with_reducible exact LeO.none _)
   | (with_reducible refine LeO.ite ?_ ?_)
   | (with_reducible refine LeO.bind ?_ (fun _ => ?_))
   | exact ih0 _ _ _ _ _
   | exact LeO.none _
   | refine LeO.ite ?_ ?_
   | refine LeO.bind ?_ (fun _ => ?_)
set_option maxHeartbeats 8000000 in
set_option maxRecDepth 100000 in
theorem backfillref01_Cmp.calls (k : Nat) (a0_0 : Int) (a0_1 : Int) (a1_0 : Int) (a1_1 : Int) (r : Int) (w : World) (h : backfillref01_Cmp.f k a0_0 a0_1 a1_0 a1_1 = some r) :
  Calls Tryd.prog 11 #[.agg #[.int .u64 a0_0,.int .u64 a0_1],.agg #[.int .u64 a1_0,.int .u64 a1_1]] w fun e w' => e = .returned (.int .i64 r) ∧ Below w.heap.size w w':=by
 have hu40:=Tryd.underlying40
 have HB:=Am (Below.refl w.heap.size w)
 have H : (if a0_0 < a1_0 then (backfillref01_Cmp.j0 k true a0_0 a0_1 a1_0 a1_1) else (if a0_0 = a1_0 then (backfillref01_Cmp.j0 k (decide (a0_1 < a1_1)) a0_0 a0_1 a1_0 a1_1) else (backfillref01_Cmp.j0 k false a0_0 a0_1 a1_0 a1_1))) = some r:=h
 clear h
 have HC3:=Aside0.mk H
 clear H
 go_enter Tryd.func11,Tryd.ntmps11
 go_upto_region 1 with (first | ((with_reducible refine gate_dst (N:=2) rfl ?_);refine bxA 2 #[.int .u64 a0_0,.int .u64 a0_1] 40 ?_;intro gb254 hg w4 hbox hb;have n0_:=Am (below_step bA hb);have n1_:=Am (hbox);have n2_:=Am (gwA hg bA);have n3_:=Am (gwA hg bA);clear HB;have HB:=n0_;have BK254:=n1_;have GW254:=n2_;have GE254:=n3_;clear n0_ n1_ n2_ n3_ hb hbox hg) | ((with_reducible refine gate_dst (N:=3) rfl ?_);refine bxA 3 #[.int .u64 a1_0,.int .u64 a1_1] 40 ?_;intro gb255 hg w5 hbox hb;have n0_:=Am (blk_below (g:=gb254) kA hb);have n1_:=Am (below_step bA hb);have n2_:=Am (hbox);have n3_:=Am (gwA hg bA);have n4_:=Am (gwA hg bA);have n5_:=Am (neA (g:=gb254) hg kA);have n6_:=Am (neB (g:=gb254) hg kA);clear BK254 HB;have BK254:=n0_;have HB:=n1_;have BK255:=n2_;have GW255:=n3_;have GE255:=n4_;have NB254_255:=n5_;have NB255_254:=n6_;clear n0_ n1_ n2_ n3_ n4_ n5_ n6_ hb hbox hg))
 (try simp only [Act.put,List.setIfInBounds_toArray,List.set_cons_zero,List.set_cons_succ])
 go_cut [23] (fun v23 wc => ∃ (kq : Nat) (x23_2 : Bool),v23 = .bool x23_2 ∧ Aside0 (backfillref01_Cmp.j0 kq x23_2 a0_0 a0_1 a1_0 a1_1 = some r) ∧ Aside0 (kq ≤ k) ∧ Aside0 (wc.heap[gb254]? = some (.cells #[.int .u64 a0_0,.int .u64 a0_1] 40 (0,0))) ∧ Aside0 (wc.heap[gb255]? = some (.cells #[.int .u64 a1_0,.int .u64 a1_1] 40 (0,0))) ∧ Aside0 (Below w.heap.size w wc))
 case first =>
  have H:=HC3.out
  clear HC3
  by_cases c6 : a0_0 < a1_0
  ·rw [if_pos c6] at H
   have c6b0 : decide (a0_0 < a1_0) = true:=decide_eq_true c6
   clear c6
   (first | rw [c6b0] | (simp only [i64_w,i32_w];rw [c6b0]) | skip)
   have H':=Aside0.mk H
   clear H
   have hnb7:=NB254_255.out
   have hnc7:=NB255_254.out
   have hcz8_0 : w5.cell? ⟨gb254,0,none⟩ = some (.int .u64 a0_0):=(blk_cell BK254.out 0).trans rfl
   have hcz8_1 : w5.cell? ⟨gb254,1,none⟩ = some (.int .u64 a0_1):=(blk_cell BK254.out 1).trans rfl
   have hfz8_0:=blk_frozen BK254.out 0
   have hfz8_1:=blk_frozen BK254.out 1
   have hcz9_0 : w5.cell? ⟨gb255,0,none⟩ = some (.int .u64 a1_0):=(blk_cell BK255.out 0).trans rfl
   have hcz9_1 : w5.cell? ⟨gb255,1,none⟩ = some (.int .u64 a1_1):=(blk_cell BK255.out 1).trans rfl
   have hfz9_0:=blk_frozen BK255.out 0
   have hfz9_1:=blk_frozen BK255.out 1
   go_wp2
   go_meet
   case rel => exact ⟨_,(true),(by first | rfl | (simp;done) | (simp [*];done)),H',⟨by first | omega | exact Nat.le_refl _⟩,⟨by exact kA⟩,⟨by exact kA⟩,⟨bA⟩⟩
  ·rw [if_neg c6] at H
   have c6b0 : decide (a0_0 < a1_0) = false:=decide_eq_false c6
   clear c6
   (first | rw [c6b0] | (simp only [i64_w,i32_w];rw [c6b0]) | skip)
   by_cases c10 : a0_0 = a1_0
   ·rw [if_pos c10] at H
    have c10b0 : (a0_0 == a1_0) = true:=beq_iff_eq.mpr c10
    have c10b1 : (a0_0 != a1_0) = false:=bne_eq_false_iff_eq.mpr c10
    clear c10
    have H':=Aside0.mk H
    clear H
    have hnb11:=NB254_255.out
    have hnc11:=NB255_254.out
    have hcz12_0 : w5.cell? ⟨gb254,0,none⟩ = some (.int .u64 a0_0):=(blk_cell BK254.out 0).trans rfl
    have hcz12_1 : w5.cell? ⟨gb254,1,none⟩ = some (.int .u64 a0_1):=(blk_cell BK254.out 1).trans rfl
    have hfz12_0:=blk_frozen BK254.out 0
    have hfz12_1:=blk_frozen BK254.out 1
    have hcz13_0 : w5.cell? ⟨gb255,0,none⟩ = some (.int .u64 a1_0):=(blk_cell BK255.out 0).trans rfl
    have hcz13_1 : w5.cell? ⟨gb255,1,none⟩ = some (.int .u64 a1_1):=(blk_cell BK255.out 1).trans rfl
    have hfz13_0:=blk_frozen BK255.out 0
    have hfz13_1:=blk_frozen BK255.out 1
    go_wp2
    go_meet
    case rel => exact ⟨_,(decide (a0_1 < a1_1)),(by first | rfl | (simp;done) | (simp [*];done)),H',⟨by first | omega | exact Nat.le_refl _⟩,⟨by exact kA⟩,⟨by exact kA⟩,⟨bA⟩⟩
   ·rw [if_neg c10] at H
    have c10b0 : (a0_0 == a1_0) = false:=beq_eq_false_iff_ne.mpr c10
    have c10b1 : (a0_0 != a1_0) = true:=bne_iff_ne.mpr c10
    have H':=Aside0.mk H
    clear H
    have hnb14:=NB254_255.out
    have hnc14:=NB255_254.out
    have hcz15_0 : w5.cell? ⟨gb254,0,none⟩ = some (.int .u64 a0_0):=(blk_cell BK254.out 0).trans rfl
    have hcz15_1 : w5.cell? ⟨gb254,1,none⟩ = some (.int .u64 a0_1):=(blk_cell BK254.out 1).trans rfl
    have hfz15_0:=blk_frozen BK254.out 0
    have hfz15_1:=blk_frozen BK254.out 1
    have hcz16_0 : w5.cell? ⟨gb255,0,none⟩ = some (.int .u64 a1_0):=(blk_cell BK255.out 0).trans rfl
    have hcz16_1 : w5.cell? ⟨gb255,1,none⟩ = some (.int .u64 a1_1):=(blk_cell BK255.out 1).trans rfl
    have hfz16_0:=blk_frozen BK255.out 0
    have hfz16_1:=blk_frozen BK255.out 1
    go_wp2
    go_meet
    case rel => exact ⟨_,(false),(by first | rfl | (simp;done) | (simp [*];done)),H',⟨by first | omega | exact Nat.le_refl _⟩,⟨by exact kA⟩,⟨by exact kA⟩,⟨bA⟩⟩
 case rest =>
  clear HC3
  try clear c1
  try clear p2
  try clear c6
  try clear c6b0
  try clear c7
  try clear c10
  try clear c10b0
  try clear c10b1
  try clear c11
  try clear c14
  try clear hcz12_0
  try clear hcz12_1
  try clear hcz13_0
  try clear hcz13_1
  try clear hcz15_0
  try clear hcz15_1
  try clear hcz16_0
  try clear hcz16_1
  try clear hcz8_0
  try clear hcz8_1
  try clear hcz9_0
  try clear hcz9_1
  try clear hfz12_0
  try clear hfz12_1
  try clear hfz13_0
  try clear hfz13_1
  try clear hfz15_0
  try clear hfz15_1
  try clear hfz16_0
  try clear hfz16_1
  try clear hfz8_0
  try clear hfz8_1
  try clear hfz9_0
  try clear hfz9_1
  obtain ⟨kq,x23_2,rfl,HA,HJ2,BK254,BK255,HB⟩:=hcut
  cases kq with
  | zero => exact absurd HA.out (by simp [backfillref01_Cmp.j0])
  | succ kj2 =>
   have H:=HA.out
   clear HA
   simp only [backfillref01_Cmp.j0] at H
   by_cases c17 : x23_2 = true
   ·subst c17
    have H1 : (some (-1)) = some r:=by rw [if_pos rfl] at H;exact H
    clear H
    have H:=H1
    clear H1
    obtain rfl:=Option.some.inj H
    go_wp2
    go_ret
    exact ⟨by first | rfl | (simp [errW_none,errW_some] <;> rfl) | (simp [*,errW_none,errW_some] <;> rfl),bA⟩
   ·replace c17:=Bool.eq_false_iff.mpr c17
    subst c17
    have H1 : (if (a0_0 == a1_0 && (a0_1 == a1_1)) = true then (some 0) else (some 1)) = some r:=by rw [if_neg (show ¬ (false = true) by decide)] at H;exact H
    clear H
    have H:=H1
    clear H1
    by_cases c18 : (a0_0 == a1_0 && (a0_1 == a1_1)) = true
    ·rw [if_pos c18] at H
     have c18b0 : (a0_0 == a1_0 && (a0_1 == a1_1)) = true:=c18
     (try (have c18b1 : decide (a0_0 = a1_0 && (a0_1 == a1_1)) = true:=by simpa using c18))
     (try (have c18b2 : (a0_0 == a1_0 && (a0_1 == a1_1)) = true:=by simpa using c18))
     clear c18
     obtain rfl:=Option.some.inj H
     have hnb19:=NB254_255.out
     have hnc19:=NB255_254.out
     have hcz20_0 : wc.cell? ⟨gb254,0,none⟩ = some (.int .u64 a0_0):=(blk_cell BK254.out 0).trans rfl
     have hcz20_1 : wc.cell? ⟨gb254,1,none⟩ = some (.int .u64 a0_1):=(blk_cell BK254.out 1).trans rfl
     have hfz20_0:=blk_frozen BK254.out 0
     have hfz20_1:=blk_frozen BK254.out 1
     have hcz21_0 : wc.cell? ⟨gb255,0,none⟩ = some (.int .u64 a1_0):=(blk_cell BK255.out 0).trans rfl
     have hcz21_1 : wc.cell? ⟨gb255,1,none⟩ = some (.int .u64 a1_1):=(blk_cell BK255.out 1).trans rfl
     have hfz21_0:=blk_frozen BK255.out 0
     have hfz21_1:=blk_frozen BK255.out 1
     go_wp2
     go_ret
     exact ⟨by first | rfl | (simp [errW_none,errW_some] <;> rfl) | (simp [*,errW_none,errW_some] <;> rfl),bA⟩
    ·rw [if_neg c18] at H
     have c18b0 : (a0_0 == a1_0 && (a0_1 == a1_1)) = false:=by simpa using c18
     (try (have c18b1 : decide (a0_0 = a1_0 && (a0_1 == a1_1)) = false:=by simpa using c18))
     (try (have c18b2 : (a0_0 == a1_0 && (a0_1 == a1_1)) = false:=by simpa using c18))
     (try (have c18b3 : ¬ (a0_0 = a1_0 && (a0_1 == a1_1)):=by simpa using c18))
     clear c18
     obtain rfl:=Option.some.inj H
     have hnb22:=NB254_255.out
     have hnc22:=NB255_254.out
     have hcz23_0 : wc.cell? ⟨gb254,0,none⟩ = some (.int .u64 a0_0):=(blk_cell BK254.out 0).trans rfl
     have hcz23_1 : wc.cell? ⟨gb254,1,none⟩ = some (.int .u64 a0_1):=(blk_cell BK254.out 1).trans rfl
     have hfz23_0:=blk_frozen BK254.out 0
     have hfz23_1:=blk_frozen BK254.out 1
     have hcz24_0 : wc.cell? ⟨gb255,0,none⟩ = some (.int .u64 a1_0):=(blk_cell BK255.out 0).trans rfl
     have hcz24_1 : wc.cell? ⟨gb255,1,none⟩ = some (.int .u64 a1_1):=(blk_cell BK255.out 1).trans rfl
     have hfz24_0:=blk_frozen BK255.out 0
     have hfz24_1:=blk_frozen BK255.out 1
     go_wp2
     go_ret
     exact ⟨by first | rfl | (simp [errW_none,errW_some] <;> rfl) | (simp [*,errW_none,errW_some] <;> rfl),bA⟩

def backfillref11_within.f (a0 : Int) (a1 : Int) (a2 : Int) : Option (Bool):=if a0 ≥ a1 then (some (decide (a0 ≤ a2))) else (some false)
set_option maxHeartbeats 8000000 in
set_option maxRecDepth 100000 in
theorem backfillref11_within.calls (a0 : Int) (a1 : Int) (a2 : Int) (r : Bool) (w : World) (h : backfillref11_within.f a0 a1 a2 = some r) :
  Calls Tryd.prog 49 #[.int .i64 a0,.int .i64 a1,.int .i64 a2] w fun e w' => e = .returned (.bool r) ∧ Drawn0 w w':=by
 have H : (if a0 ≥ a1 then (some (decide (a0 ≤ a2))) else (some false)) = some r:=h
 clear h
 by_cases c4 : a0 ≥ a1
 ·rw [if_pos c4] at H
  have c4b0 : decide (a1 ≤ a0) = true:=decide_eq_true c4
  clear c4
  obtain rfl:=Option.some.inj H
  go_enter Tryd.func49,Tryd.ntmps49
  go_wp2
  go_ret
  exact ⟨by first | rfl | (simp;done) | (simp [*];done),by repeat (first | exact Drawn0.refl _ | apply Drawn0.step)⟩
 ·rw [if_neg c4] at H
  have c4b0 : decide (a1 ≤ a0) = false:=decide_eq_false c4
  clear c4
  obtain rfl:=Option.some.inj H
  go_enter Tryd.func49,Tryd.ntmps49
  go_wp2
  go_ret
  exact ⟨by first | rfl | (simp;done) | (simp [*];done),by repeat (first | exact Drawn0.refl _ | apply Drawn0.step)⟩

end Go.Proofs.YtbhijfbjdbjpbaaDoor.GSH
