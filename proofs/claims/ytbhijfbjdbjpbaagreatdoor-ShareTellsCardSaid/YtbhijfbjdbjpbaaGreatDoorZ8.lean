/- The texts of this claim, put together by program, what it does not name left out: part 8. Conditions: each theorem's own. -/
import Derived.Test.YtbhijfbjdbjpbaaGreatDoorZ7
set_option maxHeartbeats 8000000
set_option maxRecDepth 100000
namespace Go.Proofs.YtbhijfbjdbjpbaaGreatDoor.T
open Go.RowKit Go.Proofs.YtbhijfbjdbjpbaaGreatDoorW.PrintWords Go.Proofs.YtbhijfbjdbjpbaaGreatDoorW.PrintLast Go.Proofs.YtbhijfbjdbjpbaaGreatDoor.H Go.Maps Go.Proofs.YtbhijfbjdbjpbaaGreatDoor.Q Go.Proofs.YtbhijfbjdbjpbaaGreatDoor.GSH
set_option linter.unusedVariables false
set_option linter.unusedSimpArgs false
def zeroA : Acc:=⟨⟨#[]⟩,0,0,false,0⟩
def behindA : Acc:=⟨⟨#[98,101,104,105,110,100]⟩,0,0,false,0⟩
theorem made_last (n : Nat) : (madeCells (Value.agg (accV zeroA)).cells ((n + 1) * 5)).toList.drop (n * 5) = flat Ec [zeroA]:=by
  rw [flat_one]
  refine List.ext_getElem? fun j => ?_
  rw [List.getElem?_drop]
  unfold madeCells
  rw [Array.getElem?_toList,Array.getElem?_map]
  by_cases hj : j < 5
  · rw [Array.getElem?_eq_getElem (by rw [Array.size_range];omega),Array.getElem_range]
    have e : (n * 5 + j) % (Value.agg (accV zeroA)).cells.size = j:=by
      show (n * 5 + j) % 5 = j
      omega
    rw [Option.map_some,e]
    have : j = 0 ∨ j = 1 ∨ j = 2 ∨ j = 3 ∨ j = 4:=by omega
    rcases this with rfl | rfl | rfl | rfl | rfl <;> rfl
  · rw [Array.getElem?_eq_none (by rw [Array.size_range];omega),List.getElem?_eq_none (by show 5 ≤ j;omega)]
    rfl
theorem set_last {α : Type} (l : List α) (a b : α) : (l ++ [a]).set l.length b = l ++ [b]:=by simp
/-- The book and the row of one's own,laid. -/
theorem start_ok {w w1 w2 w3 w4 : World} {cf : Array Value} {g7 h ob n : Nat} {ls : List Acc} (hg : w.grownBy w1 none) (hc : w1.heap[g7]? = some (.cells cf 23 (0,0))) (h7 : w.heap.size ≤ g7) (hh : h = w1.heap.size) (ho : ob = w2.heap.size)
    (hb : w2.heap[h]? = some (.cells #[.slice none 0 0,.slice none 0 0,.int .i64 0] 29 (0,0))) (g12 : w1.grownBy w2 none) (g23 : w2.grownBy w3 none) (g34 : w3.grownBy w4 (some ob)) (hl : ls.length = n)
    (hr : w4.ownsRow ob 32 Ec.sz (.slice (some ⟨ob,0,none⟩) (n + 1 : Nat) (n + 1 : Nat)) (n + 1) (flat Ec (ls ++ [zeroA]))) :
    ∃ f,StW w (w4.setCell ⟨ob,n * 5 + 0,none⟩ (.string ⟨#[98,101,104,105,110,100]⟩)) cf g7 ob n (ls ++ [behindA]) f ∧ Kept (w4.setCell ⟨ob,n * 5 + 0,none⟩ (.string ⟨#[98,101,104,105,110,100]⟩)) w.heap.size h none 0 none 0 [] [] f:=by
  have z1:=hg.size
  have z2:=g12.size
  have z3:=g23.size
  have l7:=blk_lt' hc
  have lh:=blk_lt' hb
  have t14 : Tn w2 w4 (fun k => k = ob):=(Tn.gb0 g23 _).trans' (Tn.of_gb g34 (fun k hk => (Option.some.inj hk).symm))
  have t:=t14.trans' (Tn.set ob (n * 5 + 0) (.string ⟨#[98,101,104,105,110,100]⟩) (F:=fun k => k = ob) rfl)
  have hput:=own_put (E:=Ec) hr n 0 zeroA behindA (.string ⟨#[98,101,104,105,110,100]⟩) (by rw [← hl];simp) (by decide) rfl
  rw [show (ls ++ [zeroA]).set n behindA = ls ++ [behindA] by rw [← hl];exact set_last _ _ _] at hput
  obtain ⟨f,hf⟩ : ∃ f : Nat → Int,∀ k,f k = if k < w.heap.size then -1000 else if k = g7 then -101 else if k = h then 0 else if k = ob then -100 else -200:=⟨_,fun _ => rfl⟩
  refine ⟨f,⟨((Tn.gb0 (World.grownBy.trans hg g12) (fun k => w.heap.size ≤ k))).trans t (fun i hi e => ?_),?_,own_mono hput (by omega),?_,?_,?_⟩,kept_nil ?_ (by omega) ?_⟩
  · have h5 : i = ob:=e
    show w.heap.size ≤ i
    omega
  · exact blk_tn (blk_kept hc g12 (by simp)) t (fun e => by have h5 : g7 = ob:=e;omega)
  · rw [hf,if_neg (by omega),if_pos rfl]
  · rw [hf,if_neg (by omega),if_neg (by omega),if_neg (by omega),if_pos rfl]
  · intro k hk;rw [hf,if_pos hk]
  · exact blk_tn hb t (fun e => by have h5 : h = ob:=e;omega)
  · rw [hf,if_neg (by omega),if_neg (by omega),if_pos rfl]
theorem Tells_walk (w : World) (hL : LaidW w) (a0 a1 a2 a3 a4 a5 a6 a7 : Int) (A : Option Addr) (n c : Nat) (ls : List Acc) (hr : Rd Ec w A n ls) (hc : n ≤ c) (hs : n * 48 ≤ 140737488351232) (hok : AccOk ls) (hus : AccU ls)
    (A2 : Option Addr) (n2 c2 : Nat) (ls2 : List Acc) (hr2 : Rd Ec w A2 n2 ls2) (hc2 : n2 ≤ c2) (hok2 : AccOk ls2) (hus2 : AccU ls2) :
    Calls Tryz.prog 3 #[.agg #[.int .i64 a0,.int .i64 a1,.int .i64 a2,.int .i64 a3,.int .i64 a4,.int .i64 a5,.int .i64 a6,.int .i64 a7],.slice A n c,.slice A2 n2 c2] w fun e w' => e = .returned (.bool true) ∧ Below w.heap.size w w':=by
  have hlen:=hr.2.1
  have HLW:=Aside0.mk hL
  have HN:=Aside0.mk hr.1
  have HR:=Aside0.mk hr
  have HR2:=Aside0.mk hr2
  have HC0:=Aside0.mk hc
  have HC2:=Aside0.mk hc2
  have HOK:=Aside0.mk hok
  have HOK2:=Aside0.mk hok2
  have HUS:=Aside0.mk hus
  have HUS2:=Aside0.mk hus2
  have HSW:=Aside0.mk shown_calls
  obtain ⟨CC,hC⟩ : ∃ C,C = checkV a0 a1 a2 a3 a4 a5 a6 a7:=⟨_,rfl⟩
  obtain ⟨F,hF⟩ : ∃ F,F = floorV a0 a1 a2 a3 a4 a5 a6 a7:=⟨_,rfl⟩
  have HEF:=Am (fun (W : World) (X : Option Addr) (m d : Nat) (xs : List Acc) (h1 : Rd Ec W X m xs) (h2 : m ≤ d) (h3 : AccOk xs) (h4 : AccU xs) => Effective_one W a0 a1 a2 a3 a4 a5 a6 a7 X m d xs h1 h2 h3 h4)
  have HRE:=Am (fun (W : World) (X : Option Addr) (m d : Nat) (xs : List Acc) (h1 : Rd Ec W X m xs) (h2 : m ≤ d) (h3 : AccOk xs) (h4 : AccU xs) => rEffective_one W a0 a1 a2 a3 a4 a5 a6 a7 X m d xs h1 h2 h3 h4)
  have HFA:=Am (fun (W : World) (X : Option Addr) (m d : Nat) (xs : List Acc) (h1 : Rd Ec W X m xs) (h2 : m ≤ d) (h3 : AccOk xs) (h4 : AccU xs) (h5 : LaidW W) => Factors_one W a0 a1 a2 a3 a4 a5 a6 a7 X m d xs h1 h2 h3 h4 h5)
  have HRF:=Am (fun (W : World) (X : Option Addr) (m d : Nat) (xs : List Acc) (h1 : Rd Ec W X m xs) (h2 : m ≤ d) (h3 : AccOk xs) (h4 : AccU xs) => rFactors_one W a0 a1 a2 a3 a4 a5 a6 a7 X m d xs h1 h2 h3 h4)
  rw [← hC,← hF] at HEF HRE HFA HRF
  obtain ⟨P,hP⟩ : ∃ P,P = w.heap.size:=⟨_,rfl⟩
  have HP:=Aside0.mk hP
  obtain ⟨i5,hi5,hz0,hz1,hz2⟩:=info_parts (show (Tryz.prog.info? 32).map (fun i => (i.zero,i.size,i.bytes)) = some (some (.agg (accV zeroA)),5,48) by kernel_rfl)
  have HI5:=Aside0.mk hi5
  have HZ0:=Aside0.mk hz0
  have HZ1:=Aside0.mk hz1
  have HZ2:=Aside0.mk hz2
  clear hr hc hok hus hC hF hL hr2 hc2 hok2 hus2 hP hi5 hz0 hz1 hz2
  go_enter Tryz.func3,Tryz.ntmps3
  go_upto_region 1 with (fail)
  have HX0:=Am (heap_alloc_new w (.cells #[.int .i64 a0,.int .i64 a1,.int .i64 a2,.int .i64 a3,.int .i64 a4,.int .i64 a5,.int .i64 a6,.int .i64 a7] 23))
  have HG0:=Am (World.grownBy_alloc w (.cells #[.int .i64 a0,.int .i64 a1,.int .i64 a2,.int .i64 a3,.int .i64 a4,.int .i64 a5,.int .i64 a6,.int .i64 a7] 23) none)
  obtain ⟨g7,hg7⟩ : ∃ g,g = w.heap.size:=⟨_,rfl⟩
  have H7:=Am (show w.heap.size ≤ g7 by omega)
  rw [← hg7] at HX0 ⊢
  clear hg7
  generalize w.alloc (.cells #[.int .i64 a0,.int .i64 a1,.int .i64 a2,.int .i64 a3,.int .i64 a4,.int .i64 a5,.int .i64 a6,.int .i64 a7] 23) = w0 at HX0 HG0 ⊢
  go_wp2_with fail
  refine (HSW.out w0 (laid_gb HLW.out HG0.out)).mono ?_
  rintro e w1 ⟨rfl,hg⟩
  have HX1:=Am (blk_kept HX0.out hg (by simp))
  have HG1:=Am (World.grownBy.trans HG0.out hg)
  clear hg HX0 HG0 HSW
  go_upto_region 6 with (fail)
  have HB2:=Am (heap_alloc_new w1 (.cells #[.slice none 0 0,.slice none 0 0,.int .i64 0] 29))
  have HG12:=Am (World.grownBy_alloc w1 (.cells #[.slice none 0 0,.slice none 0 0,.int .i64 0] 29) none)
  obtain ⟨kb,hh⟩ : ∃ g,g = w1.heap.size:=⟨_,rfl⟩
  rw [← hh] at HB2 ⊢
  have HH:=Aside0.mk hh
  clear hh
  generalize w1.alloc (.cells #[.slice none 0 0,.slice none 0 0,.int .i64 0] 29) = w2 at HB2 HG12 ⊢
  obtain ⟨ob,hob⟩ : ∃ g,g = w2.heap.size:=⟨_,rfl⟩
  have HOB:=Aside0.mk hob
  clear hob
  go_upto_region 11 with (first
    | (at_make;refine wpList_make_full _ rfl _ _ 24 rfl w2.heap.size 32 i5 (.agg (accV zeroA)) 5 Tryz.underlying24 HI5.out HZ0.out HZ1.out .i64 .i64 _ _ (n + 1) rfl rfl (by first | rfl | omega | simp) (by first | rfl | omega | simp) (by rw [HZ2.out];omega) (by simp only [maxLen];omega) (Nat.le_refl _) ?_;rw [← HOB.out];intro w3 hown hg;have HO3:=Aside0.mk hown;have HG23:=Aside0.mk hg;have HRr:=Am (HR.out.gb (World.grownBy.trans (World.grownBy.trans HG1.out HG12.out) hg));clear hown hg)
    | ((with_reducible show wpList _ _ _ _ _ _);refine wpl_copyE Ec rfl (.tmp 37) (.tmp 38) 24 24 32 rfl Tryz.underlying24 (by kernel_rfl) ob ob (n + 1) _ A n c ls rfl rfl (by omega) HO3.out HRr.out ?_;intro w4 ho hg;have HG34:=Aside0.mk hg;have ho : w4.ownsRow ob 32 Ec.sz (.slice (some ⟨ob,0,none⟩) (n + 1 : Nat) (n + 1 : Nat)) (n + 1) (flat Ec (ls ++ [zeroA])):=(by rw [flat_append,← made_last n];exact ho);have HO4:=Aside0.mk ho;have hcl : w4.cell? ⟨ob,n * 5,none⟩ = some (.string ⟨#[]⟩):=own_cell (E:=Ec) ho n 0 zeroA (by rw [← HN.out];simp) (by decide) _ rfl;have hfz : w4.frozen? ⟨ob,n * 5,none⟩ = false:=own_frozen ho (n * 5);clear ho hg))
  obtain ⟨f0,hst,hkp⟩:=start_ok HG1.out HX1.out H7.out HH.out HOB.out HB2.out HG12.out HG23.out HG34.out HN.out HO4.out
  have HT0 : Aside0 (TS w (w4.setCell ⟨ob,n * 5 + 0,none⟩ (.string ⟨#[98,101,104,105,110,100]⟩)) #[.int .i64 a0,.int .i64 a1,.int .i64 a2,.int .i64 a3,.int .i64 a4,.int .i64 a5,.int .i64 a6,.int .i64 a7] g7 ob n (ls ++ [behindA]) kb f0 0):=⟨hst,none,0,none,0,[],[],hkp,rfl,by simp⟩
  rw [Nat.add_zero] at HT0
  clear hst hkp HG1 HX1 H7 HH HOB HB2 HG12 HG23 HG34 HO4 HRr HO3 hcl hfz HI5 HZ0 HZ1 HZ2
  generalize w4.setCell ⟨ob,n * 5,none⟩ (.string ⟨#[98,101,104,105,110,100]⟩) = wb at HT0 ⊢
  have HRO:=Am (show ∀ W f N,TS w W #[.int .i64 a0,.int .i64 a1,.int .i64 a2,.int .i64 a3,.int .i64 a4,.int .i64 a5,.int .i64 a6,.int .i64 a7] g7 ob n (ls ++ [behindA]) kb f N → Rd Ec W (some ⟨ob,0,none⟩) n ls from fun W f N h => h.1.own_rd rfl HN.out)
  have HRA:=Am (show ∀ W f N,TS w W #[.int .i64 a0,.int .i64 a1,.int .i64 a2,.int .i64 a3,.int .i64 a4,.int .i64 a5,.int .i64 a6,.int .i64 a7] g7 ob n (ls ++ [behindA]) kb f N → Rd Ec W A2 n2 ls2 from fun W f N h => h.1.old_rd HR2.out)
  have HCO:=Am (show n ≤ n + 1 by omega)
  go_wp2_with fail
  go_loopg [11,12] 3 (fun k v11 v12 wr => ∃ (i : Nat) (f : Nat → Int),v11 = .bool true ∧ v12 = .int .i64 i ∧ Aside0 (i + k = 3) ∧ i ≤ 3 ∧ Aside0 (TS w wr #[.int .i64 a0,.int .i64 a1,.int .i64 a2,.int .i64 a3,.int .i64 a4,.int .i64 a5,.int .i64 a6,.int .i64 a7] g7 ob n (ls ++ [behindA]) kb f (4 * i)))
  case atStart => exact ⟨0,f0,rfl,rfl,⟨by omega⟩,by omega,HT0⟩
  case round =>
    clear HT0
    obtain ⟨i,f,rfl,rfl,HD,hi,HT⟩:=hrel
    cases gk with
    | zero =>
      obtain rfl : i = 3:=by have:=HD.out;omega
      have HTw:=Am (show TS w wr #[.int .i64 a0,.int .i64 a1,.int .i64 a2,.int .i64 a3,.int .i64 a4,.int .i64 a5,.int .i64 a6,.int .i64 a7] g7 ob n (ls ++ [behindA]) kb f 12 from HT.out)
      clear HT HD hi
      go_wp2_with fail
      obtain ⟨w5,rfl⟩ : ∃ w5,w5 = wr:=⟨wr,rfl⟩
      go_loopg [11,22] n (fun k v11 v22 wr => ∃ (j : Nat),v11 = .bool true ∧ v22 = .int .i64 j ∧ Aside0 (j + k = n) ∧ j ≤ n ∧ Aside0 (TS w wr #[.int .i64 a0,.int .i64 a1,.int .i64 a2,.int .i64 a3,.int .i64 a4,.int .i64 a5,.int .i64 a6,.int .i64 a7] g7 ob n (ls ++ [behindA]) kb f 12))
      case atStart => exact ⟨0,rfl,rfl,⟨by omega⟩,by omega,HTw⟩
      case round =>
        clear HTw
        obtain ⟨j,rfl,rfl,HD,hj,HT⟩:=hrel
        cases gk with
        | zero =>
          obtain rfl : n = j:=by have:=HD.out;omega
          have hq0 : wr.cell? ⟨ob,n * 5,none⟩ = some (.string ⟨#[98,101,104,105,110,100]⟩):=(own5 HT.out.1 (show (ls ++ [behindA])[n]? = some behindA by rw [← HN.out];simp)).1
          go_wp2_with fail
          have HTv:=Am (show TS w wr #[.int .i64 a0,.int .i64 a1,.int .i64 a2,.int .i64 a3,.int .i64 a4,.int .i64 a5,.int .i64 a6,.int .i64 a7] g7 ob n (turnTo 0 (ls ++ [behindA])) kb f 12 from HT.out)
          clear HT HD hj hq0
          obtain ⟨w6,rfl⟩ : ∃ w6,w6 = wr:=⟨wr,rfl⟩
          go_loopg [23] n (fun k v23 wr => ∃ (j : Nat),v23 = .int .i64 j ∧ Aside0 (j + k = n) ∧ j ≤ n ∧ Aside0 (TS w wr #[.int .i64 a0,.int .i64 a1,.int .i64 a2,.int .i64 a3,.int .i64 a4,.int .i64 a5,.int .i64 a6,.int .i64 a7] g7 ob n (turnTo j (ls ++ [behindA])) kb f 12))
          case atStart => exact ⟨0,rfl,⟨by omega⟩,by omega,HTv⟩
          case round =>
            clear HTv
            obtain ⟨j,rfl,HD,hj,HT⟩:=hrel
            cases gk with
            | zero =>
              obtain rfl : n = j:=by have:=HD.out;omega
              have HTq:=Am (show TS w wr #[.int .i64 a0,.int .i64 a1,.int .i64 a2,.int .i64 a3,.int .i64 a4,.int .i64 a5,.int .i64 a6,.int .i64 a7] g7 ob n (ls.map turnA ++ [behindA]) kb f 12 by have h:=HT.out;rw [show turnTo n (ls ++ [behindA]) = ls.map turnA ++ [behindA] by rw [← HN.out];exact turnTo_all _ _] at h;exact h)
              clear HT HD hj
              have HLM:=Am (show (ls.map turnA).length = n by rw [List.length_map];exact HN.out)
              have HRQ:=Am (show ∀ W f N,TS w W #[.int .i64 a0,.int .i64 a1,.int .i64 a2,.int .i64 a3,.int .i64 a4,.int .i64 a5,.int .i64 a6,.int .i64 a7] g7 ob n (ls.map turnA ++ [behindA]) kb f N → Rd Ec W (some ⟨ob,0,none⟩) n (ls.map turnA) from fun W f N h => h.1.own_rd rfl HLM.out)
              have HOKm:=Am (turn_ok HOK.out)
              have HUSm:=Am (turn_us HUS.out)
              have HGl:=Am (World.grownBy_alloc wr (.cells #[] 32) none)
              have HN0:=Am (show (wr.alloc (.cells #[] 32)).ownsRow wr.heap.size 32 Ec.sz (.slice (some ⟨wr.heap.size,0,none⟩) 0 0) 0 (flat Ec []) from World.ownsRow_lit wr #[] 0 (Nat.le_refl _) (by simp [maxLen]) (by simp))
              have HRl:=Am (HRQ.out _ _ _ (HTq.out.gb HGl.out))
              go_upto_region 35 with (at_builtin;refine app Ec wr.heap.size rfl (.tmp 157) (.tmp 160) 24 32 (.agg (accV zeroA)) 48 rfl Tryz.underlying24 (by kernel_rfl) rfl (by decide) _ 0 [] (ls.map turnA) _ n _ rfl rfl rfl HN0.out HRl.out HGl.out.size (by omega) ?_;intro v9 w9 ho hg hn2;rw [Nat.zero_add,List.nil_append] at ho;obtain ⟨TA,tc,rfl,htr,htc,htb⟩:=own_open HLM.out ho;have HTR:=Aside0.mk htr;have HTC:=Aside0.mk htc;have HG9:=Am (gb_new HGl.out hg (Nat.le_refl _));have HT9:=Am (HTq.out.gb HG9.out);clear hg hn2 ho htr htc htb)
              have hcut2 : ∀ W : World,(Instr.slice 24 (.slice (some ⟨ob,0,none⟩) (n + 1) (n + 1)) none (some (.int .i64 (n : Int))) none).run Tryz.prog W = .ok (.slice (some ⟨ob,0,none⟩) n (n + 1)) W:=by
                obtain ⟨i5,hi5,-,-,-⟩:=info_parts (show (Tryz.prog.info? 32).map (fun i => (i.zero,i.size,i.bytes)) = some (some (.agg (accV zeroA)),5,48) by kernel_rfl)
                have h:=cut_to (P:=Tryz.prog) 24 32 .i64 Tryz.underlying24 hi5 (some ⟨ob,0,none⟩) (n + 1) (n + 1) (n : Int) (by omega) (by omega) (Nat.le_refl _)
                rw [Int.toNat_natCast] at h
                exact h
              have HN9:=Am (show 12 ≤ 900 by omega)
              have HTd:=Am (HT9.out.gb (gb_drew w9 none))
              have HRTd:=Am (HTR.out.gb (gb_drew w9 none))
              have HPC:=Am (HFA.out w9.drew (some ⟨ob,0,none⟩) n (n + 1) (ls.map turnA) (HRQ.out _ _ _ HTd.out) HCO.out HOKm.out HUSm.out (HTd.out.1.laid HLW.out))
              refine start_ (n:=11) (S:=fun w' => w'.cell? ⟨g7,0,none⟩ = some (.int .i64 a0) ∧ w'.cell? ⟨g7,1,none⟩ = some (.int .i64 a1) ∧ w'.cell? ⟨g7,2,none⟩ = some (.int .i64 a2) ∧ w'.cell? ⟨g7,3,none⟩ = some (.int .i64 a3) ∧ w'.cell? ⟨g7,4,none⟩ = some (.int .i64 a4) ∧ w'.cell? ⟨g7,5,none⟩ = some (.int .i64 a5) ∧ w'.cell? ⟨g7,6,none⟩ = some (.int .i64 a6) ∧ w'.cell? ⟨g7,7,none⟩ = some (.int .i64 a7)) (ds:=[]) #[nn,nn,nn,nn,nn,nn,nn,nn,nn,nn,nn] (by kernel_rfl) rfl rfl ⟨HTd.out.c (j:=0) rfl,HTd.out.c (j:=1) rfl,HTd.out.c (j:=2) rfl,HTd.out.c (j:=3) rfl,HTd.out.c (j:=4) rfl,HTd.out.c (j:=5) rfl,HTd.out.c (j:=6) rfl,HTd.out.c (j:=7) rfl⟩ (fun hHeld => ?_)
              refine pu_ 0 (some 162) #[yy,nn,nn,nn,nn,nn,nn,nn,nn,nn,nn] (by kernel_rfl) ?_
              refine pu_ 2 (some 164) #[yy,nn,yy,nn,nn,nn,nn,nn,nn,nn,nn] (by kernel_rfl) ?_
              refine pu_ 3 (some 165) #[yy,nn,yy,yy,nn,nn,nn,nn,nn,nn,nn] (by kernel_rfl) ?_
              refine pu_ 4 (some 166) #[yy,nn,yy,yy,yy,nn,nn,nn,nn,nn,nn] (by kernel_rfl) ?_
              refine pu_ 7 (some 169) #[yy,nn,yy,yy,yy,nn,nn,yy,nn,nn,nn] (by kernel_rfl) ?_
              refine tk_ 1 (some 163) #[yy,yy,yy,yy,yy,nn,nn,yy,nn,nn,nn] (by kernel_rfl) hHeld ?_
              refine tk_ 6 (some 168) #[yy,yy,yy,yy,yy,nn,yy,yy,nn,nn,nn] (by kernel_rfl) hHeld ?_
              refine one_ (i:=5) (N:=some 167) #[yy,yy,yy,yy,yy,yy,yy,yy,nn,nn,nn] rfl rfl (by kernel_rfl) (by decide) (fun K hK => ?_)
              refine goes_ Tryz.func10 (by kernel_rfl) rfl #[.agg #[.int .i64 a0,.int .i64 a1,.int .i64 a2,.int .i64 a3,.int .i64 a4,.int .i64 a5,.int .i64 a6,.int .i64 a7],.slice (some ⟨ob,0,none⟩) n (n + 1)] (by rfl) rfl rfl (by simp only [List.map_toArray,List.map_cons,List.map_nil];try rfl) ?_
              with_reducible refine (HPC.out).mono ?_
              rintro e w5 ⟨hg,s,rfl,hsx,hso⟩
              refine ⟨_,rfl,?_⟩
              obtain ⟨f5,ht5,hl5,hb5⟩:=HTd.out.one hg hso (3 + 2 * ((12 : Nat) : Int));have HT5:=Aside0.mk ht5;have HB5:=Aside0.mk hb5;have HSX:=Aside0.mk hsx;have HRC:=Am (HRF.out w5 TA n tc (ls.map turnA) (HRTd.out.gb hg) HTC.out HOKm.out HUSm.out);clear ht5 hl5 hb5 hsx hso
              refine hK.out _ _ ⟨hg.cell hHeld.1 (by simp),hg.cell hHeld.2.1 (by simp),hg.cell hHeld.2.2.1 (by simp),hg.cell hHeld.2.2.2.1 (by simp),hg.cell hHeld.2.2.2.2.1 (by simp),hg.cell hHeld.2.2.2.2.2.1 (by simp),hg.cell hHeld.2.2.2.2.2.2.1 (by simp),hg.cell hHeld.2.2.2.2.2.2.2 (by simp)⟩ (fun hHeld => ?_)
              clear hK K
              refine norm_ (a':=?_) ?_ ?_
              rotate_left
              · show Act.put _ (some 167) _ = _
                simp only [NR]
                rfl
              refine one_ (i:=8) (N:=some 170) #[yy,yy,yy,yy,yy,yy,yy,yy,yy,nn,nn] rfl rfl (by kernel_rfl) (by decide) (fun K hK => ?_)
              refine goes_ Tryz.func11 (by kernel_rfl) rfl #[.agg #[.int .i64 a0,.int .i64 a1,.int .i64 a2,.int .i64 a3,.int .i64 a4,.int .i64 a5,.int .i64 a6,.int .i64 a7],.slice TA n tc] (by rfl) rfl rfl (by simp only [List.map_toArray,List.map_cons,List.map_nil];try rfl) ?_
              with_reducible refine (HRC.out).mono ?_
              rintro e w6 ⟨hg,q,rfl,hqx,hqo⟩
              refine ⟨_,rfl,?_⟩
              obtain ⟨f6,ht6,hl6,hb6⟩:=HT5.out.one hg hqo (-200);have HT6:=Aside0.mk ht6;have HKC:=Am (ht6.keep HN9.out (HB5.out.lt hl6 (fun h => h)) HSX.out (fact_le _ _ _) hb6 hqx);clear ht6 hl6 hb6 hqx hqo
              refine hK.out _ _ ⟨hg.cell hHeld.1 (by simp),hg.cell hHeld.2.1 (by simp),hg.cell hHeld.2.2.1 (by simp),hg.cell hHeld.2.2.2.1 (by simp),hg.cell hHeld.2.2.2.2.1 (by simp),hg.cell hHeld.2.2.2.2.2.1 (by simp),hg.cell hHeld.2.2.2.2.2.2.1 (by simp),hg.cell hHeld.2.2.2.2.2.2.2 (by simp)⟩ (fun hHeld => ?_)
              clear hK K
              refine norm_ (a':=?_) ?_ ?_
              rotate_left
              · show Act.put _ (some 170) _ = _
                simp only [NR]
                rfl
              refine one_ (i:=9) (N:=some 171) #[yy,yy,yy,yy,yy,yy,yy,yy,yy,yy,nn] rfl rfl (by kernel_rfl) (by decide) (fun K hK => ?_)
              refine goes_ Tryz.func7 (by kernel_rfl) rfl #[.pointer (some ⟨kb,0,none⟩),.slice s.A s.n s.c,.slice q.A q.n q.c] (by rfl) rfl rfl (by simp only [List.map_toArray,List.map_cons,List.map_nil];try rfl) ?_
              with_reducible refine (HKC.out).mono ?_
              rintro e w7 ⟨rfl,f7,ht7,hl7⟩
              refine ⟨_,rfl,?_⟩
              have HT7:=Aside0.mk ht7;clear ht7 hl7
              refine hK.out _ _ ⟨HT7.out.c (j:=0) rfl,HT7.out.c (j:=1) rfl,HT7.out.c (j:=2) rfl,HT7.out.c (j:=3) rfl,HT7.out.c (j:=4) rfl,HT7.out.c (j:=5) rfl,HT7.out.c (j:=6) rfl,HT7.out.c (j:=7) rfl⟩ (fun hHeld => ?_)
              clear hK K
              refine norm_ (a':=?_) ?_ ?_
              rotate_left
              · show Act.put _ (some 171) _ = _
                simp only [NR]
                rfl
              refine pu_ 10 (some 25) #[yy,yy,yy,yy,yy,yy,yy,yy,yy,yy,yy] (by kernel_rfl) ?_
              refine done_ (by kernel_rfl) ?_
              clear hcut2
              go_wp2_with fail
              refine (HT7.out.spoil (by omega)).mono ?_
              rintro e w8 ⟨rfl,hb⟩
              have HBL:=Aside0.mk hb
              clear hb
              go_wp2_with fail
              go_ret
              exact ⟨rfl,HBL.out⟩
            | succ d =>
              have hlt : j < n:=by have:=HD.out;omega
              have hlt1 : decide ((j : Int) < (n : Int)) = true:=decide_eq_true (by omega)
              have hji : (j : Int) < (n : Int):=by omega
              have hjn : (j : Int) < (n : Int) + 1:=by omega
              obtain ⟨x,hx⟩ : ∃ x,ls[j]? = some x:=⟨_,List.getElem?_eq_getElem (by rw [HN.out];exact hlt)⟩
              have hxa : (ls ++ [behindA])[j]? = some x:=by rw [List.getElem?_append_left (by rw [HN.out];exact hlt)];exact hx
              have hxt : (turnTo j (ls ++ [behindA]))[j]? = some x:=by rw [turnTo_at _ _ _ (Nat.le_refl _)];exact hxa
              have HXA:=Aside0.mk hxa
              have HXT:=Aside0.mk hxt
              obtain ⟨-,-,-,-,q4⟩:=own5 HT.out.1 hxt
              have hfz : wr.frozen? ⟨ob,j * 5 + 4,none⟩ = false:=own_frozen HT.out.1.row (j * 5 + 4)
              have HUX:=Am (HUS.out x (List.mem_of_getElem? hx))
              clear hx hxa hxt
              go_upto_region 33 with (fail)
              have hwp : IntKind.u64.wrap (x.us.tdiv 3) = x.us.tdiv 3:=by
                have h0:=HUX.out.1
                have h1:=HUX.out.2
                have h2 : Int.tdiv x.us 3 = x.us / 3:=Int.tdiv_eq_ediv_of_nonneg h0
                rw [h2]
                exact w64_in (by omega) (by omega)
              rw [hwp]
              have HTs:=Am (HT.out.set (i:=4) (y:=usA x) (v:=.int .u64 (x.us.tdiv 3)) HXT.out (by decide) rfl)
              clear HT q4 hfz hwp
              generalize wr.setCell ⟨ob,j * 5 + 4,none⟩ (.int .u64 (x.us.tdiv 3)) = ws at HTs ⊢
              have HXS:=Am (show ((turnTo j (ls ++ [behindA])).set j (usA x))[j]? = some (usA x) by rw [List.getElem?_set_self (List.getElem?_eq_some_iff.1 HXT.out).1])
              obtain ⟨-,-,-,q3,-⟩:=own5 HTs.out.1 HXS.out
              have q3 : ws.cell? ⟨ob,j * 5 + 3,none⟩ = some (.bool x.cl):=q3
              have hfz : ws.frozen? ⟨ob,j * 5 + 3,none⟩ = false:=own_frozen HTs.out.1.row (j * 5 + 3)
              go_wp2_with fail
              have HTt:=Am (HTs.out.set (i:=3) (y:=turnA x) (v:=.bool (!x.cl)) HXS.out (by decide) rfl)
              rw [List.set_set,← turnTo_succ _ _ _ HXA.out] at HTt
              clear HTs q3 hfz
              go_roundg d
              case measure => omega
              case rel => exact ⟨j + 1,by go_num,⟨by have:=HD.out;omega⟩,by omega,HTt⟩
        | succ d =>
          have hlt : j < n:=by have:=HD.out;omega
          have hlt1 : decide ((j : Int) < (n : Int)) = true:=decide_eq_true (by omega)
          have hji : (j : Int) < (n : Int):=by omega
          obtain ⟨ad,rfl,-⟩:=HR.out.2.2 (by omega)
          obtain ⟨x,hx⟩ : ∃ x,ls[j]? = some x:=⟨_,List.getElem?_eq_getElem (by rw [HN.out];exact hlt)⟩
          obtain ⟨p0,p1,p2,p3,p4⟩:=acc_cells (HT.out.1.old_rd HR.out) hx
          obtain ⟨q0,q1,q2,q3,q4⟩:=own5 HT.out.1 (show (ls ++ [behindA])[j]? = some x by rw [List.getElem?_append_left (by rw [HN.out];exact hlt)];exact hx)
          have heq : ∀ W : World,(binOp .eql 32 (.agg #[.string x.nm,.int .i64 x.par,.int .i64 x.sh,.bool x.cl,.int .u64 x.us]) (.agg #[.string x.nm,.int .i64 x.par,.int .i64 x.sh,.bool x.cl,.int .u64 x.us])).run Tryz.prog W = .ok (.bool true) W:=fun W => by rw [← accEq_self x];exact acc_eql x x W
          clear hx
          go_upto_region 26 with (fail)
          go_quiet (fail)
          go_wp2_with fail
          go_roundg d
          case measure => omega
          case rel => exact ⟨j + 1,rfl,by go_num,⟨by have:=HD.out;omega⟩,by omega,⟨HT.out.gb (gb_drewN _ _ none)⟩⟩
    | succ d =>
      have hlt : i < 3:=by have:=HD.out;omega
      have hlt1 : decide ((i : Int) < 3) = true:=decide_eq_true (by omega)
      have hji : (i : Int) < 3:=by omega
      by_cases h1 : i = 1
      · have b1 : ((i : Int) == 1) = true:=by rw [beq_iff_eq];omega
        have b2 : (i == 1) = true:=by rw [beq_iff_eq];exact h1
        clear h1
        go_upto_region 16 with (fail)
        go_wp2_with fail
        refine (Shares_two wr A2 n2 c2 ls2 (HRA.out _ _ _ HT.out) HC2.out HOK2.out).mono ?_
        rintro e w1 ⟨hg,s1,t1,rfl,hsx,htx,hso,hto,hne⟩
        obtain ⟨f1,ht,hs,ht2⟩:=HT.out.two hg hso hto hne (3 + 2 * ((4 * i : Nat) : Int)) (3 + 2 * ((4 * i + 1 : Nat) : Int))
        have HT1:=Aside0.mk ht
        have HS1:=Aside0.mk hs
        have HU1:=Aside0.mk ht2
        have HSX:=Aside0.mk hsx
        have HUX:=Aside0.mk htx
        clear hg hsx htx hso hto hne ht hs ht2
        go_wp2_with fail
        refine (rShares_two w1 A2 n2 c2 ls2 (HRA.out _ _ _ HT1.out) HC2.out HOK2.out).mono ?_
        rintro e w2 ⟨hg,p2,q2,rfl,hpx,hqx,hpo,hqo⟩
        obtain ⟨f2,ht,hl,hp,hq⟩:=HT1.out.both hg hpo hqo (-200)
        have HT2:=Aside0.mk ht
        have HS2:=Am (HS1.out.lt hl (fun h => h))
        have HU2:=Am (HU1.out.lt hl (fun h => h))
        have HP2:=Aside0.mk hp
        have HQ2:=Aside0.mk hq
        have HPX:=Aside0.mk hpx
        have HQX:=Aside0.mk hqx
        clear hg ht hl hp hq hpx hqx hpo hqo HS1 HU1
        go_wp2_with fail
        refine (HT2.out.keep (by omega) HS2.out HSX.out (nums_le _) HP2.out HPX.out).mono ?_
        rintro e w3 ⟨rfl,f3,ht,hl⟩
        have HT3:=Aside0.mk ht
        have HU3:=Am (HU2.out.lt hl (by unfold K012;omega))
        have HQ3:=Am (HQ2.out.lt hl (by unfold K012;omega))
        clear ht hl HS2 HU2 HP2 HQ2
        go_wp2_with fail
        refine (HT3.out.keep (by omega) HU3.out HUX.out (dens_le _) HQ3.out HQX.out).mono ?_
        rintro e w4 ⟨rfl,f4,ht,hl⟩
        have HT4:=Aside0.mk ht
        clear ht hl HU3 HQ3 HT HT1 HT2 HT3 HSX HUX HPX HQX
        have HN9:=Am (show 4 * i + 1 + 1 ≤ 900 by omega)
        have HTd:=Am (HT4.out.gb (gb_drew w4 none))
        have HPC:=Am (HEF.out w4.drew A2 n2 c2 ls2 (HRA.out _ _ _ HTd.out) HC2.out HOK2.out HUS2.out)
        go_upto_region 20 with (fail)
        refine start_ (n:=9) (S:=fun w' => w'.cell? ⟨g7,0,none⟩ = some (.int .i64 a0) ∧ w'.cell? ⟨g7,1,none⟩ = some (.int .i64 a1) ∧ w'.cell? ⟨g7,2,none⟩ = some (.int .i64 a2) ∧ w'.cell? ⟨g7,3,none⟩ = some (.int .i64 a3) ∧ w'.cell? ⟨g7,4,none⟩ = some (.int .i64 a4) ∧ w'.cell? ⟨g7,5,none⟩ = some (.int .i64 a5) ∧ w'.cell? ⟨g7,6,none⟩ = some (.int .i64 a6) ∧ w'.cell? ⟨g7,7,none⟩ = some (.int .i64 a7)) (ds:=[]) #[nn,nn,nn,nn,nn,nn,nn,nn,nn] (by kernel_rfl) rfl rfl ⟨HTd.out.c (j:=0) rfl,HTd.out.c (j:=1) rfl,HTd.out.c (j:=2) rfl,HTd.out.c (j:=3) rfl,HTd.out.c (j:=4) rfl,HTd.out.c (j:=5) rfl,HTd.out.c (j:=6) rfl,HTd.out.c (j:=7) rfl⟩ (fun hHeld => ?_)
        refine pu_ 0 (some 72) #[yy,nn,nn,nn,nn,nn,nn,nn,nn] (by kernel_rfl) ?_
        refine pu_ 2 (some 74) #[yy,nn,yy,nn,nn,nn,nn,nn,nn] (by kernel_rfl) ?_
        refine pu_ 5 (some 77) #[yy,nn,yy,nn,nn,yy,nn,nn,nn] (by kernel_rfl) ?_
        refine tk_ 1 (some 73) #[yy,yy,yy,nn,nn,yy,nn,nn,nn] (by kernel_rfl) hHeld ?_
        refine tk_ 4 (some 76) #[yy,yy,yy,nn,yy,yy,nn,nn,nn] (by kernel_rfl) hHeld ?_
        refine one_ (i:=3) (N:=some 75) #[yy,yy,yy,yy,yy,yy,nn,nn,nn] rfl rfl (by kernel_rfl) (by decide) (fun K hK => ?_)
        refine goes_ Tryz.func8 (by kernel_rfl) rfl #[.agg #[.int .i64 a0,.int .i64 a1,.int .i64 a2,.int .i64 a3,.int .i64 a4,.int .i64 a5,.int .i64 a6,.int .i64 a7],.slice A2 n2 c2] (by rfl) rfl rfl (by simp only [List.map_toArray,List.map_cons,List.map_nil];try rfl) ?_
        with_reducible refine (HPC.out).mono ?_
        rintro e w5 ⟨hg,s,rfl,hsx,hso⟩
        refine ⟨_,rfl,?_⟩
        obtain ⟨f5,ht5,hl5,hb5⟩:=HTd.out.one hg hso (3 + 2 * ((4 * i + 1 + 1 : Nat) : Int));have HT5:=Aside0.mk ht5;have HB5:=Aside0.mk hb5;have HSX:=Aside0.mk hsx;have HRC:=Am (HRE.out w5 A2 n2 c2 ls2 (HRA.out _ _ _ HT5.out) HC2.out HOK2.out HUS2.out);clear ht5 hl5 hb5 hsx hso
        refine hK.out _ _ ⟨hg.cell hHeld.1 (by simp),hg.cell hHeld.2.1 (by simp),hg.cell hHeld.2.2.1 (by simp),hg.cell hHeld.2.2.2.1 (by simp),hg.cell hHeld.2.2.2.2.1 (by simp),hg.cell hHeld.2.2.2.2.2.1 (by simp),hg.cell hHeld.2.2.2.2.2.2.1 (by simp),hg.cell hHeld.2.2.2.2.2.2.2 (by simp)⟩ (fun hHeld => ?_)
        clear hK K
        refine norm_ (a':=?_) ?_ ?_
        rotate_left
        · show Act.put _ (some 75) _ = _
          simp only [NR]
          rfl
        refine one_ (i:=6) (N:=some 78) #[yy,yy,yy,yy,yy,yy,yy,nn,nn] rfl rfl (by kernel_rfl) (by decide) (fun K hK => ?_)
        refine goes_ Tryz.func9 (by kernel_rfl) rfl #[.agg #[.int .i64 a0,.int .i64 a1,.int .i64 a2,.int .i64 a3,.int .i64 a4,.int .i64 a5,.int .i64 a6,.int .i64 a7],.slice A2 n2 c2] (by rfl) rfl rfl (by simp only [List.map_toArray,List.map_cons,List.map_nil];try rfl) ?_
        with_reducible refine (HRC.out).mono ?_
        rintro e w6 ⟨hg,q,rfl,hqx,hqo⟩
        refine ⟨_,rfl,?_⟩
        obtain ⟨f6,ht6,hl6,hb6⟩:=HT5.out.one hg hqo (-200);have HT6:=Aside0.mk ht6;have HKC:=Am (ht6.keep HN9.out (HB5.out.lt hl6 (fun h => h)) HSX.out (eff_le _ _ _) hb6 hqx);clear ht6 hl6 hb6 hqx hqo
        refine hK.out _ _ ⟨hg.cell hHeld.1 (by simp),hg.cell hHeld.2.1 (by simp),hg.cell hHeld.2.2.1 (by simp),hg.cell hHeld.2.2.2.1 (by simp),hg.cell hHeld.2.2.2.2.1 (by simp),hg.cell hHeld.2.2.2.2.2.1 (by simp),hg.cell hHeld.2.2.2.2.2.2.1 (by simp),hg.cell hHeld.2.2.2.2.2.2.2 (by simp)⟩ (fun hHeld => ?_)
        clear hK K
        refine norm_ (a':=?_) ?_ ?_
        rotate_left
        · show Act.put _ (some 78) _ = _
          simp only [NR]
          rfl
        refine one_ (i:=7) (N:=some 79) #[yy,yy,yy,yy,yy,yy,yy,yy,nn] rfl rfl (by kernel_rfl) (by decide) (fun K hK => ?_)
        refine goes_ Tryz.func7 (by kernel_rfl) rfl #[.pointer (some ⟨kb,0,none⟩),.slice s.A s.n s.c,.slice q.A q.n q.c] (by rfl) rfl rfl (by simp only [List.map_toArray,List.map_cons,List.map_nil];try rfl) ?_
        with_reducible refine (HKC.out).mono ?_
        rintro e w7 ⟨rfl,f7,ht7,hl7⟩
        refine ⟨_,rfl,?_⟩
        have HT7:=Aside0.mk ht7;clear ht7 hl7
        refine hK.out _ _ ⟨HT7.out.c (j:=0) rfl,HT7.out.c (j:=1) rfl,HT7.out.c (j:=2) rfl,HT7.out.c (j:=3) rfl,HT7.out.c (j:=4) rfl,HT7.out.c (j:=5) rfl,HT7.out.c (j:=6) rfl,HT7.out.c (j:=7) rfl⟩ (fun hHeld => ?_)
        clear hK K
        refine norm_ (a':=?_) ?_ ?_
        rotate_left
        · show Act.put _ (some 79) _ = _
          simp only [NR]
          rfl
        refine pu_ 8 (some 20) #[yy,yy,yy,yy,yy,yy,yy,yy,yy] (by kernel_rfl) ?_
        refine done_ (by kernel_rfl) ?_
        clear HPC HRC HKC HN9 HTd HT4 HT5 HT6 HB5 HSX
        obtain ⟨wl,hwl⟩ : ∃ wl,wl = w7:=⟨_,rfl⟩
        obtain ⟨fl,hfl⟩ : ∃ fl,fl = f7:=⟨_,rfl⟩
        rw [← hwl,← hfl] at HT7
        rw [← hwl]
        have HTl:=HT7
        clear HT7 hwl hfl
        have HN9:=Am (show 4 * i + 1 + 1 + 1 ≤ 900 by omega)
        have HTd:=Am (HTl.out.gb (gb_drew wl none))
        have HPC:=Am (HFA.out wl.drew A2 n2 c2 ls2 (HRA.out _ _ _ HTd.out) HC2.out HOK2.out HUS2.out (HTd.out.1.laid HLW.out))
        go_upto_region 21 with (fail)
        refine start_ (n:=9) (S:=fun w' => w'.cell? ⟨g7,0,none⟩ = some (.int .i64 a0) ∧ w'.cell? ⟨g7,1,none⟩ = some (.int .i64 a1) ∧ w'.cell? ⟨g7,2,none⟩ = some (.int .i64 a2) ∧ w'.cell? ⟨g7,3,none⟩ = some (.int .i64 a3) ∧ w'.cell? ⟨g7,4,none⟩ = some (.int .i64 a4) ∧ w'.cell? ⟨g7,5,none⟩ = some (.int .i64 a5) ∧ w'.cell? ⟨g7,6,none⟩ = some (.int .i64 a6) ∧ w'.cell? ⟨g7,7,none⟩ = some (.int .i64 a7)) (ds:=[]) #[nn,nn,nn,nn,nn,nn,nn,nn,nn] (by kernel_rfl) rfl rfl ⟨HTd.out.c (j:=0) rfl,HTd.out.c (j:=1) rfl,HTd.out.c (j:=2) rfl,HTd.out.c (j:=3) rfl,HTd.out.c (j:=4) rfl,HTd.out.c (j:=5) rfl,HTd.out.c (j:=6) rfl,HTd.out.c (j:=7) rfl⟩ (fun hHeld => ?_)
        refine pu_ 0 (some 80) #[yy,nn,nn,nn,nn,nn,nn,nn,nn] (by kernel_rfl) ?_
        refine pu_ 2 (some 82) #[yy,nn,yy,nn,nn,nn,nn,nn,nn] (by kernel_rfl) ?_
        refine pu_ 5 (some 85) #[yy,nn,yy,nn,nn,yy,nn,nn,nn] (by kernel_rfl) ?_
        refine tk_ 1 (some 81) #[yy,yy,yy,nn,nn,yy,nn,nn,nn] (by kernel_rfl) hHeld ?_
        refine tk_ 4 (some 84) #[yy,yy,yy,nn,yy,yy,nn,nn,nn] (by kernel_rfl) hHeld ?_
        refine one_ (i:=3) (N:=some 83) #[yy,yy,yy,yy,yy,yy,nn,nn,nn] rfl rfl (by kernel_rfl) (by decide) (fun K hK => ?_)
        refine goes_ Tryz.func10 (by kernel_rfl) rfl #[.agg #[.int .i64 a0,.int .i64 a1,.int .i64 a2,.int .i64 a3,.int .i64 a4,.int .i64 a5,.int .i64 a6,.int .i64 a7],.slice A2 n2 c2] (by rfl) rfl rfl (by simp only [List.map_toArray,List.map_cons,List.map_nil];try rfl) ?_
        with_reducible refine (HPC.out).mono ?_
        rintro e w5 ⟨hg,s,rfl,hsx,hso⟩
        refine ⟨_,rfl,?_⟩
        obtain ⟨f5,ht5,hl5,hb5⟩:=HTd.out.one hg hso (3 + 2 * ((4 * i + 1 + 1 + 1 : Nat) : Int));have HT5:=Aside0.mk ht5;have HB5:=Aside0.mk hb5;have HSX:=Aside0.mk hsx;have HRC:=Am (HRF.out w5 A2 n2 c2 ls2 (HRA.out _ _ _ HT5.out) HC2.out HOK2.out HUS2.out);clear ht5 hl5 hb5 hsx hso
        refine hK.out _ _ ⟨hg.cell hHeld.1 (by simp),hg.cell hHeld.2.1 (by simp),hg.cell hHeld.2.2.1 (by simp),hg.cell hHeld.2.2.2.1 (by simp),hg.cell hHeld.2.2.2.2.1 (by simp),hg.cell hHeld.2.2.2.2.2.1 (by simp),hg.cell hHeld.2.2.2.2.2.2.1 (by simp),hg.cell hHeld.2.2.2.2.2.2.2 (by simp)⟩ (fun hHeld => ?_)
        clear hK K
        refine norm_ (a':=?_) ?_ ?_
        rotate_left
        · show Act.put _ (some 83) _ = _
          simp only [NR]
          rfl
        refine one_ (i:=6) (N:=some 86) #[yy,yy,yy,yy,yy,yy,yy,nn,nn] rfl rfl (by kernel_rfl) (by decide) (fun K hK => ?_)
        refine goes_ Tryz.func11 (by kernel_rfl) rfl #[.agg #[.int .i64 a0,.int .i64 a1,.int .i64 a2,.int .i64 a3,.int .i64 a4,.int .i64 a5,.int .i64 a6,.int .i64 a7],.slice A2 n2 c2] (by rfl) rfl rfl (by simp only [List.map_toArray,List.map_cons,List.map_nil];try rfl) ?_
        with_reducible refine (HRC.out).mono ?_
        rintro e w6 ⟨hg,q,rfl,hqx,hqo⟩
        refine ⟨_,rfl,?_⟩
        obtain ⟨f6,ht6,hl6,hb6⟩:=HT5.out.one hg hqo (-200);have HT6:=Aside0.mk ht6;have HKC:=Am (ht6.keep HN9.out (HB5.out.lt hl6 (fun h => h)) HSX.out (fact_le _ _ _) hb6 hqx);clear ht6 hl6 hb6 hqx hqo
        refine hK.out _ _ ⟨hg.cell hHeld.1 (by simp),hg.cell hHeld.2.1 (by simp),hg.cell hHeld.2.2.1 (by simp),hg.cell hHeld.2.2.2.1 (by simp),hg.cell hHeld.2.2.2.2.1 (by simp),hg.cell hHeld.2.2.2.2.2.1 (by simp),hg.cell hHeld.2.2.2.2.2.2.1 (by simp),hg.cell hHeld.2.2.2.2.2.2.2 (by simp)⟩ (fun hHeld => ?_)
        clear hK K
        refine norm_ (a':=?_) ?_ ?_
        rotate_left
        · show Act.put _ (some 86) _ = _
          simp only [NR]
          rfl
        refine one_ (i:=7) (N:=some 87) #[yy,yy,yy,yy,yy,yy,yy,yy,nn] rfl rfl (by kernel_rfl) (by decide) (fun K hK => ?_)
        refine goes_ Tryz.func7 (by kernel_rfl) rfl #[.pointer (some ⟨kb,0,none⟩),.slice s.A s.n s.c,.slice q.A q.n q.c] (by rfl) rfl rfl (by simp only [List.map_toArray,List.map_cons,List.map_nil];try rfl) ?_
        with_reducible refine (HKC.out).mono ?_
        rintro e w7 ⟨rfl,f7,ht7,hl7⟩
        refine ⟨_,rfl,?_⟩
        have HT7:=Aside0.mk ht7;clear ht7 hl7
        refine hK.out _ _ ⟨HT7.out.c (j:=0) rfl,HT7.out.c (j:=1) rfl,HT7.out.c (j:=2) rfl,HT7.out.c (j:=3) rfl,HT7.out.c (j:=4) rfl,HT7.out.c (j:=5) rfl,HT7.out.c (j:=6) rfl,HT7.out.c (j:=7) rfl⟩ (fun hHeld => ?_)
        clear hK K
        refine norm_ (a':=?_) ?_ ?_
        rotate_left
        · show Act.put _ (some 87) _ = _
          simp only [NR]
          rfl
        refine pu_ 8 (some 21) #[yy,yy,yy,yy,yy,yy,yy,yy,yy] (by kernel_rfl) ?_
        refine done_ (by kernel_rfl) ?_
        clear HPC HRC HKC HN9 HTd HT5 HT6 HB5 HSX
        go_wp2_with fail
        go_roundg d
        case measure => omega
        case rel => exact ⟨i + 1,f7,rfl,by go_num,⟨by have:=HD.out;omega⟩,by omega,HT7⟩
      · have b1 : ((i : Int) == 1) = false:=by rw [beq_eq_false_iff_ne];omega
        have b2 : (i == 1) = false:=by rw [beq_eq_false_iff_ne];exact h1
        clear h1
        go_upto_region 16 with (fail)
        go_wp2_with fail
        refine (Shares_two wr (some ⟨ob,0,none⟩) n (n + 1) ls (HRO.out _ _ _ HT.out) HCO.out HOK.out).mono ?_
        rintro e w1 ⟨hg,s1,t1,rfl,hsx,htx,hso,hto,hne⟩
        obtain ⟨f1,ht,hs,ht2⟩:=HT.out.two hg hso hto hne (3 + 2 * ((4 * i : Nat) : Int)) (3 + 2 * ((4 * i + 1 : Nat) : Int))
        have HT1:=Aside0.mk ht
        have HS1:=Aside0.mk hs
        have HU1:=Aside0.mk ht2
        have HSX:=Aside0.mk hsx
        have HUX:=Aside0.mk htx
        clear hg hsx htx hso hto hne ht hs ht2
        go_wp2_with fail
        refine (rShares_two w1 (some ⟨ob,0,none⟩) n (n + 1) ls (HRO.out _ _ _ HT1.out) HCO.out HOK.out).mono ?_
        rintro e w2 ⟨hg,p2,q2,rfl,hpx,hqx,hpo,hqo⟩
        obtain ⟨f2,ht,hl,hp,hq⟩:=HT1.out.both hg hpo hqo (-200)
        have HT2:=Aside0.mk ht
        have HS2:=Am (HS1.out.lt hl (fun h => h))
        have HU2:=Am (HU1.out.lt hl (fun h => h))
        have HP2:=Aside0.mk hp
        have HQ2:=Aside0.mk hq
        have HPX:=Aside0.mk hpx
        have HQX:=Aside0.mk hqx
        clear hg ht hl hp hq hpx hqx hpo hqo HS1 HU1
        go_wp2_with fail
        refine (HT2.out.keep (by omega) HS2.out HSX.out (nums_le _) HP2.out HPX.out).mono ?_
        rintro e w3 ⟨rfl,f3,ht,hl⟩
        have HT3:=Aside0.mk ht
        have HU3:=Am (HU2.out.lt hl (by unfold K012;omega))
        have HQ3:=Am (HQ2.out.lt hl (by unfold K012;omega))
        clear ht hl HS2 HU2 HP2 HQ2
        go_wp2_with fail
        refine (HT3.out.keep (by omega) HU3.out HUX.out (dens_le _) HQ3.out HQX.out).mono ?_
        rintro e w4 ⟨rfl,f4,ht,hl⟩
        have HT4:=Aside0.mk ht
        clear ht hl HU3 HQ3 HT HT1 HT2 HT3 HSX HUX HPX HQX
        have HN9:=Am (show 4 * i + 1 + 1 ≤ 900 by omega)
        have HTd:=Am (HT4.out.gb (gb_drew w4 none))
        have HPC:=Am (HEF.out w4.drew (some ⟨ob,0,none⟩) n (n + 1) ls (HRO.out _ _ _ HTd.out) HCO.out HOK.out HUS.out)
        go_upto_region 20 with (fail)
        refine start_ (n:=9) (S:=fun w' => w'.cell? ⟨g7,0,none⟩ = some (.int .i64 a0) ∧ w'.cell? ⟨g7,1,none⟩ = some (.int .i64 a1) ∧ w'.cell? ⟨g7,2,none⟩ = some (.int .i64 a2) ∧ w'.cell? ⟨g7,3,none⟩ = some (.int .i64 a3) ∧ w'.cell? ⟨g7,4,none⟩ = some (.int .i64 a4) ∧ w'.cell? ⟨g7,5,none⟩ = some (.int .i64 a5) ∧ w'.cell? ⟨g7,6,none⟩ = some (.int .i64 a6) ∧ w'.cell? ⟨g7,7,none⟩ = some (.int .i64 a7)) (ds:=[]) #[nn,nn,nn,nn,nn,nn,nn,nn,nn] (by kernel_rfl) rfl rfl ⟨HTd.out.c (j:=0) rfl,HTd.out.c (j:=1) rfl,HTd.out.c (j:=2) rfl,HTd.out.c (j:=3) rfl,HTd.out.c (j:=4) rfl,HTd.out.c (j:=5) rfl,HTd.out.c (j:=6) rfl,HTd.out.c (j:=7) rfl⟩ (fun hHeld => ?_)
        refine pu_ 0 (some 72) #[yy,nn,nn,nn,nn,nn,nn,nn,nn] (by kernel_rfl) ?_
        refine pu_ 2 (some 74) #[yy,nn,yy,nn,nn,nn,nn,nn,nn] (by kernel_rfl) ?_
        refine pu_ 5 (some 77) #[yy,nn,yy,nn,nn,yy,nn,nn,nn] (by kernel_rfl) ?_
        refine tk_ 1 (some 73) #[yy,yy,yy,nn,nn,yy,nn,nn,nn] (by kernel_rfl) hHeld ?_
        refine tk_ 4 (some 76) #[yy,yy,yy,nn,yy,yy,nn,nn,nn] (by kernel_rfl) hHeld ?_
        refine one_ (i:=3) (N:=some 75) #[yy,yy,yy,yy,yy,yy,nn,nn,nn] rfl rfl (by kernel_rfl) (by decide) (fun K hK => ?_)
        refine goes_ Tryz.func8 (by kernel_rfl) rfl #[.agg #[.int .i64 a0,.int .i64 a1,.int .i64 a2,.int .i64 a3,.int .i64 a4,.int .i64 a5,.int .i64 a6,.int .i64 a7],.slice (some ⟨ob,0,none⟩) n (n + 1)] (by rfl) rfl rfl (by simp only [List.map_toArray,List.map_cons,List.map_nil];try rfl) ?_
        with_reducible refine (HPC.out).mono ?_
        rintro e w5 ⟨hg,s,rfl,hsx,hso⟩
        refine ⟨_,rfl,?_⟩
        obtain ⟨f5,ht5,hl5,hb5⟩:=HTd.out.one hg hso (3 + 2 * ((4 * i + 1 + 1 : Nat) : Int));have HT5:=Aside0.mk ht5;have HB5:=Aside0.mk hb5;have HSX:=Aside0.mk hsx;have HRC:=Am (HRE.out w5 (some ⟨ob,0,none⟩) n (n + 1) ls (HRO.out _ _ _ HT5.out) HCO.out HOK.out HUS.out);clear ht5 hl5 hb5 hsx hso
        refine hK.out _ _ ⟨hg.cell hHeld.1 (by simp),hg.cell hHeld.2.1 (by simp),hg.cell hHeld.2.2.1 (by simp),hg.cell hHeld.2.2.2.1 (by simp),hg.cell hHeld.2.2.2.2.1 (by simp),hg.cell hHeld.2.2.2.2.2.1 (by simp),hg.cell hHeld.2.2.2.2.2.2.1 (by simp),hg.cell hHeld.2.2.2.2.2.2.2 (by simp)⟩ (fun hHeld => ?_)
        clear hK K
        refine norm_ (a':=?_) ?_ ?_
        rotate_left
        · show Act.put _ (some 75) _ = _
          simp only [NR]
          rfl
        refine one_ (i:=6) (N:=some 78) #[yy,yy,yy,yy,yy,yy,yy,nn,nn] rfl rfl (by kernel_rfl) (by decide) (fun K hK => ?_)
        refine goes_ Tryz.func9 (by kernel_rfl) rfl #[.agg #[.int .i64 a0,.int .i64 a1,.int .i64 a2,.int .i64 a3,.int .i64 a4,.int .i64 a5,.int .i64 a6,.int .i64 a7],.slice (some ⟨ob,0,none⟩) n (n + 1)] (by rfl) rfl rfl (by simp only [List.map_toArray,List.map_cons,List.map_nil];try rfl) ?_
        with_reducible refine (HRC.out).mono ?_
        rintro e w6 ⟨hg,q,rfl,hqx,hqo⟩
        refine ⟨_,rfl,?_⟩
        obtain ⟨f6,ht6,hl6,hb6⟩:=HT5.out.one hg hqo (-200);have HT6:=Aside0.mk ht6;have HKC:=Am (ht6.keep HN9.out (HB5.out.lt hl6 (fun h => h)) HSX.out (eff_le _ _ _) hb6 hqx);clear ht6 hl6 hb6 hqx hqo
        refine hK.out _ _ ⟨hg.cell hHeld.1 (by simp),hg.cell hHeld.2.1 (by simp),hg.cell hHeld.2.2.1 (by simp),hg.cell hHeld.2.2.2.1 (by simp),hg.cell hHeld.2.2.2.2.1 (by simp),hg.cell hHeld.2.2.2.2.2.1 (by simp),hg.cell hHeld.2.2.2.2.2.2.1 (by simp),hg.cell hHeld.2.2.2.2.2.2.2 (by simp)⟩ (fun hHeld => ?_)
        clear hK K
        refine norm_ (a':=?_) ?_ ?_
        rotate_left
        · show Act.put _ (some 78) _ = _
          simp only [NR]
          rfl
        refine one_ (i:=7) (N:=some 79) #[yy,yy,yy,yy,yy,yy,yy,yy,nn] rfl rfl (by kernel_rfl) (by decide) (fun K hK => ?_)
        refine goes_ Tryz.func7 (by kernel_rfl) rfl #[.pointer (some ⟨kb,0,none⟩),.slice s.A s.n s.c,.slice q.A q.n q.c] (by rfl) rfl rfl (by simp only [List.map_toArray,List.map_cons,List.map_nil];try rfl) ?_
        with_reducible refine (HKC.out).mono ?_
        rintro e w7 ⟨rfl,f7,ht7,hl7⟩
        refine ⟨_,rfl,?_⟩
        have HT7:=Aside0.mk ht7;clear ht7 hl7
        refine hK.out _ _ ⟨HT7.out.c (j:=0) rfl,HT7.out.c (j:=1) rfl,HT7.out.c (j:=2) rfl,HT7.out.c (j:=3) rfl,HT7.out.c (j:=4) rfl,HT7.out.c (j:=5) rfl,HT7.out.c (j:=6) rfl,HT7.out.c (j:=7) rfl⟩ (fun hHeld => ?_)
        clear hK K
        refine norm_ (a':=?_) ?_ ?_
        rotate_left
        · show Act.put _ (some 79) _ = _
          simp only [NR]
          rfl
        refine pu_ 8 (some 20) #[yy,yy,yy,yy,yy,yy,yy,yy,yy] (by kernel_rfl) ?_
        refine done_ (by kernel_rfl) ?_
        clear HPC HRC HKC HN9 HTd HT4 HT5 HT6 HB5 HSX
        obtain ⟨wl,hwl⟩ : ∃ wl,wl = w7:=⟨_,rfl⟩
        obtain ⟨fl,hfl⟩ : ∃ fl,fl = f7:=⟨_,rfl⟩
        rw [← hwl,← hfl] at HT7
        rw [← hwl]
        have HTl:=HT7
        clear HT7 hwl hfl
        have HN9:=Am (show 4 * i + 1 + 1 + 1 ≤ 900 by omega)
        have HTd:=Am (HTl.out.gb (gb_drew wl none))
        have HPC:=Am (HFA.out wl.drew (some ⟨ob,0,none⟩) n (n + 1) ls (HRO.out _ _ _ HTd.out) HCO.out HOK.out HUS.out (HTd.out.1.laid HLW.out))
        go_upto_region 21 with (fail)
        refine start_ (n:=9) (S:=fun w' => w'.cell? ⟨g7,0,none⟩ = some (.int .i64 a0) ∧ w'.cell? ⟨g7,1,none⟩ = some (.int .i64 a1) ∧ w'.cell? ⟨g7,2,none⟩ = some (.int .i64 a2) ∧ w'.cell? ⟨g7,3,none⟩ = some (.int .i64 a3) ∧ w'.cell? ⟨g7,4,none⟩ = some (.int .i64 a4) ∧ w'.cell? ⟨g7,5,none⟩ = some (.int .i64 a5) ∧ w'.cell? ⟨g7,6,none⟩ = some (.int .i64 a6) ∧ w'.cell? ⟨g7,7,none⟩ = some (.int .i64 a7)) (ds:=[]) #[nn,nn,nn,nn,nn,nn,nn,nn,nn] (by kernel_rfl) rfl rfl ⟨HTd.out.c (j:=0) rfl,HTd.out.c (j:=1) rfl,HTd.out.c (j:=2) rfl,HTd.out.c (j:=3) rfl,HTd.out.c (j:=4) rfl,HTd.out.c (j:=5) rfl,HTd.out.c (j:=6) rfl,HTd.out.c (j:=7) rfl⟩ (fun hHeld => ?_)
        refine pu_ 0 (some 80) #[yy,nn,nn,nn,nn,nn,nn,nn,nn] (by kernel_rfl) ?_
        refine pu_ 2 (some 82) #[yy,nn,yy,nn,nn,nn,nn,nn,nn] (by kernel_rfl) ?_
        refine pu_ 5 (some 85) #[yy,nn,yy,nn,nn,yy,nn,nn,nn] (by kernel_rfl) ?_
        refine tk_ 1 (some 81) #[yy,yy,yy,nn,nn,yy,nn,nn,nn] (by kernel_rfl) hHeld ?_
        refine tk_ 4 (some 84) #[yy,yy,yy,nn,yy,yy,nn,nn,nn] (by kernel_rfl) hHeld ?_
        refine one_ (i:=3) (N:=some 83) #[yy,yy,yy,yy,yy,yy,nn,nn,nn] rfl rfl (by kernel_rfl) (by decide) (fun K hK => ?_)
        refine goes_ Tryz.func10 (by kernel_rfl) rfl #[.agg #[.int .i64 a0,.int .i64 a1,.int .i64 a2,.int .i64 a3,.int .i64 a4,.int .i64 a5,.int .i64 a6,.int .i64 a7],.slice (some ⟨ob,0,none⟩) n (n + 1)] (by rfl) rfl rfl (by simp only [List.map_toArray,List.map_cons,List.map_nil];try rfl) ?_
        with_reducible refine (HPC.out).mono ?_
        rintro e w5 ⟨hg,s,rfl,hsx,hso⟩
        refine ⟨_,rfl,?_⟩
        obtain ⟨f5,ht5,hl5,hb5⟩:=HTd.out.one hg hso (3 + 2 * ((4 * i + 1 + 1 + 1 : Nat) : Int));have HT5:=Aside0.mk ht5;have HB5:=Aside0.mk hb5;have HSX:=Aside0.mk hsx;have HRC:=Am (HRF.out w5 (some ⟨ob,0,none⟩) n (n + 1) ls (HRO.out _ _ _ HT5.out) HCO.out HOK.out HUS.out);clear ht5 hl5 hb5 hsx hso
        refine hK.out _ _ ⟨hg.cell hHeld.1 (by simp),hg.cell hHeld.2.1 (by simp),hg.cell hHeld.2.2.1 (by simp),hg.cell hHeld.2.2.2.1 (by simp),hg.cell hHeld.2.2.2.2.1 (by simp),hg.cell hHeld.2.2.2.2.2.1 (by simp),hg.cell hHeld.2.2.2.2.2.2.1 (by simp),hg.cell hHeld.2.2.2.2.2.2.2 (by simp)⟩ (fun hHeld => ?_)
        clear hK K
        refine norm_ (a':=?_) ?_ ?_
        rotate_left
        · show Act.put _ (some 83) _ = _
          simp only [NR]
          rfl
        refine one_ (i:=6) (N:=some 86) #[yy,yy,yy,yy,yy,yy,yy,nn,nn] rfl rfl (by kernel_rfl) (by decide) (fun K hK => ?_)
        refine goes_ Tryz.func11 (by kernel_rfl) rfl #[.agg #[.int .i64 a0,.int .i64 a1,.int .i64 a2,.int .i64 a3,.int .i64 a4,.int .i64 a5,.int .i64 a6,.int .i64 a7],.slice (some ⟨ob,0,none⟩) n (n + 1)] (by rfl) rfl rfl (by simp only [List.map_toArray,List.map_cons,List.map_nil];try rfl) ?_
        with_reducible refine (HRC.out).mono ?_
        rintro e w6 ⟨hg,q,rfl,hqx,hqo⟩
        refine ⟨_,rfl,?_⟩
        obtain ⟨f6,ht6,hl6,hb6⟩:=HT5.out.one hg hqo (-200);have HT6:=Aside0.mk ht6;have HKC:=Am (ht6.keep HN9.out (HB5.out.lt hl6 (fun h => h)) HSX.out (fact_le _ _ _) hb6 hqx);clear ht6 hl6 hb6 hqx hqo
        refine hK.out _ _ ⟨hg.cell hHeld.1 (by simp),hg.cell hHeld.2.1 (by simp),hg.cell hHeld.2.2.1 (by simp),hg.cell hHeld.2.2.2.1 (by simp),hg.cell hHeld.2.2.2.2.1 (by simp),hg.cell hHeld.2.2.2.2.2.1 (by simp),hg.cell hHeld.2.2.2.2.2.2.1 (by simp),hg.cell hHeld.2.2.2.2.2.2.2 (by simp)⟩ (fun hHeld => ?_)
        clear hK K
        refine norm_ (a':=?_) ?_ ?_
        rotate_left
        · show Act.put _ (some 86) _ = _
          simp only [NR]
          rfl
        refine one_ (i:=7) (N:=some 87) #[yy,yy,yy,yy,yy,yy,yy,yy,nn] rfl rfl (by kernel_rfl) (by decide) (fun K hK => ?_)
        refine goes_ Tryz.func7 (by kernel_rfl) rfl #[.pointer (some ⟨kb,0,none⟩),.slice s.A s.n s.c,.slice q.A q.n q.c] (by rfl) rfl rfl (by simp only [List.map_toArray,List.map_cons,List.map_nil];try rfl) ?_
        with_reducible refine (HKC.out).mono ?_
        rintro e w7 ⟨rfl,f7,ht7,hl7⟩
        refine ⟨_,rfl,?_⟩
        have HT7:=Aside0.mk ht7;clear ht7 hl7
        refine hK.out _ _ ⟨HT7.out.c (j:=0) rfl,HT7.out.c (j:=1) rfl,HT7.out.c (j:=2) rfl,HT7.out.c (j:=3) rfl,HT7.out.c (j:=4) rfl,HT7.out.c (j:=5) rfl,HT7.out.c (j:=6) rfl,HT7.out.c (j:=7) rfl⟩ (fun hHeld => ?_)
        clear hK K
        refine norm_ (a':=?_) ?_ ?_
        rotate_left
        · show Act.put _ (some 87) _ = _
          simp only [NR]
          rfl
        refine pu_ 8 (some 21) #[yy,yy,yy,yy,yy,yy,yy,yy,yy] (by kernel_rfl) ?_
        refine done_ (by kernel_rfl) ?_
        clear HPC HRC HKC HN9 HTd HT5 HT6 HB5 HSX
        go_wp2_with fail
        go_roundg d
        case measure => omega
        case rel => exact ⟨i + 1,f7,rfl,by go_num,⟨by have:=HD.out;omega⟩,by omega,HT7⟩
end Go.Proofs.YtbhijfbjdbjpbaaGreatDoor.T
namespace Go.Proofs.YtbhijfbjdbjpbaaGreatDoor.T
open Go.RowKit Go.Proofs.YtbhijfbjdbjpbaaGreatDoorW.PrintWords Go.Proofs.YtbhijfbjdbjpbaaGreatDoorW.PrintLast Go.Proofs.YtbhijfbjdbjpbaaGreatDoor.H Go.Maps Go.Proofs.YtbhijfbjdbjpbaaGreatDoor.Q Go.Proofs.YtbhijfbjdbjpbaaGreatDoor.GSH
set_option linter.unusedVariables false
theorem Tells_all (w : World) (hL : LaidW w) (a0 : Int) (w0 : (Lit.int .i64 a0).wf = true) (a1 : Int) (w1 : (Lit.int .i64 a1).wf = true) (a2 : Int) (w2 : (Lit.int .i64 a2).wf = true) (a3 : Int) (w3 : (Lit.int .i64 a3).wf = true) (a4 : Int) (w4 : (Lit.int .i64 a4).wf = true) (a5 : Int) (w5 : (Lit.int .i64 a5).wf = true) (a6 : Int) (w6 : (Lit.int .i64 a6).wf = true) (a7 : Int) (w7 : (Lit.int .i64 a7).wf = true)
    (A : Option Addr) (n c : Nat) (ls : List Acc) (hr : Accs w A n ls) (hc : n ≤ c) (hs : n * 48 ≤ 140737488351232) (A2 : Option Addr) (n2 c2 : Nat) (ls2 : List Acc) (hr2 : Accs w A2 n2 ls2) (hc2 : n2 ≤ c2) (hs2 : n2 * 48 ≤ 140737488351232) :
    Calls Tryz.prog 3 #[.agg #[.int .i64 a0,.int .i64 a1,.int .i64 a2,.int .i64 a3,.int .i64 a4,.int .i64 a5,.int .i64 a6,.int .i64 a7],.slice A n c,.slice A2 n2 c2] w fun e w' => e = .returned (.bool true) ∧ Below w.heap.size w w':=
  Tells_walk w hL a0 a1 a2 a3 a4 a5 a6 a7 A n c ls hr.1 hc hs hr.2.1 hr.2.2 A2 n2 c2 ls2 hr2.1 hc2 hr2.2.1 hr2.2.2
end Go.Proofs.YtbhijfbjdbjpbaaGreatDoor.T
namespace Go.Proofs.YtbhijfbjdbjpbaaGreatDoor.LaidKit
open Go.ChangeShapes Go.WideShapes Go.ChangeAt Go.RowKit Go.Proofs.YtbhijfbjdbjpbaaGreatDoor.GSH Go.Proofs.YtbhijfbjdbjpbaaGreatDoorW.PrintWords
abbrev laidL {H : Type} : List (String × DataW H):=[("backfill/ladder.rungs",Rows.laid_backfill_ladder_rungs)]
theorem own : ownKnob Tryz.prog.godebug = none:=by kernel_rfl
theorem gR : Tryz.prog.globalNamed "backfill/ladder.rungs" = some 0:=by kernel_rfl
theorem tR : (Tryz.prog.globals[0]?).map (·.type) = some 92:=by kernel_rfl
theorem door_met (os : Os) (args : Array Value) : laidMetH Tryz.prog laidL ((World.doorLaid Tryz.prog 14 os).forCall (fun _ _ => 0) ⟨#[],args,[]⟩).memory:=
  laidMetH_of_parts3 (fuel:=8) (laidMet_of_run' 8 (by kernel_rfl) (by kernel_rfl)) (by kernel_rfl) (by kernel_rfl)
theorem of_laid {W : World} (h : laidMetH Tryz.prog laidL W) : LaidW W:=by
  rw [MakeChecks.laidMetH_plain _ _ _ (by kernel_rfl)] at h
  obtain ⟨ps,⟨g0,t0,cs0,f0,p0,q0,hg0,ht0,hv0,hd0,_,_⟩,_⟩:=h
  obtain rfl:=Option.some.inj (gR.symm.trans hg0)
  obtain rfl:=Option.some.inj (tR.symm.trans ht0)
  obtain ⟨xs,m1,rfl,hx1,hlen,hn,hel⟩:=DataW.trod_array Tryz.underlying92 hd0
  have c1 : Tryz.prog.cellsOf 30 = 1:=by kernel_rfl
  simp only [Prod.mk.injEq] at hx1
  have hxs : xs.map (·.1) = rungsL.map (fun n => DataW.lit (.int .u64 n)):=by
    have:=hx1.1
    unfold Rows.laid_backfill_ladder_rungs at this
    injection this with this
    exact this.symm.trans rfl
  intro j hj
  have h1:=hel j hj
  rw [c1,Nat.mul_one] at h1
  have hxj : (xs[j]?).map (·.1) = some (DataW.lit (.int .u64 (rungsL.getD j 0))):=by
    rw [← List.getElem?_map,hxs,List.getElem?_map]
    have hlj : j < rungsL.length:=by show j < 32;exact hj
    simp [List.getElem?_eq_getElem hlj,List.getD_eq_getElem?_getD]
  cases hxe : xs[j]? with
  | none => rw [hxe] at hxj;cases hxj
  | some x =>
    rw [hxe] at hxj h1
    simp only [Option.map_some,Option.some.injEq] at hxj
    obtain ⟨n,e1,e2,_⟩:=DataW.trod_int Tryz.underlying30 h1
    rw [e2] at hxj
    have hnj : n = rungsL.getD j 0:=by simpa using hxj
    have hcell:=World.var?_cell hg0 hv0 j
    rw [hcell]
    have hg : cs0.toList[j]? = some (.int .u64 n):=by
      have:=congrArg (fun l => l[0]?) e1
      simpa [List.getElem?_take,List.getElem?_drop] using this
    rw [← Array.getElem?_toList,hg,hnj]
    unfold rd
    rw [Int.toNat_natCast]
end Go.Proofs.YtbhijfbjdbjpbaaGreatDoor.LaidKit
namespace Go.Proofs.YtbhijfbjdbjpbaaGreatDoor.Agg
open Go.ChangeShapes Go.WideShapes Go.ChangeAt Go.RowKit Go.Deep Go.Joins
variable {H : Type} {enc : TypeId × Value → H} {P : Program} {w : World} {base : Nat} {spare : Nat → Bool} {held : Bool}
theorem array8 {α : Type} {cs : Array α} (h : cs.size = 8) : ∃ c0 c1 c2 c3 c4 c5 c6 c7,cs = #[c0,c1,c2,c3,c4,c5,c6,c7]:=by
  obtain ⟨l⟩:=cs
  match l,h with
  | [c0,c1,c2,c3,c4,c5,c6,c7],_ => exact ⟨c0,c1,c2,c3,c4,c5,c6,c7,rfl⟩
theorem list8 {α : Type} {cs : List α} (h : cs.length = 8) : ∃ c0 c1 c2 c3 c4 c5 c6 c7,cs = [c0,c1,c2,c3,c4,c5,c6,c7]:=by
  match cs,h with
  | [c0,c1,c2,c3,c4,c5,c6,c7],_ => exact ⟨c0,c1,c2,c3,c4,c5,c6,c7,rfl⟩
theorem open_agg8 {r : Reach} {b0 : Nat} {t : TypeId} {f0 f1 f2 f3 f4 f5 f6 f7 : Field} {v : Value} {d : DataW H} {p : List MemPlace} (hs : P.underlying t = some (.struct #[f0,f1,f2,f3,f4,f5,f6,f7])) (hone : oneCellFields P #[f0,f1,f2,f3,f4,f5,f6,f7] = true) (hC : P.cellsOf t = 8)
    (hv : Value.okWide P w r b0 t v) (h : DataW.Trod enc P w base spare held t v d p) :
    ∃ (v0 v1 v2 v3 v4 v5 v6 v7 : Value) (y0 y1 y2 y3 y4 y5 y6 y7 : DataW H × List MemPlace) (n : Nat),v = .agg #[v0,v1,v2,v3,v4,v5,v6,v7] ∧ d = .agg [y0.1,y1.1,y2.1,y3.1,y4.1,y5.1,y6.1,y7.1] ∧ p = y0.2 ++ (y1.2 ++ (y2.2 ++ (y3.2 ++ (y4.2 ++ (y5.2 ++ (y6.2 ++ y7.2)))))) ∧
      DataW.trod enc P w base spare held n f0.type [v0] = some y0 ∧ DataW.trod enc P w base spare held n f1.type [v1] = some y1 ∧ DataW.trod enc P w base spare held n f2.type [v2] = some y2 ∧ DataW.trod enc P w base spare held n f3.type [v3] = some y3 ∧ DataW.trod enc P w base spare held n f4.type [v4] = some y4 ∧ DataW.trod enc P w base spare held n f5.type [v5] = some y5 ∧ DataW.trod enc P w base spare held n f6.type [v6] = some y6 ∧ DataW.trod enc P w base spare held n f7.type [v7] = some y7:=by
  obtain ⟨cs,rfl,hsz⟩:=okWide_struct hs hv
  obtain ⟨c0,c1,c2,c3,c4,c5,c6,c7,rfl⟩:=array8 (hsz.trans hC)
  obtain ⟨fuel,hf⟩:=h
  obtain ⟨xs,n,_,hx,hl,hlen,hf⟩:=DataW.trod_struct hs hf
  obtain ⟨y0,y1,y2,y3,y4,y5,y6,y7,rfl⟩:=list8 hlen
  simp only [Prod.mk.injEq] at hx
  obtain ⟨o0,k0⟩:=hone_of hone 0 f0 rfl
  obtain ⟨o1,k1⟩:=hone_of hone 1 f1 rfl
  obtain ⟨o2,k2⟩:=hone_of hone 2 f2 rfl
  obtain ⟨o3,k3⟩:=hone_of hone 3 f3 rfl
  obtain ⟨o4,k4⟩:=hone_of hone 4 f4 rfl
  obtain ⟨o5,k5⟩:=hone_of hone 5 f5 rfl
  obtain ⟨o6,k6⟩:=hone_of hone 6 f6 rfl
  obtain ⟨o7,k7⟩:=hone_of hone 7 f7 rfl
  have h0:=hf 0 f0 rfl
  have h1:=hf 1 f1 rfl
  have h2:=hf 2 f2 rfl
  have h3:=hf 3 f3 rfl
  have h4:=hf 4 f4 rfl
  have h5:=hf 5 f5 rfl
  have h6:=hf 6 f6 rfl
  have h7:=hf 7 f7 rfl
  exact ⟨c0,c1,c2,c3,c4,c5,c6,c7,y0,y1,y2,y3,y4,y5,y6,y7,n,rfl,hx.1,by simpa using hx.2,by simpa [Value.cells,o0,k0] using h0,by simpa [Value.cells,o1,k1] using h1,by simpa [Value.cells,o2,k2] using h2,by simpa [Value.cells,o3,k3] using h3,by simpa [Value.cells,o4,k4] using h4,by simpa [Value.cells,o5,k5] using h5,by simpa [Value.cells,o6,k6] using h6,by simpa [Value.cells,o7,k7] using h7⟩
end Go.Proofs.YtbhijfbjdbjpbaaGreatDoor.Agg
