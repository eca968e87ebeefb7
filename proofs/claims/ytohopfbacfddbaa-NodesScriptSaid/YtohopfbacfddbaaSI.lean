/- Lists that were handed out are written over, and grow: the walk. Conditions: each theorem's own. -/
import Derived.Test.YtohopfbacfddbaaSJ
namespace Go.Proofs.Ytohopfbacfddbaa.S
open Go.RowKit Go.Proofs.YtohopfbacfddbaaW.PrintWords Go.Proofs.YtohopfbacfddbaaW.PrintLast Go.Proofs.Ytohopfbacfddbaa.H
open Go.Proofs.Ytohopfbacfddbaa.N hiding gb_setCell gb_drewN gb_drew gb_refl gb_any gb_of_below below_of_gb below_gb own_open ne_of_ge cut_at
set_option linter.unusedVariables false
set_option linter.unusedSimpArgs false
theorem own_cell0 {α : Type} {E : Enc α} {w : World} {base n c : Nat} {e : TypeId} {g : Nat} {xs : List α} (h : w.ownsRow base e E.sz (.slice (some ⟨g, 0, none⟩) n c) n (flat E xs)) (h1 : E.sz = 1) (j : Nat) (x : α) (hx : xs[j]? = some x) (v : Value) (hv : (E.enc x)[0]? = some v) : w.cell? ⟨g, j, none⟩ = some v := by
  have := own_cell h j 0 x hx (by omega) v hv
  rwa [h1, Nat.mul_one, Nat.add_zero] at this
theorem Sl.some_of {w : World} {P : Nat} {s : Sl} (h : SlOwn w P s) (h0 : 0 < s.n) : ∃ g, s.A = some ⟨g, 0, none⟩ := own_some h.len h h0
/-- What writing over leaves. -/
def SpoilI (w : World) (h : Nat) (f : Nat → Int) (e : Ending) (w' : World) : Prop :=
  e = .returned (.bool true) ∧ (∃ v u, w'.heap[h]? = some (.cells #[v, u] 43 (0, 0))) ∧ Tn w w' (fun k => 0 ≤ f k)
set_option maxHeartbeats 8000000 in
set_option maxRecDepth 100000 in
theorem spoil_calls (w : World) (P h : Nat) (OA : Option Addr) (oc : Nat) (WA : Option Addr) (wc : Nat) (os ws : List Sl) (f : Nat → Int) (hk : Kept w P h OA oc WA wc os ws f) (hn : os.length ≤ 1000) (hs : ∀ s ∈ os, s.n ≤ 1000) :
    Calls Try.prog 18 #[.pointer (some ⟨h, 0, none⟩)] w (SpoilI w h f) := by
  have HC := Aside0.mk (holds_calls w h OA oc WA wc os ws hk.look)
  have HK := Aside0.mk hk
  have HSN := Aside0.mk hs
  obtain ⟨n, hno⟩ : ∃ n, n = os.length := ⟨_, rfl⟩
  have HNO := Aside0.mk hno
  rw [← hno] at hn
  clear hk hs hno
  go_enter Try.func18, Try.ntmps18
  go_wp2_with fail
  refine (HC.out).mono ?_
  rintro e w1 ⟨rfl, hg⟩
  have HK1 := Aside0.mk (HK.out.lt (Lt.gb (f := f) (T := fun _ => False) hg) (fun _ _ => id))
  have HT1 := Aside0.mk (Tn.gb0 hg (fun k => 0 ≤ f k))
  have hc0 := HK1.out.look.c0
  rw [← HNO.out] at hc0
  have HNO1 := Aside0.mk HNO.out.symm
  clear hg HK HC
  go_wp2_with fail
  go_loopg [4] n (fun k v4 wr => ∃ (i : Nat) (os ws : List Sl), v4 = .int .i64 i ∧ Aside0 (i + k = n) ∧ i ≤ n ∧ Aside0 (Kept wr P h OA oc WA wc os ws f) ∧ Aside0 (os.length = n) ∧ Aside0 (∀ s ∈ os, s.n ≤ 1000) ∧ Aside0 (Tn w wr (fun k => 0 ≤ f k)))
  case atStart => exact ⟨0, os, ws, rfl, ⟨by omega⟩, by omega, HK1, HNO1, HSN, HT1⟩
  case round =>
    clear HK1 HNO1 HSN HT1 hc0 HNO
    obtain ⟨i, os, ws, rfl, HD, hi, HK, HNO, HSN, HT⟩ := hrel
    cases gk with
    | zero =>
      obtain rfl : i = n := by have := HD.out; omega
      have HG0 := Aside0.mk HK.out.grow
      have HC := Aside0.mk (holds_calls wr h OA oc WA wc os ws HK.out.look)
      obtain ⟨wo, rfl⟩ : ∃ wo, wo = wr := ⟨wr, rfl⟩
      go_wp2_with fail
      refine (HC.out).mono ?_
      rintro e w2 ⟨rfl, hg⟩
      have HG2 := Aside0.mk (HG0.out.gb hg)
      have HL2 : Aside0 (Lt w f w2 f (fun c => 0 ≤ c)) := ⟨⟨HT.out.trans' (Tn.gb0 hg _), fun _ _ => rfl⟩⟩
      clear hg HG0 HC HT HK HD
      go_wp2_with fail
      go_loopg [6] i (fun k v6 wr => ∃ (j : Nat) (OA : Option Addr) (oc : Nat) (WA : Option Addr) (wc : Nat) (ls ms : List Sl) (f' : Nat → Int), v6 = .int .i64 j ∧ Aside0 (j + k = i) ∧ j ≤ i ∧ Aside0 (ls.length = j) ∧ Aside0 (Grow wr P h OA oc WA wc os ws ls ms f') ∧ Aside0 (Lt w f wr f' (fun c => 0 ≤ c)))
      case atStart => exact ⟨0, OA, oc, WA, wc, [], [], f, rfl, ⟨by omega⟩, by omega, ⟨rfl⟩, HG2, HL2⟩
      case round =>
        clear HG2 HL2
        obtain ⟨j, OA, oc, WA, wc, ls, ms, f', rfl, HD, hj, HLS, HG, HL⟩ := hrel
        cases gk with
        | zero =>
          obtain rfl : j = i := by have := HD.out; omega
          have HC := Aside0.mk (holds_calls wr h OA oc WA wc (os ++ ls) (ws ++ ms) HG.out.look)
          go_wp2_with fail
          refine (HC.out).mono ?_
          rintro e w3 ⟨rfl, hg⟩
          have HB := Aside0.mk (blk_kept HG.out.blk hg (by simp))
          have HT3 := Aside0.mk (HL.out.tn.trans' (Tn.gb0 hg _))
          clear hg
          go_wp2_with fail
          go_ret
          exact ⟨rfl, ⟨_, _, HB.out⟩, HT3.out⟩
        | succ d =>
          have hlt : j < i := by have := HD.out; omega
          have hlt1 : decide ((j : Int) < i) = true := decide_eq_true (by omega)
          obtain ⟨s, hs⟩ : ∃ s, os[j]? = some s := ⟨_, List.getElem?_eq_getElem (by rw [HNO.out]; exact hlt)⟩
          obtain ⟨t, ht⟩ : ∃ t, ws[j]? = some t := ⟨_, List.getElem?_eq_getElem (by rw [← HG.out.len, HNO.out]; exact hlt)⟩
          have hs1 : (os ++ ls)[j]? = some s := by rw [List.getElem?_append_left (by rw [HNO.out]; exact hlt)]; exact hs
          have ht1 : (ws ++ ms)[j]? = some t := by rw [List.getElem?_append_left (by rw [← HG.out.len, HNO.out]; exact hlt)]; exact ht
          have hxs := HG.out.look.xs_at hs1 ht1
          have hso := HG.out.so j s hs (by rw [HLS.out]; exact Nat.le_refl _)
          have hsn : s.n ≤ 1000 := HSN.out s (List.mem_of_getElem? hs)
          have htl := (HG.out.rw_ t (List.mem_of_getElem? ht1)).1
          have hst : t.n = s.n := by rw [← htl, ← hxs]; exact hso.len
          obtain ⟨no, hno⟩ : ∃ no, no = (os ++ ls).length := ⟨_, rfl⟩
          have hno2 : no = i + j := by rw [hno, List.length_append, HNO.out, HLS.out]
          have hnw : (ws ++ ms).length = no := by rw [hno]; exact HG.out.look.len.symm
          have HS := Aside0.mk hs
          have HTt := Aside0.mk ht
          have HXS := Aside0.mk hxs
          have HSO := Aside0.mk hso
          have HTL := Aside0.mk htl
          have HST := Aside0.mk hst
          have HNO1 := Aside0.mk hno
          have HNW1 := Aside0.mk hnw
          obtain ⟨ob, rfl⟩ := own_some rfl HG.out.ho (by rw [← hno]; omega)
          obtain ⟨wb, rfl⟩ := own_some rfl HG.out.hw (by rw [hnw]; omega)
          have hc0 := HG.out.look.c0
          rw [← hno] at hc0
          have hoj : wr.cell? ⟨ob, j, none⟩ = some (.slice s.A s.n s.c) := own_cell0 HG.out.ho rfl j s hs1 _ rfl
          have hd1 := (HG.out.gb (World.grownBy_alloc wr (.cells #[] 3) none)).look.c1
          rw [← hno] at hd1
          have hwj : (wr.alloc (.cells #[] 3)).cell? ⟨wb, j, none⟩ = some (.slice t.A t.n t.c) := own_cell0 (HG.out.gb (World.grownBy_alloc wr (.cells #[] 3) none)).hw rfl j t ht1 _ rfl
          have hjn : (j : Int) < (no : Int) := by omega
          have hjn2 : j < no := by omega
          have HM0 := Aside0.mk (show (wr.alloc (.cells #[] 3)).ownsRow wr.heap.size 3 (Ei .i64).sz (.slice (some ⟨wr.heap.size, 0, none⟩) 0 0) 0 (flat (Ei .i64) []) from World.ownsRow_lit wr #[] 0 (Nat.le_refl _) (by simp [maxLen]) (by simp))
          have HMR := Aside0.mk ((HG.out.rw_ t (List.mem_of_getElem? ht1)).gb (World.grownBy_alloc wr (.cells #[] 3) none))
          have HPW : Aside0 (P ≤ wr.heap.size) := ⟨by have h1 := HG.out.base; have h2 := blk_lt' HG.out.blk; omega⟩
          have HSF := Aside0.mk (fun b => sl_form (b := b) hso)
          have HSB := Aside0.mk (fun b hb => (HG.out.fo j s hs b hb).2)
          have HFO := Aside0.mk (fun b hb => (HG.out.fo j s hs b hb).1)
          have htn : t.n ≤ 1000 := by omega
          clear hs ht hs1 ht1 hxs hso htl hno hnw hst hno2
          go_wp2_with (at_builtin; refine app (Ei .i64) wr.heap.size rfl (.tmp 73) (.tmp 80) 22 3 (.int .i64 0) 8 rfl Try.underlying22 (by kernel_rfl) rfl (by decide) (.slice (some ⟨wr.heap.size, 0, none⟩) 0 0) 0 [] t.xs t.A t.n t.c rfl rfl rfl HM0.out HMR.out (by simp) (by omega) ?_; intro v1 w1 ho hg _; rw [List.nil_append, Nat.zero_add] at ho; obtain ⟨A1, c1, rfl, -, -, -⟩ := own_open HTL.out ho; have HO1 := Aside0.mk ho; have HG1 := Aside0.mk (gb_row (World.grownBy_alloc wr (.cells #[] 3) none) hg (fun k hk => by simp [Value.ownBlock] at hk; omega)); clear ho hg)
          have HI0 : Aside0 (In wr w1 P f' j s 0 s ⟨A1, t.n, c1, t.xs⟩) := ⟨by
            have hm : ∀ b, blkOf A1 b → wr.heap.size ≤ b := fun b hb => (HO1.out.lt b (blk_own.2 hb)).1
            exact ⟨HXS.out, rfl, by rw [List.take_of_length_le (by rw [HSO.out.len]; exact Nat.le_refl _)], HSO.out.tn (Tn.gb0 HG1.out (fun _ => False)) (fun _ _ => id), own_mono HO1.out HPW.out, (HSO.out.rd).gb HG1.out, Tn.gb0 HG1.out _, fun b hb => .inl ⟨HFO.out b hb, HSB.out b hb⟩, hm, fun b hb hb2 => by have := hm b hb2; have := HSB.out b hb; omega⟩⟩
          obtain ⟨m0, hm0⟩ : ∃ m : Sl, m = ⟨A1, t.n, c1, t.xs⟩ := ⟨_, rfl⟩
          rw [← hm0] at HI0
          have hv8 : Value.slice A1 t.n c1 = .slice m0.A m0.n m0.c := by rw [hm0]
          rw [hv8]
          clear hv8 hm0 HM0 HMR hd1 hwj HO1 hc0 hoj
          obtain ⟨w0, hw0⟩ : ∃ w0, w0 = wr := ⟨wr, rfl⟩
          rw [← hw0] at HI0 HG HPW HL HSB HSO HG1
          clear hw0
          go_loopg [7, 8, 9] 12 (fun k v7 v8 v9 wr => ∃ (q : Nat) (l m : Sl), v7 = .slice l.A l.n l.c ∧ v8 = .slice m.A m.n m.c ∧ v9 = .int .i64 q ∧ Aside0 (q + k = 12) ∧ q ≤ 12 ∧ Aside0 (In w0 wr P f' j s q l m))
          case atStart => exact ⟨0, s, m0, rfl, rfl, rfl, ⟨rfl⟩, by omega, HI0⟩
          case round =>
            clear HI0
            obtain ⟨q, l, m, rfl, rfl, rfl, HDq, hq, HI⟩ := hrel
            have hln : l.n ≤ 1012 := by have := HI.out.n; omega
            have hmn : m.n = l.n := by rw [← HI.out.mo.len, ← HI.out.lo.len, HI.out.xs]
            cases gk with
            | zero =>
              obtain rfl : q = 12 := by have := HDq.out; omega
              have hf0 := HG.out.f0
              have hf1 := HG.out.f1 ob ⟨_, rfl, rfl⟩
              have hf2' := HG.out.f2 wb ⟨_, rfl, rfl⟩
              have hhl : h < w0.heap.size := blk_lt' HG.out.blk
              have hol : ob < w0.heap.size := (HG.out.ho.lt ob rfl).2
              have hwl : wb < w0.heap.size := (HG.out.hw.lt wb rfl).2
              have hzz := HI.out.fr.size
              have HHO : Aside0 (¬ h = ob) := ⟨fun e => by rw [e] at hf0; omega⟩
              have HHW : Aside0 (¬ h = wb) := ⟨fun e => by rw [e] at hf0; omega⟩
              have HOW : Aside0 (¬ wb = ob) := ⟨fun e => by rw [e] at hf2'; omega⟩
              have HB := Aside0.mk (show wr.heap[h]? = some (.cells #[.slice (some ⟨ob, 0, none⟩) no oc, .slice (some ⟨wb, 0, none⟩) no wc] 43 (0, 0)) by
                have := blk_tn HG.out.blk HI.out.fr (fun e => by have := e.2; omega)
                rwa [HNW1.out, ← HNO1.out] at this)
              have HOA0 := Aside0.mk (show wr.ownsRow P 22 Es.sz (.slice (some ⟨ob, 0, none⟩) no oc) no (flat Es (os ++ ls)) by
                have := own_tn HG.out.ho HI.out.fr (fun k hk e => by simp [Value.ownBlock] at hk; have := e.2; rw [← hk] at this; omega)
                rwa [← HNO1.out] at this)
              have HWA0 := Aside0.mk (show wr.ownsRow P 22 Es.sz (.slice (some ⟨wb, 0, none⟩) no wc) no (flat Es (ws ++ ms)) by
                have := own_tn HG.out.hw HI.out.fr (fun k hk e => by simp [Value.ownBlock] at hk; have := e.2; rw [← hk] at this; omega)
                rwa [HNW1.out] at this)
              have HOA := Aside0.mk (own_kept HOA0.out (World.grownBy_alloc wr (.cells #[.slice l.A l.n l.c] 22) none) (by simp))
              have HRA := Aside0.mk (show Rd Es (wr.alloc (.cells #[.slice l.A l.n l.c] 22)) (some ⟨wr.heap.size, 0, none⟩) 1 [l] from rd_lit Es wr 22 [l] (by simp))
              have HSA : Aside0 (P ≤ (wr.alloc (.cells #[.slice l.A l.n l.c] 22)).heap.size) := ⟨by have h1 := HPW.out; simp; omega⟩
              have HL2 := Aside0.mk (show ((os ++ ls) ++ [l]).length = no + 1 by rw [List.length_append, ← HNO1.out]; rfl)
              have HL4 := Aside0.mk (show ((ws ++ ms) ++ [m]).length = no + 1 by rw [List.length_append, HNW1.out]; rfl)
              have hnn : no ≤ 2000 := by have h1 := HNO1.out; have h2 := HNO.out; have h3 := HLS.out; rw [List.length_append] at h1; omega
              have hc0 := cell_of (j := 0) (v := .slice (some ⟨ob, 0, none⟩) no oc) HB.out rfl
              clear hmn hf0 hf1 hf2' hhl hol hwl hzz
              go_upto_region 26 with (at_builtin; refine app_at Es P rfl (.tmp 100) (.tmp 102) 41 22 (.slice none 0 0) 24 rfl Try.underlying41 (by kernel_rfl) rfl (by decide) (.slice (some ⟨ob, 0, none⟩) no oc) no (os ++ ls) [l] ⟨wr.heap.size, 0, none⟩ 1 1 rfl rfl HOA.out HRA.out HSA.out (by omega) ?_; intro v2 w2 ho hg hat; obtain ⟨A2, c2, rfl, -, -, -⟩ := own_open HL2.out ho; have HO2 := Aside0.mk ho; have HG2 := Aside0.mk hg; have HA2 := Aside0.mk hat; have HB2 := Aside0.mk (blk_tn (blk_kept HB.out (World.grownBy_alloc wr (.cells #[.slice l.A l.n l.c] 22) none) (by simp)) (Tn.of_gb hg (F := fun k => k = ob) (fun k hk => by simp [Value.ownBlock] at hk; exact hk.symm)) HHO.out); have hk2 := cell_of (j := 0) (v := .slice (some ⟨ob, 0, none⟩) no oc) HB2.out rfl; have hf2 := frozen_of (j := 0) HB2.out; clear ho hg hat)
              have HB3 := Aside0.mk (show (w2.setCell ⟨h, 0, none⟩ (.slice A2 (no + 1) c2)).heap[h]? = some (.cells #[.slice A2 (no + 1) c2, .slice (some ⟨wb, 0, none⟩) no wc] 43 (0, 0)) by
                have := blk_set 0 (.slice A2 (no + 1) c2) HB2.out
                simpa using this)
              have HT3 := Aside0.mk (show Tn wr (w2.setCell ⟨h, 0, none⟩ (.slice A2 (no + 1) c2)) (fun b => blkOf (some ⟨ob, 0, none⟩) b ∨ b = h) from ((Tn.alloc wr _ _).trans' (Tn.of_gb HG2.out (fun k hk => .inl (blk_own.1 hk)))).trans' (Tn.set h 0 _ (.inr rfl)))
              have ha2 : ∀ b, blkOf A2 b → blkOf (some ⟨ob, 0, none⟩) b ∨ wr.heap.size ≤ b := fun b hb => by
                rcases HA2.out with e | e
                · rw [blk_own.2 hb] at e; exact .inl (blk_own.1 e.symm)
                · rw [blk_own.2 hb] at e
                  have := Option.some.inj e
                  simp at this
                  exact .inr (by omega)
              have HA3 := Aside0.mk ha2
              have HO3 := Aside0.mk (show (w2.setCell ⟨h, 0, none⟩ (.slice A2 (no + 1) c2)).ownsRow P 22 Es.sz (.slice A2 (no + 1 : Nat) c2) (no + 1) (flat Es ((os ++ ls) ++ [l])) from
                own_tn HO2.out (Tn.set h 0 _ (F := fun k => k = h) rfl) (fun k hk he => by
                  have h5 := blk_lt' HB.out
                  rcases ha2 k (blk_own.1 hk) with h1 | h1
                  · obtain ⟨ad, h2, h3⟩ := h1
                    cases h2
                    exact HHO.out (he.symm.trans h3.symm)
                  · omega))
              generalize w2.setCell ⟨h, 0, none⟩ (.slice A2 (no + 1) c2) = w3 at HB3 HT3 HO3 ⊢
              have HWA := Aside0.mk (show (w3.alloc (.cells #[.slice m.A m.n m.c] 22)).ownsRow P 22 Es.sz (.slice (some ⟨wb, 0, none⟩) no wc) no (flat Es (ws ++ ms)) from
                own_kept (own_tn HWA0.out HT3.out (fun k hk he => by
                  simp [Value.ownBlock] at hk
                  rcases he with ⟨ad, h2, h3⟩ | h1
                  · cases h2; exact HOW.out (hk.trans h3.symm)
                  · exact HHW.out (h1.symm.trans hk.symm))) (World.grownBy_alloc w3 _ none) (by simp))
              have HRB := Aside0.mk (show Rd Es (w3.alloc (.cells #[.slice m.A m.n m.c] 22)) (some ⟨w3.heap.size, 0, none⟩) 1 [m] from rd_lit Es w3 22 [m] (by simp))
              have HSB2 : Aside0 (P ≤ (w3.alloc (.cells #[.slice m.A m.n m.c] 22)).heap.size) := ⟨by have h1 := HPW.out; have h2 := HT3.out.size; have h3 := HI.out.fr.size; simp; omega⟩
              have hc3 := cell_of (j := 1) (v := .slice (some ⟨wb, 0, none⟩) no wc) HB3.out rfl
              clear ha2 hk2 hf2 hc0
              go_wp2_with (at_builtin; refine app_at Es P rfl (.tmp 110) (.tmp 112) 41 22 (.slice none 0 0) 24 rfl Try.underlying41 (by kernel_rfl) rfl (by decide) (.slice (some ⟨wb, 0, none⟩) no wc) no (ws ++ ms) [m] ⟨w3.heap.size, 0, none⟩ 1 1 rfl rfl HWA.out HRB.out HSB2.out (by omega) ?_; intro v4 w4 ho hg hat; obtain ⟨A4, c4, rfl, -, -, -⟩ := own_open HL4.out ho; have HO4 := Aside0.mk ho; have HG4 := Aside0.mk hg; have HA4 := Aside0.mk hat; have HB4 := Aside0.mk (blk_tn (blk_kept HB3.out (World.grownBy_alloc w3 (.cells #[.slice m.A m.n m.c] 22) none) (by simp)) (Tn.of_gb hg (F := fun k => k = wb) (fun k hk => by simp [Value.ownBlock] at hk; exact hk.symm)) HHW.out); have hk4 := cell_of (j := 1) (v := .slice (some ⟨wb, 0, none⟩) no wc) HB4.out rfl; have hf4 := frozen_of (j := 1) HB4.out; clear ho hg hat)
              go_roundg d
              case measure => omega
              case rel =>
                have e1 : (os ++ (ls ++ [l])).length = no + 1 := by rw [← List.append_assoc]; exact HL2.out
                have e2 : (ws ++ (ms ++ [m])).length = no + 1 := by rw [← List.append_assoc]; exact HL4.out
                have ha4 : ∀ b, blkOf A4 b → blkOf (some ⟨wb, 0, none⟩) b ∨ w3.heap.size ≤ b := fun b hb => by
                  rcases HA4.out with e | e
                  · rw [blk_own.2 hb] at e; exact .inl (blk_own.1 e.symm)
                  · rw [blk_own.2 hb] at e
                    have := Option.some.inj e
                    simp at this
                    exact .inr (by omega)
                have hT5 : Tn w3 (w4.setCell ⟨h, 1, none⟩ (.slice A4 (no + 1 : Nat) c4)) (fun b => blkOf (some ⟨wb, 0, none⟩) b ∨ b = h) :=
                  ((Tn.alloc w3 _ _).trans' (Tn.of_gb HG4.out (fun k hk => .inl (blk_own.1 hk)))).trans' (Tn.set h 1 _ (.inr rfl))
                obtain ⟨f2, hg2, hl2⟩ := HG.out.step HLS.out HS.out HI.out HT3.out (A2 := A2) (c2 := c2) (by rw [e1, ← List.append_assoc]; exact HO3.out) HA3.out hT5 (A4 := A4) (c4 := c4) (by
                  rw [e2, ← List.append_assoc]
                  exact own_tn HO4.out (Tn.set h 1 _ (F := fun k => k = h) rfl) (fun k hk he => by
                    have h5 := blk_lt' HB3.out
                    rcases ha4 k (blk_own.1 hk) with h1 | h1
                    · obtain ⟨ad, h2, h3⟩ := h1
                      cases h2
                      exact HHW.out (he.symm.trans h3.symm)
                    · omega)) ha4 (by
                  rw [e1, e2]
                  have := blk_set 1 (.slice A4 (no + 1 : Nat) c4) HB4.out
                  simpa using this)
                exact ⟨j + 1, A2, c2, A4, c4, ls ++ [l], ms ++ [m], f2, by go_num, ⟨by have := HD.out; omega⟩, by omega, ⟨by rw [List.length_append, HLS.out]; rfl⟩, ⟨hg2⟩, ⟨HL.out.trans hl2⟩⟩
            | succ e =>
              have hq12 : q < 12 := by have := HDq.out; omega
              have hq1 : decide ((q : Int) < 12) = true := decide_eq_true (by omega)
              have HMN := Aside0.mk hmn
              have hmn8 : m.n ≤ 1012 := by omega
              clear hmn
              have HGA := Aside0.mk (World.grownBy_alloc wr (.cells #[.int .i64 (-9000000 - (j : Int))] 3) none)
              have HLO := Aside0.mk (show (wr.alloc (.cells #[.int .i64 (-9000000 - (j : Int))] 3)).ownsRow P 3 (Ei .i64).sz (.slice l.A l.n l.c) l.n (flat (Ei .i64) l.xs) from HI.out.lo.tn (Tn.gb0 HGA.out (fun _ => False)) (fun _ _ => id))
              have HLR := Aside0.mk (show Rd (Ei .i64) (wr.alloc (.cells #[.int .i64 (-9000000 - (j : Int))] 3)) (some ⟨wr.heap.size, 0, none⟩) 1 [(-9000000 - (j : Int))] from rd_lit (Ei .i64) wr 3 [(-9000000 - (j : Int))] (by simp))
              have HLZ : Aside0 (P ≤ (wr.alloc (.cells #[.int .i64 (-9000000 - (j : Int))] 3)).heap.size) := ⟨by have h1 := HPW.out; have h2 := HI.out.fr.size; simp; omega⟩
              have HLL := Aside0.mk (show (l.xs ++ [(-9000000 - (j : Int))]).length = l.n + 1 by rw [List.length_append, HI.out.lo.len]; rfl)
              have HML := Aside0.mk (show (m.xs ++ [(-9000000 - (j : Int))]).length = m.n + 1 by rw [List.length_append, HI.out.mo.len]; rfl)
              go_wp2_with (first | (at_builtin; refine app_at2 (Ei .i64) P rfl (.tmp 86) (.tmp 89) 22 3 (.int .i64 0) 8 rfl Try.underlying22 (by kernel_rfl) rfl (by decide) (.slice l.A l.n l.c) l.n l.xs [(-9000000 - (j : Int))] ⟨wr.heap.size, 0, none⟩ 1 1 rfl rfl HLO.out HLR.out HLZ.out (by omega) ?_; intro v2 w2 ho hg hat; obtain ⟨A2, c2, rfl, -, -, -⟩ := own_open HLL.out ho; have HO2 := Aside0.mk ho; have HG2 := Aside0.mk hg; have HA2 := Aside0.mk hat; have HMO := Aside0.mk (HI.out.mo2 HGA.out hg (World.grownBy_alloc w2 (.cells #[.int .i64 (-9000000 - (j : Int))] 3) none)); have HMR := Aside0.mk (show Rd (Ei .i64) (w2.alloc (.cells #[.int .i64 (-9000000 - (j : Int))] 3)) (some ⟨w2.heap.size, 0, none⟩) 1 [(-9000000 - (j : Int))] from rd_lit (Ei .i64) w2 3 [(-9000000 - (j : Int))] (by simp)); have HMZ : Aside0 (P ≤ (w2.alloc (.cells #[.int .i64 (-9000000 - (j : Int))] 3)).heap.size) := ⟨by have h1 := HLZ.out; have h2 := hg.size; simp at h1 h2 ⊢; omega⟩; clear ho hg hat) | (at_builtin; refine app_at (Ei .i64) P rfl (.tmp 91) (.tmp 94) 22 3 (.int .i64 0) 8 rfl Try.underlying22 (by kernel_rfl) rfl (by decide) (.slice m.A m.n m.c) m.n m.xs [(-9000000 - (j : Int))] ⟨w2.heap.size, 0, none⟩ 1 1 rfl rfl HMO.out HMR.out HMZ.out (by omega) ?_; intro v3 w3 ho hg hat; obtain ⟨A3, c3, rfl, -, -, -⟩ := own_open HML.out ho; have HO3 := Aside0.mk ho; have HG3 := Aside0.mk hg; have HA3 := Aside0.mk hat; clear ho hg hat))
              go_roundg e
              case measure => omega
              case rel => exact ⟨q + 1, ⟨A2, l.n + 1, c2, l.xs ++ [(-9000000 - (j : Int))]⟩, ⟨A3, m.n + 1, c3, m.xs ++ [(-9000000 - (j : Int))]⟩, rfl, rfl, by go_num, ⟨by have := HDq.out; omega⟩, by omega, ⟨HI.out.step HSF.out HSB.out HGA.out HO2.out HG2.out HA2.out (World.grownBy_alloc w2 (.cells #[.int .i64 (-9000000 - (j : Int))] 3) none) HO3.out HG3.out HA3.out⟩⟩
    | succ d =>
      have hlt : i < n := by have := HD.out; omega
      have hlt1 : decide ((i : Int) < n) = true := decide_eq_true (by omega)
      obtain ⟨s, hs⟩ : ∃ s, os[i]? = some s := ⟨_, List.getElem?_eq_getElem (by rw [HNO.out]; exact hlt)⟩
      obtain ⟨m, hm⟩ : ∃ m, m = s.n := ⟨_, rfl⟩
      have hm1 : m ≤ 1000 := by rw [hm]; exact HSN.out s (List.mem_of_getElem? hs)
      have HSM : Aside0 (∃ s, os[i]? = some s ∧ s.n = m) := ⟨s, hs, hm.symm⟩
      clear hs hm s
      obtain ⟨wo, rfl⟩ : ∃ wo, wo = wr := ⟨wr, rfl⟩
      go_wp2_with fail
      go_loopg [5] m (fun k v5 wr => ∃ (j : Nat) (os ws : List Sl), v5 = .int .i64 j ∧ Aside0 (j + k = m) ∧ j ≤ m ∧ Aside0 (Kept wr P h OA oc WA wc os ws f) ∧ Aside0 (os.length = n) ∧ Aside0 (∀ s ∈ os, s.n ≤ 1000) ∧ Aside0 (∃ s, os[i]? = some s ∧ s.n = m) ∧ Aside0 (Tn w wr (fun k => 0 ≤ f k)))
      case atStart => exact ⟨0, os, ws, rfl, ⟨by omega⟩, by omega, HK, HNO, HSN, HSM, HT⟩
      case round =>
        clear HK HNO HSN HSM HT
        obtain ⟨j, os, ws, rfl, HDj, hj, HK, HNO, HSN, HSM, HT⟩ := hrel
        obtain ⟨s, hs, hsm⟩ := HSM.out
        obtain ⟨t, ht⟩ : ∃ t, ws[i]? = some t := ⟨_, List.getElem?_eq_getElem (by rw [← HK.out.len, HNO.out]; exact hlt)⟩
        have HS := Aside0.mk hs
        have HTt := Aside0.mk ht
        have HSMn := Aside0.mk hsm
        obtain ⟨ob, rfl⟩ := own_some rfl HK.out.ho (by rw [HNO.out]; omega)
        obtain ⟨wb, rfl⟩ := own_some rfl HK.out.hw (by rw [← HK.out.len, HNO.out]; omega)
        have hc0 := HK.out.look.c0
        have hc1 := HK.out.look.c1
        rw [HNO.out] at hc0 hc1
        have hoi : wr.cell? ⟨ob, i, none⟩ = some (.slice s.A m s.c) := by rw [← hsm]; exact own_cell0 HK.out.ho rfl i s hs _ rfl
        have hii : (i : Int) < (n : Int) := by omega
        clear hs ht hsm HSM
        cases gk with
        | zero =>
          obtain rfl : j = m := by have := HDj.out; omega
          go_wp2
          go_roundg d
          case measure => omega
          case rel => exact ⟨i + 1, os, ws, by go_num, ⟨by have := HD.out; omega⟩, by omega, HK, HNO, HSN, HT⟩
        | succ e =>
          have hjm : j < m := by have := HDj.out; omega
          have hjm1 : decide ((j : Int) < m) = true := decide_eq_true (by omega)
          have hjj : (j : Int) < (m : Int) := by omega
          obtain ⟨sb, hA⟩ := Sl.some_of (HK.out.so s (List.mem_of_getElem? HS.out)) (by rw [HSMn.out]; omega)
          have hsl : s.n = t.n := by
            have h1 := (HK.out.so s (List.mem_of_getElem? HS.out)).len
            have h2 := (HK.out.sw t (List.mem_of_getElem? HTt.out)).len
            rw [HK.out.look.xs_at HS.out HTt.out] at h1
            omega
          obtain ⟨tb, hB⟩ := Sl.some_of (HK.out.sw t (List.mem_of_getElem? HTt.out)) (by rw [← hsl, HSMn.out]; omega)
          have HSA := Aside0.mk hA
          have HTB := Aside0.mk hB
          have HTN := Aside0.mk (hsl.symm.trans HSMn.out)
          rw [hA] at hoi
          have hSo := HK.out.so s (List.mem_of_getElem? HS.out)
          have hTo := HK.out.sw t (List.mem_of_getElem? HTt.out)
          obtain ⟨v0, hv0⟩ : ∃ v, wr.cell? ⟨sb, j, none⟩ = some v := by
            unfold SlOwn at hSo
            rw [hA] at hSo
            exact ⟨_, own_cell0 hSo rfl j _ (List.getElem?_eq_getElem (by rw [(HK.out.so s (List.mem_of_getElem? HS.out)).len, HSMn.out]; exact hjm)) _ rfl⟩
          have hf0 : wr.frozen? ⟨sb, j, none⟩ = false := by
            unfold SlOwn at hSo
            rw [hA] at hSo
            exact own_frozen hSo j
          clear hA hB hsl hSo hTo
          go_upto_region 11 with (fail)
          have HP := Aside0.mk (HK.out.put HS.out HTt.out HSA.out HTB.out (k := j) (by rw [HSMn.out]; exact hjm) (-1000 - (i : Int)))
          have hT2 : Tn wr (wr.setCell ⟨sb, j, none⟩ (.int .i64 (-1000 - (i : Int)))) (fun k => k = sb) := Tn.set sb j _ rfl
          have ls := HK.out.fo i s HS.out sb ⟨_, HSA.out, rfl⟩
          have lh := HK.out.f0
          have lw := HK.out.f2 wb ⟨_, rfl, rfl⟩
          have lt := HK.out.fw i t HTt.out tb ⟨_, HTB.out, rfl⟩
          have hTo := HK.out.sw t (List.mem_of_getElem? HTt.out)
          have hto2 : (wr.setCell ⟨sb, j, none⟩ (.int .i64 (-1000 - (i : Int)))).ownsRow P 3 (Ei .i64).sz (.slice (some ⟨tb, 0, none⟩) t.n t.c) t.n (flat (Ei .i64) t.xs) := by
            have := hTo.tn hT2 (fun k hk e => by obtain ⟨ad, h1, h2⟩ := hk; rw [HTB.out] at h1; cases h1; rw [← h2] at e; simp at e; rw [e] at lt; omega)
            unfold SlOwn at this
            rwa [HTB.out] at this
          have hd1 : (wr.setCell ⟨sb, j, none⟩ (.int .i64 (-1000 - (i : Int)))).cell? ⟨h, 1, none⟩ = some (.slice (some ⟨wb, 0, none⟩) n wc) := cell_tn hc1 hT2 (fun e => by simp at e; rw [e] at lh; omega)
          have hdw : (wr.setCell ⟨sb, j, none⟩ (.int .i64 (-1000 - (i : Int)))).cell? ⟨wb, i, none⟩ = some (.slice (some ⟨tb, 0, none⟩) m t.c) := by
            refine cell_tn ?_ hT2 (fun e => by simp at e; rw [e] at lw; omega)
            rw [← HTN.out, ← HTB.out]
            exact own_cell0 HK.out.hw rfl i t HTt.out _ rfl
          have hdt : ∃ v, (wr.setCell ⟨sb, j, none⟩ (.int .i64 (-1000 - (i : Int)))).cell? ⟨tb, j, none⟩ = some v := ⟨_, own_cell0 hto2 rfl j _ (List.getElem?_eq_getElem (by rw [hTo.len, HTN.out]; exact hjm)) _ rfl⟩
          have hdf : (wr.setCell ⟨sb, j, none⟩ (.int .i64 (-1000 - (i : Int)))).frozen? ⟨tb, j, none⟩ = false := own_frozen hto2 j
          have HT2 := Aside0.mk (HT.out.trans' ((hT2.mono (G := fun k => 0 ≤ f k) (fun k _ e => by rw [e, ls]; omega))))
          have HLT := Aside0.mk (show 0 ≤ f tb by rw [lt]; omega)
          clear hto2 hTo hT2 ls lh lw lt hc0 hc1 hoi hv0 hf0
          generalize wr.setCell ⟨sb, j, none⟩ (.int .i64 (-1000 - (i : Int))) = w2 at HP hd1 hdw hdt hdf HT2 ⊢
          obtain ⟨v1, hdt⟩ := hdt
          go_wp2_with fail
          go_roundg e
          case measure => omega
          case rel =>
            refine ⟨j + 1, os.set i (setY s j (-1000 - (i : Int))), ws.set i (setY t j (-1000 - (i : Int))), by go_num, ⟨by have := HDj.out; omega⟩, by omega, HP, ⟨by rw [List.length_set]; exact HNO.out⟩, ⟨?_⟩, ⟨?_⟩, ⟨HT2.out.trans' (Tn.set tb j _ HLT.out)⟩⟩
            · intro q hq
              obtain ⟨x, hx⟩ := List.getElem?_of_mem hq
              rcases set_at hx with ⟨rfl, rfl⟩ | ⟨_, hx⟩
              · exact HSN.out s (List.mem_of_getElem? HS.out)
              · exact HSN.out q (List.mem_of_getElem? hx)
            · refine ⟨setY s j (-1000 - (i : Int)), ?_, HSMn.out⟩
              rw [List.getElem?_set, if_pos rfl, if_pos (by rw [HNO.out]; exact hlt)]
end Go.Proofs.Ytohopfbacfddbaa.S
