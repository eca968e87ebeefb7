/- The lists that were handed out are kept. Conditions: each theorem's own. -/
import Derived.Test.YtohopfbacfddbaaSF
namespace Go.Proofs.Ytohopfbacfddbaa.S
open Go.RowKit Go.Proofs.YtohopfbacfddbaaW.PrintWords Go.Proofs.YtohopfbacfddbaaW.PrintLast Go.Proofs.Ytohopfbacfddbaa.H
open Go.Proofs.Ytohopfbacfddbaa.N hiding gb_setCell gb_drewN gb_drew gb_refl gb_any gb_of_below below_of_gb below_gb own_open ne_of_ge cut_at
set_option linter.unusedVariables false
set_option linter.unusedSimpArgs false
def SlOwn (w : World) (P : Nat) (s : Sl) : Prop := w.ownsRow P 3 (Ei .i64).sz (.slice s.A s.n s.c) s.n (flat (Ei .i64) s.xs)
def blkOf (A : Option Addr) (k : Nat) : Prop := ∃ ad, A = some ad ∧ ad.block = k
theorem blk_own {A : Option Addr} {n c k : Nat} : (Value.slice A n c).ownBlock = some k ↔ blkOf A k := by
  cases A with
  | none => simp [Value.ownBlock, blkOf]
  | some ad => simp [Value.ownBlock, blkOf]
theorem SlOwn.len {w P s} (h : SlOwn w P s) : s.xs.length = s.n := by
  have := h.1
  rw [flat_len] at this
  simpa [Ei] using this
theorem SlOwn.rd {w P s} (h : SlOwn w P s) : Rd (Ei .i64) w s.A s.n s.xs := own_rd h.len h
theorem SlOwn.lt {w P s} (h : SlOwn w P s) {k : Nat} (hk : blkOf s.A k) : P ≤ k ∧ k < w.heap.size := World.ownsRow.lt h k (blk_own.2 hk)
theorem SlOwn.tn {w w' P s} {F : Nat → Prop} (h : SlOwn w P s) (hg : Tn w w' F) (hne : ∀ k, blkOf s.A k → ¬ F k) : SlOwn w' P s := own_tn h hg (fun k hk => hne k (blk_own.1 hk))
/-- What lies below w's end stands, but for the blocks of some labels; their labels stand too. -/
structure Lt (w : World) (f : Nat → Int) (w' : World) (f' : Nat → Int) (T : Int → Prop) : Prop where
  tn : Tn w w' (fun k => T (f k))
  lab : ∀ k, k < w.heap.size → f' k = f k
theorem Lt.trans {w w1 w2 : World} {f f1 f2 : Nat → Int} {T : Int → Prop} (h : Lt w f w1 f1 T) (k : Lt w1 f1 w2 f2 T) : Lt w f w2 f2 T :=
  ⟨h.tn.trans k.tn (fun i hi hg => by rwa [h.lab i hi] at hg), fun i hi => (k.lab i (Nat.lt_of_lt_of_le hi h.tn.size)).trans (h.lab i hi)⟩
theorem Lt.mono {w w1 : World} {f f1 : Nat → Int} {T U : Int → Prop} (h : Lt w f w1 f1 T) (hU : ∀ c, T c → U c) : Lt w f w1 f1 U :=
  ⟨h.tn.mono (fun i _ hi => hU _ hi), h.lab⟩
theorem Lt.gb {w w1 : World} {f : Nat → Int} {T : Int → Prop} (h : w.grownBy w1 none) : Lt w f w1 f T := ⟨Tn.gb0 h _, fun _ _ => rfl⟩
theorem Lt.refl (w : World) (f : Nat → Int) (T : Int → Prop) : Lt w f w f T := ⟨Tn.refl _ _, fun _ _ => rfl⟩
/-- The lists that were handed out, each of a block of its own, with what they must read as. f tells whose a block is. -/
structure Kept (w : World) (P h : Nat) (OA : Option Addr) (oc : Nat) (WA : Option Addr) (wc : Nat) (os ws : List Sl) (f : Nat → Int) : Prop where
  blk : w.heap[h]? = some (.cells #[.slice OA os.length oc, .slice WA ws.length wc] 43 (0, 0))
  ho : w.ownsRow P 22 Es.sz (.slice OA os.length oc) os.length (flat Es os)
  hw : w.ownsRow P 22 Es.sz (.slice WA ws.length wc) ws.length (flat Es ws)
  eq : os.map Sl.xs = ws.map Sl.xs
  so : ∀ s ∈ os, SlOwn w P s
  sw : ∀ s ∈ ws, SlOwn w P s
  base : P ≤ h
  f0 : f h = 0
  f1 : ∀ k, blkOf OA k → f k = 1
  f2 : ∀ k, blkOf WA k → f k = 2
  fo : ∀ (i : Nat) (s : Sl), os[i]? = some s → ∀ k, blkOf s.A k → f k = 3 + 2 * (i : Int)
  fw : ∀ (i : Nat) (s : Sl), ws[i]? = some s → ∀ k, blkOf s.A k → f k = 4 + 2 * (i : Int)
section
variable {w w' : World} {P h : Nat} {OA : Option Addr} {oc : Nat} {WA : Option Addr} {wc : Nat} {os ws : List Sl} {f f' : Nat → Int}
theorem Kept.look (k : Kept w P h OA oc WA wc os ws f) : Look w h OA oc WA wc os ws :=
  ⟨k.blk, own_rd rfl k.ho, own_rd rfl k.hw, k.eq, fun s hs => (k.so s hs).rd, fun s hs => (k.sw s hs).rd⟩
theorem Kept.len (k : Kept w P h OA oc WA wc os ws f) : os.length = ws.length := k.look.len
theorem Kept.lt (k : Kept w P h OA oc WA wc os ws f) {T : Int → Prop} (hl : Lt w f w' f' T) (hT : ∀ c, 0 ≤ c → ¬ T c) : Kept w' P h OA oc WA wc os ws f' := by
  have e0 := k.f0
  have lo := fun i hi => (k.ho.lt i (blk_own.2 hi)).2
  have lw := fun i hi => (k.hw.lt i (blk_own.2 hi)).2
  have ls : ∀ s ∈ os, ∀ i, blkOf s.A i → i < w.heap.size := fun s hs i hi => ((k.so s hs).lt hi).2
  have lv : ∀ s ∈ ws, ∀ i, blkOf s.A i → i < w.heap.size := fun s hs i hi => ((k.sw s hs).lt hi).2
  refine ⟨blk_tn k.blk hl.tn (hT _ (by rw [e0]; exact Int.le_refl _)), own_tn k.ho hl.tn (fun i hi => hT _ (by rw [k.f1 i (blk_own.1 hi)]; decide)), own_tn k.hw hl.tn (fun i hi => hT _ (by rw [k.f2 i (blk_own.1 hi)]; decide)), k.eq, ?_, ?_, k.base, ?_, ?_, ?_, ?_, ?_⟩
  · intro s hs
    obtain ⟨i, hi⟩ := List.getElem?_of_mem hs
    exact (k.so s hs).tn hl.tn (fun j hj => hT _ (by rw [k.fo i s hi j hj]; omega))
  · intro s hs
    obtain ⟨i, hi⟩ := List.getElem?_of_mem hs
    exact (k.sw s hs).tn hl.tn (fun j hj => hT _ (by rw [k.fw i s hi j hj]; omega))
  · rw [hl.lab h (blk_lt' k.blk)]; exact e0
  · intro i hi; rw [hl.lab i (lo i hi)]; exact k.f1 i hi
  · intro i hi; rw [hl.lab i (lw i hi)]; exact k.f2 i hi
  · intro i s hs j hj; rw [hl.lab j (ls s (List.mem_of_getElem? hs) j hj)]; exact k.fo i s hs j hj
  · intro i s hs j hj; rw [hl.lab j (lv s (List.mem_of_getElem? hs) j hj)]; exact k.fw i s hs j hj
end
def K012 (c : Int) : Prop := c = 0 ∨ c = 1 ∨ c = 2
/-- What keeping a list leaves. -/
def KeepI (w : World) (P h : Nat) (os ws : List Sl) (f : Nat → Int) (s : Sl) (e : Ending) (w' : World) : Prop :=
  e = .returned (.tuple #[]) ∧ ∃ OA oc WA wc m f', m.xs = s.xs ∧ Kept w' P h OA oc WA wc (os ++ [s]) (ws ++ [m]) f' ∧ Lt w f w' f' K012
set_option maxHeartbeats 8000000 in
set_option maxRecDepth 100000 in
theorem keep_calls (w : World) (P h : Nat) (OA : Option Addr) (oc : Nat) (WA : Option Addr) (wc : Nat) (os ws : List Sl) (f : Nat → Int) (s : Sl) (hk : Kept w P h OA oc WA wc os ws f) (hs : SlOwn w P s) (hf : ∀ k, blkOf s.A k → f k = 3 + 2 * (os.length : Int)) (hn : os.length ≤ 1000) (hsn : s.n ≤ 1000) :
    Calls Try.prog 24 #[.pointer (some ⟨h, 0, none⟩), .slice s.A s.n s.c] w (KeepI w P h os ws f s) := by
  have HK := Aside0.mk hk
  have HS := Aside0.mk hs
  have HF := Aside0.mk hf
  have HLen := Aside0.mk hk.len
  have hwn : ws.length ≤ 1000 := by rw [← hk.len]; exact hn
  have HSL : Aside0 (s.xs.length = s.n) := ⟨hs.len⟩
  have HO0 := Aside0.mk (show (w.alloc (.cells #[] 3)).ownsRow w.heap.size 3 (Ei .i64).sz (.slice (some ⟨w.heap.size, 0, none⟩) 0 0) 0 (flat (Ei .i64) []) from World.ownsRow_lit w #[] 0 (Nat.le_refl _) (by simp [maxLen]) (by simp))
  have HR0 : Aside0 (Rd (Ei .i64) (w.alloc (.cells #[] 3)) s.A s.n s.xs) := ⟨hs.rd.gb (World.grownBy_alloc w (.cells #[] 3) none)⟩
  have HG0 := Aside0.mk (World.grownBy_alloc w (.cells #[] 3) none)
  obtain ⟨no, hno⟩ : ∃ q, q = os.length := ⟨_, rfl⟩
  obtain ⟨nw, hnw⟩ : ∃ q, q = ws.length := ⟨_, rfl⟩
  have HNO := Aside0.mk hno
  have HNW := Aside0.mk hnw
  rw [← hno] at hn
  rw [← hnw] at hwn
  clear hk hs hf hno hnw
  go_enter Try.func24, Try.ntmps24
  go_upto_region 3 with (first | (at_builtin; refine app (Ei .i64) w.heap.size rfl (.tmp 6) (.tmp 7) 22 3 (.int .i64 0) 8 rfl Try.underlying22 (by kernel_rfl) rfl (by decide) (.slice (some ⟨w.heap.size, 0, none⟩) 0 0) 0 [] s.xs _ s.n _ rfl rfl rfl HO0.out HR0.out (by simp) (by omega) ?_; intro v1 w1 ho hg _; rw [List.nil_append, Nat.zero_add] at ho; obtain ⟨A1, c1, rfl, -, -, -⟩ := own_open HSL.out ho; have HG1 := Aside0.mk (gb_row HG0.out hg (fun k hk => by simp [Value.ownBlock] at hk; omega)); have HO1 := Aside0.mk ho; have hc1 := cell_of (j := 0) (v := .slice OA no oc) (blk_kept HK.out.blk HG1.out (by simp)) (by rw [HNO.out]; rfl); have HOA := Aside0.mk (show (w1.alloc (.cells #[.slice s.A s.n s.c] 22)).ownsRow P 22 Es.sz (.slice OA no oc) no (flat Es os) by rw [HNO.out]; exact own_kept (own_kept HK.out.ho HG1.out (by simp)) (World.grownBy_alloc w1 _ none) (by simp)); have HRA := Aside0.mk (show Rd Es (w1.alloc (.cells #[.slice s.A s.n s.c] 22)) (some ⟨w1.heap.size, 0, none⟩) 1 [s] from rd_lit Es w1 22 [s] (by simp)); have HSA : Aside0 (P ≤ (w1.alloc (.cells #[.slice s.A s.n s.c] 22)).heap.size) := ⟨by have h1 := HK.out.base; have h2 := blk_lt' HK.out.blk; have h3 := HG1.out.size; simp; omega⟩; clear ho hg) | (at_builtin; refine app_at Es P rfl (.tmp 13) (.tmp 15) 41 22 (.slice none 0 0) 24 rfl Try.underlying41 (by kernel_rfl) rfl (by decide) (.slice OA no oc) no os [s] ⟨w1.heap.size, 0, none⟩ 1 1 rfl rfl HOA.out HRA.out HSA.out (by omega) ?_; intro v2 w2 ho hg hat; have hl2 : (os ++ [s]).length = no + 1 := (by rw [List.length_append, HNO.out]; rfl); obtain ⟨A2, c2, rfl, -, -, -⟩ := own_open hl2 ho; have HO2 := Aside0.mk ho; have HG2 := Aside0.mk hg; have HA2 := Aside0.mk hat; have HB2 := Aside0.mk (blk_tn (blk_kept HK.out.blk (World.grownBy.trans HG1.out (World.grownBy_alloc w1 (.cells #[.slice s.A s.n s.c] 22) none)) (by simp)) (Tn.of_gb hg (F := fun k => f k = 1) (fun k hk => HK.out.f1 k (blk_own.1 hk))) (by rw [HK.out.f0]; decide)); have hk2 := cell_of (j := 0) (v := .slice OA no oc) HB2.out (by rw [HNO.out]; rfl); have hf2 := frozen_of (j := 0) HB2.out; clear ho hg hat hl2))
  have HB3 := Aside0.mk (show (w2.setCell ⟨h, 0, none⟩ (.slice A2 (no + 1) c2)).heap[h]? = some (.cells #[.slice A2 (no + 1) c2, .slice WA nw wc] 43 (0, 0)) by
    have := blk_set 0 (.slice A2 (no + 1) c2) HB2.out
    rw [HNW.out]; simpa using this)
  have hoa : ∀ k, blkOf OA k → f k = 1 := HK.out.f1
  have hlo : ∀ k, blkOf OA k → k < w.heap.size := fun k hk => (HK.out.ho.lt k (blk_own.2 hk)).2
  have hh : h < w.heap.size := blk_lt' HK.out.blk
  have hz1 : w.heap.size ≤ w1.heap.size := HG1.out.size
  have HT12 : Tn w1 w2 (fun k => blkOf OA k) := (Tn.alloc w1 _ _).trans' (Tn.of_gb HG2.out (fun k hk => blk_own.1 hk))
  have HT3 := Aside0.mk (show Tn w (w2.setCell ⟨h, 0, none⟩ (.slice A2 (no + 1) c2)) (fun k => f k = 0 ∨ f k = 1) from
    ((Tn.gb0 HG1.out _).trans HT12 (fun i _ hi => .inr (hoa i hi))).trans' (Tn.set h 0 _ (.inl HK.out.f0)))
  have HT13 := Aside0.mk (show Tn w1 (w2.setCell ⟨h, 0, none⟩ (.slice A2 (no + 1) c2)) (fun k => k < w.heap.size) from
    (HT12.mono (fun i _ hi => hlo i hi)).trans' (Tn.set h 0 _ hh))
  have ha2 : ∀ k, blkOf A2 k → (k < w.heap.size ∧ f k = 1) ∨ w1.heap.size ≤ k := fun k hk => by
    rcases HA2.out with e | e
    · rw [blk_own.2 hk] at e
      have := blk_own.1 e.symm
      exact .inl ⟨hlo k this, hoa k this⟩
    · rw [blk_own.2 hk] at e
      have := Option.some.inj e
      simp at this
      exact .inr (by omega)
  have HA3 := Aside0.mk ha2
  have HO3 := Aside0.mk (show (w2.setCell ⟨h, 0, none⟩ (.slice A2 (no + 1) c2)).ownsRow P 22 Es.sz (.slice A2 (no + 1 : Nat) c2) (no + 1) (flat Es (os ++ [s])) from
    own_tn HO2.out (Tn.set h 0 _ (F := fun k => k = h) rfl) (fun k hk he => by
      subst he
      rcases ha2 k (blk_own.1 hk) with ⟨_, h2⟩ | h2
      · rw [HK.out.f0] at h2; cases h2
      · omega))
  have HS3 := Aside0.mk (show w1.heap.size ≤ (w2.setCell ⟨h, 0, none⟩ (.slice A2 (no + 1) c2)).heap.size from HT13.out.size)
  generalize w2.setCell ⟨h, 0, none⟩ (.slice A2 (no + 1) c2) = w3 at HB3 HT3 HT13 HO3 HS3 ⊢
  have HWA := Aside0.mk (show (w3.alloc (.cells #[.slice A1 s.n c1] 22)).ownsRow P 22 Es.sz (.slice WA nw wc) nw (flat Es ws) by
    rw [HNW.out]
    exact own_kept (own_tn HK.out.hw HT3.out (fun k hk he => by have := HK.out.f2 k (blk_own.1 hk); omega)) (World.grownBy_alloc w3 _ none) (by simp))
  have HRB := Aside0.mk (show Rd Es (w3.alloc (.cells #[.slice A1 s.n c1] 22)) (some ⟨w3.heap.size, 0, none⟩) 1 [⟨A1, s.n, c1, s.xs⟩] from rd_lit Es w3 22 [⟨A1, s.n, c1, s.xs⟩] (by simp))
  have HSB : Aside0 (P ≤ (w3.alloc (.cells #[.slice A1 s.n c1] 22)).heap.size) := ⟨by have h1 := HK.out.base; have h3 := HS3.out; simp; omega⟩
  have hc3 := cell_of (j := 1) (v := .slice WA nw wc) HB3.out rfl
  clear hoa hlo ha2 HT12 hc1 hk2 hf2
  go_wp2_with (at_builtin; refine app_at Es P rfl (.tmp 23) (.tmp 25) 41 22 (.slice none 0 0) 24 rfl Try.underlying41 (by kernel_rfl) rfl (by decide) (.slice WA nw wc) nw ws [⟨A1, s.n, c1, s.xs⟩] ⟨w3.heap.size, 0, none⟩ 1 1 rfl rfl HWA.out HRB.out HSB.out (by omega) ?_; intro v4 w4 ho hg hat; have hl4 : (ws ++ [(⟨A1, s.n, c1, s.xs⟩ : Sl)]).length = nw + 1 := (by rw [List.length_append, HNW.out]; rfl); obtain ⟨A4, c4, rfl, -, -, -⟩ := own_open hl4 ho; have HO4 := Aside0.mk ho; have HG4 := Aside0.mk hg; have HA4 := Aside0.mk hat; have HB4 := Aside0.mk (blk_tn (blk_kept HB3.out (World.grownBy_alloc w3 (.cells #[.slice A1 s.n c1] 22) none) (by simp)) (Tn.of_gb hg (F := fun k => f k = 2) (fun k hk => HK.out.f2 k (blk_own.1 hk))) (by rw [HK.out.f0]; decide)); have hk4 := cell_of (j := 1) (v := .slice WA nw wc) HB4.out rfl; have hf4 := frozen_of (j := 1) HB4.out; clear ho hg hat hl4)
  go_end0
  have hh : h < w.heap.size := blk_lt' HK.out.blk
  have hz1 : w.heap.size ≤ w1.heap.size := HG1.out.size
  have hz3 := HS3.out
  have hwa : ∀ k, blkOf WA k → f k = 2 := HK.out.f2
  have hwl : ∀ k, blkOf WA k → k < w.heap.size := fun k hk => (HK.out.hw.lt k (blk_own.2 hk)).2
  have HT34 : Tn w3 (w4.setCell ⟨h, 1, none⟩ (.slice A4 (nw + 1 : Nat) c4)) (fun k => blkOf WA k ∨ k = h) :=
    ((Tn.alloc w3 _ _).trans' (Tn.of_gb HG4.out (fun k hk => .inl (blk_own.1 hk)))).trans' (Tn.set h 1 _ (.inr rfl))
  have HTw : Tn w (w4.setCell ⟨h, 1, none⟩ (.slice A4 (nw + 1 : Nat) c4)) (fun k => K012 (f k)) :=
    (HT3.out.mono (fun i _ hi => hi.elim .inl (fun h => .inr (.inl h)))).trans HT34 (fun i _ hi => hi.elim (fun h => .inr (.inr (hwa i h))) (fun e => .inl (by rw [e]; exact HK.out.f0)))
  have HT1 : Tn w1 (w4.setCell ⟨h, 1, none⟩ (.slice A4 (nw + 1 : Nat) c4)) (fun k => k < w.heap.size) :=
    HT13.out.trans HT34 (fun i _ hi => hi.elim (fun h => hwl i h) (fun e => by rw [e]; exact hh))
  have ha1 : ∀ k, blkOf A1 k → w.heap.size ≤ k ∧ k < w1.heap.size := fun k hk => World.ownsRow.lt HO1.out k (blk_own.2 hk)
  have ha2 := HA3.out
  have ha2l : ∀ k, blkOf A2 k → k < w3.heap.size := fun k hk => (HO3.out.lt k (blk_own.2 hk)).2
  have ha4 : ∀ k, blkOf A4 k → (k < w.heap.size ∧ f k = 2) ∨ w3.heap.size ≤ k := fun k hk => by
    rcases HA4.out with e | e
    · rw [blk_own.2 hk] at e
      have := blk_own.1 e.symm
      exact .inl ⟨hwl k this, hwa k this⟩
    · rw [blk_own.2 hk] at e
      have := Option.some.inj e
      simp at this
      exact .inr (by omega)
  obtain ⟨f', hf'⟩ : ∃ f' : Nat → Int, ∀ k, f' k = if k < w.heap.size then f k else if k < w1.heap.size then 4 + 2 * (os.length : Int) else if k < w3.heap.size then 1 else 2 := ⟨_, fun _ => rfl⟩
  have fold : ∀ k, k < w.heap.size → f' k = f k := fun k hk => by rw [hf', if_pos hk]
  have hnew : ∀ s' ∈ os, SlOwn (w4.setCell ⟨h, 1, none⟩ (.slice A4 (nw + 1 : Nat) c4)) P s' := fun s' hs' => by
    obtain ⟨i, hi⟩ := List.getElem?_of_mem hs'
    exact (HK.out.so s' hs').tn HTw (fun k hk hT => by
      have := HK.out.fo i s' hi k hk
      rcases hT with h | h | h <;> omega)
  have hnw : ∀ s' ∈ ws, SlOwn (w4.setCell ⟨h, 1, none⟩ (.slice A4 (nw + 1 : Nat) c4)) P s' := fun s' hs' => by
    obtain ⟨i, hi⟩ := List.getElem?_of_mem hs'
    exact (HK.out.sw s' hs').tn HTw (fun k hk hT => by
      have := HK.out.fw i s' hi k hk
      rcases hT with h | h | h <;> omega)
  refine ⟨rfl, A2, c2, A4, c4, ⟨A1, s.n, c1, s.xs⟩, f', rfl, ⟨?_, ?_, ?_, ?_, ?_, ?_, HK.out.base, ?_, ?_, ?_, ?_, ?_⟩, ⟨HTw, fold⟩⟩
  · have := blk_set 1 (.slice A4 (nw + 1 : Nat) c4) HB4.out
    rw [List.length_append, List.length_append, ← HNO.out, ← HNW.out]
    simpa using this
  · rw [List.length_append, ← HNO.out]
    exact own_tn HO3.out HT34 (fun k hk he => by
      have h1 := ha2 k (blk_own.1 hk)
      rcases he with e | e
      · have := hwa k e
        have := hwl k e
        omega
      · subst e
        have := HK.out.f0
        omega)
  · rw [List.length_append, ← HNW.out]
    exact own_tn HO4.out (Tn.set h 1 _ (F := fun k => k = h) rfl) (fun k hk he => by
      subst he
      have h1 := ha4 k (blk_own.1 hk)
      have := HK.out.f0
      omega)
  · rw [List.map_append, List.map_append, HK.out.eq]; rfl
  · intro s' hs'
    rcases List.mem_append.1 hs' with h1 | h1
    · exact hnew s' h1
    · obtain rfl : s' = s := by simpa using h1
      exact HS.out.tn HTw (fun k hk hT => by
        have := HF.out k hk
        rcases hT with h | h | h <;> omega)
  · intro s' hs'
    rcases List.mem_append.1 hs' with h1 | h1
    · exact hnw s' h1
    · obtain rfl : s' = ⟨A1, s.n, c1, s.xs⟩ := by simpa using h1
      refine SlOwn.tn (s := ⟨A1, s.n, c1, s.xs⟩) (w := w1) ?_ HT1 (fun k hk => by have := (ha1 k hk).1; omega)
      exact own_mono HO1.out (by have := HK.out.base; omega)
  · rw [fold h hh]; exact HK.out.f0
  · intro k hk
    rcases ha2 k hk with ⟨h1, h2⟩ | h1
    · rw [fold k h1]; exact h2
    · have := ha2l k hk
      rw [hf', if_neg (by omega), if_neg (by omega), if_pos this]
  · intro k hk
    rcases ha4 k hk with ⟨h1, h2⟩ | h1
    · rw [fold k h1]; exact h2
    · rw [hf', if_neg (by omega), if_neg (by omega), if_neg (by omega)]
  · intro i s' hi k hk
    rcases Nat.lt_or_ge i os.length with h1 | h1
    · rw [List.getElem?_append_left h1] at hi
      rw [fold k ((HK.out.so s' (List.mem_of_getElem? hi)).lt hk).2]
      exact HK.out.fo i s' hi k hk
    · rw [List.getElem?_append_right h1] at hi
      have h2 : i - os.length < 1 := by simpa using (List.getElem?_eq_some_iff.1 hi).1
      have h3 : i = os.length := by omega
      subst h3
      simp at hi
      subst hi
      rw [fold k (HS.out.lt hk).2]
      exact HF.out k hk
  · intro i s' hi k hk
    rcases Nat.lt_or_ge i ws.length with h1 | h1
    · rw [List.getElem?_append_left h1] at hi
      rw [fold k ((HK.out.sw s' (List.mem_of_getElem? hi)).lt hk).2]
      exact HK.out.fw i s' hi k hk
    · rw [List.getElem?_append_right h1] at hi
      have h2 : i - ws.length < 1 := by simpa using (List.getElem?_eq_some_iff.1 hi).1
      have h3 : i = ws.length := by omega
      subst h3
      simp at hi
      subst hi
      obtain ⟨h4, h5⟩ := ha1 k hk
      rw [hf', if_neg (by omega), if_pos h5, HLen.out]
end Go.Proofs.Ytohopfbacfddbaa.S
