/- Lists that were handed out grow: laws. Conditions: each theorem's own. -/
import Derived.Test.YtohopfbacfddbaaSH
namespace Go.Proofs.Ytohopfbacfddbaa.S
open Go.RowKit Go.Proofs.YtohopfbacfddbaaW.PrintWords Go.Proofs.YtohopfbacfddbaaW.PrintLast Go.Proofs.Ytohopfbacfddbaa.H
open Go.Proofs.Ytohopfbacfddbaa.N hiding gb_setCell gb_drewN gb_drew gb_refl gb_any gb_of_below below_of_gb below_gb own_open ne_of_ge cut_at
set_option linter.unusedVariables false
set_option linter.unusedSimpArgs false
/-- The lists that were handed out (os, ws), the first few grown (ls, ms). -/
structure Grow (w : World) (P h : Nat) (OA : Option Addr) (oc : Nat) (WA : Option Addr) (wc : Nat) (os ws ls ms : List Sl) (f : Nat → Int) : Prop where
  blk : w.heap[h]? = some (.cells #[.slice OA (os ++ ls).length oc, .slice WA (ws ++ ms).length wc] 43 (0, 0))
  ho : w.ownsRow P 22 Es.sz (.slice OA (os ++ ls).length oc) (os ++ ls).length (flat Es (os ++ ls))
  hw : w.ownsRow P 22 Es.sz (.slice WA (ws ++ ms).length wc) (ws ++ ms).length (flat Es (ws ++ ms))
  eq : (os ++ ls).map Sl.xs = (ws ++ ms).map Sl.xs
  lel : ls.length = ms.length
  len : os.length = ws.length
  so : ∀ (i : Nat) (s : Sl), os[i]? = some s → ls.length ≤ i → SlOwn w P s
  ro : ∀ s ∈ os ++ ls, Rd (Ei .i64) w s.A s.n s.xs
  rw_ : ∀ s ∈ ws ++ ms, Rd (Ei .i64) w s.A s.n s.xs
  base : P ≤ h
  f0 : f h = 0
  f1 : ∀ k, blkOf OA k → f k = 1
  f2 : ∀ k, blkOf WA k → f k = 2
  fo : ∀ (i : Nat) (s : Sl), os[i]? = some s → ∀ k, blkOf s.A k → f k = 3 + 2 * (i : Int) ∧ k < w.heap.size
  fw : ∀ (i : Nat) (s : Sl), ws[i]? = some s → ∀ k, blkOf s.A k → f k = 4 + 2 * (i : Int) ∧ k < w.heap.size
  fl : ∀ (i : Nat) (s : Sl), ls[i]? = some s → ∀ k, blkOf s.A k → f k = 3 + 2 * (i : Int) ∧ k < w.heap.size
  fm : ∀ (i : Nat) (s : Sl), ms[i]? = some s → ∀ k, blkOf s.A k → f k = 4 + 2 * (i : Int) ∧ k < w.heap.size
theorem Kept.grow {w P h OA oc WA wc os ws f} (K : Kept w P h OA oc WA wc os ws f) : Grow w P h OA oc WA wc os ws [] [] f := by
  have l := K.look
  refine ⟨by simpa using K.blk, by simpa using K.ho, by simpa using K.hw, by simpa using K.eq, rfl, K.len, fun i s hs _ => K.so s (List.mem_of_getElem? hs), by simpa using l.so, by simpa using l.sw, K.base, K.f0, K.f1, K.f2, ?_, ?_, by simp, by simp⟩
  · intro i s hs k hk
    exact ⟨K.fo i s hs k hk, ((K.so s (List.mem_of_getElem? hs)).lt hk).2⟩
  · intro i s hs k hk
    exact ⟨K.fw i s hs k hk, ((K.sw s (List.mem_of_getElem? hs)).lt hk).2⟩
theorem Grow.look {w P h OA oc WA wc os ws ls ms f} (G : Grow w P h OA oc WA wc os ws ls ms f) : Look w h OA oc WA wc (os ++ ls) (ws ++ ms) :=
  ⟨G.blk, own_rd rfl G.ho, own_rd rfl G.hw, G.eq, G.ro, G.rw_⟩
theorem Grow.gb {w w' P h OA oc WA wc os ws ls ms f} (G : Grow w P h OA oc WA wc os ws ls ms f) (hg : w.grownBy w' none) : Grow w' P h OA oc WA wc os ws ls ms f := by
  have T := Tn.gb0 hg (fun _ => False)
  refine ⟨blk_tn G.blk T id, own_tn G.ho T (fun _ _ => id), own_tn G.hw T (fun _ _ => id), G.eq, G.lel, G.len, fun i s hs hl => (G.so i s hs hl).tn T (fun _ _ => id), fun s hs => (G.ro s hs).gb hg, fun s hs => (G.rw_ s hs).gb hg, G.base, G.f0, G.f1, G.f2, ?_, ?_, ?_, ?_⟩
  · exact fun i s hs k hk => ⟨(G.fo i s hs k hk).1, Nat.lt_of_lt_of_le (G.fo i s hs k hk).2 hg.size⟩
  · exact fun i s hs k hk => ⟨(G.fw i s hs k hk).1, Nat.lt_of_lt_of_le (G.fw i s hs k hk).2 hg.size⟩
  · exact fun i s hs k hk => ⟨(G.fl i s hs k hk).1, Nat.lt_of_lt_of_le (G.fl i s hs k hk).2 hg.size⟩
  · exact fun i s hs k hk => ⟨(G.fm i s hs k hk).1, Nat.lt_of_lt_of_le (G.fm i s hs k hk).2 hg.size⟩
/-- While one of the lists grows. -/
structure In (w0 w : World) (P : Nat) (f : Nat → Int) (j : Nat) (s : Sl) (k : Nat) (l m : Sl) : Prop where
  xs : l.xs = m.xs
  n : l.n = s.n + k
  pre : l.xs.take s.n = s.xs
  lo : SlOwn w P l
  mo : SlOwn w P m
  rs : Rd (Ei .i64) w s.A s.n s.xs
  fr : Tn w0 w (fun b => b < w0.heap.size ∧ f b = 3 + 2 * (j : Int))
  bl : ∀ b, blkOf l.A b → (f b = 3 + 2 * (j : Int) ∧ b < w0.heap.size) ∨ w0.heap.size ≤ b
  bm : ∀ b, blkOf m.A b → w0.heap.size ≤ b
  lm : ∀ b, blkOf l.A b → ¬ blkOf m.A b
theorem sl_form {w P s} (h : SlOwn w P s) {b : Nat} (hb : blkOf s.A b) : s.A = some ⟨b, 0, none⟩ := by
  obtain ⟨ad, h1, h2⟩ := hb
  have := (own_form h).2 ad h1
  rw [h1, this, ← h2]
/-- A list that reads as the head of one that grows in its place, or elsewhere. -/
theorem rd_grown {w1 w2 : World} {P : Nat} {s l l' : Sl} {y : Int} (h : Rd (Ei .i64) w1 s.A s.n s.xs) (hf : ∀ b, blkOf s.A b → s.A = some ⟨b, 0, none⟩) (hl : l.n = l.xs.length)
    (hat : (∀ b, blkOf l'.A b ↔ blkOf l.A b) ∧ w1.grownBy w2 (Value.slice l.A l.n l.c).ownBlock ∨ w1.grownBy w2 none) (ho : SlOwn w2 P l') (hx : l'.xs = l.xs ++ [y]) (pre : l.xs.take s.n = s.xs) (hn : s.n ≤ l.n) : Rd (Ei .i64) w2 s.A s.n s.xs := by
  rcases hat with ⟨hb, hg⟩ | hg
  · by_cases hc : ∃ b, blkOf l.A b ∧ blkOf s.A b
    · obtain ⟨b, h1, h2⟩ := hc
      have e1 := sl_form ho ((hb b).2 h1)
      have e2 := hf b h2
      have hr := ho.rd
      have hn' := hr.1
      have := hr.take_ s.n (by rw [← hn', hx, List.length_append]; omega)
      rw [hx, List.take_append_of_le_length (by omega), pre, e1] at this
      rw [e2]; exact this
    · exact h.kept hg (fun ad ha e => hc ⟨ad.block, blk_own.1 e.symm, ad, ha, rfl⟩)
  · exact h.gb hg
theorem getElem?_snoc {α : Type} {l : List α} {a x : α} {i : Nat} (h : (l ++ [a])[i]? = some x) : (i < l.length ∧ l[i]? = some x) ∨ (i = l.length ∧ x = a) := by
  rcases Nat.lt_or_ge i l.length with h1 | h1
  · rw [List.getElem?_append_left h1] at h; exact .inl ⟨h1, h⟩
  · rw [List.getElem?_append_right h1] at h
    have h2 : i - l.length < 1 := by simpa using (List.getElem?_eq_some_iff.1 h).1
    have h3 : i = l.length := by omega
    subst h3
    simp at h
    exact .inr ⟨rfl, h.symm⟩
/-- One more is grown. -/
theorem Grow.step {w0 wi w3 w5 : World} {P h : Nat} {OA : Option Addr} {oc : Nat} {WA : Option Addr} {wc : Nat} {os ws ls ms : List Sl} {f : Nat → Int} {j k : Nat} {s l m : Sl} {A2 A4 : Option Addr} {c2 c4 : Nat}
    (G : Grow w0 P h OA oc WA wc os ws ls ms f) (hj : ls.length = j) (hs : os[j]? = some s) (I : In w0 wi P f j s k l m)
    (T3 : Tn wi w3 (fun b => blkOf OA b ∨ b = h)) (O3 : w3.ownsRow P 22 Es.sz (.slice A2 (os ++ (ls ++ [l])).length c2) (os ++ (ls ++ [l])).length (flat Es (os ++ (ls ++ [l])))) (A3 : ∀ b, blkOf A2 b → blkOf OA b ∨ wi.heap.size ≤ b)
    (T5 : Tn w3 w5 (fun b => blkOf WA b ∨ b = h)) (O5 : w5.ownsRow P 22 Es.sz (.slice A4 (ws ++ (ms ++ [m])).length c4) (ws ++ (ms ++ [m])).length (flat Es (ws ++ (ms ++ [m])))) (A5 : ∀ b, blkOf A4 b → blkOf WA b ∨ w3.heap.size ≤ b)
    (B5 : w5.heap[h]? = some (.cells #[.slice A2 (os ++ (ls ++ [l])).length c2, .slice A4 (ws ++ (ms ++ [m])).length c4] 43 (0, 0))) :
    ∃ f', Grow w5 P h A2 c2 A4 c4 os ws (ls ++ [l]) (ms ++ [m]) f' ∧ Lt w0 f w5 f' (fun c => 0 ≤ c) := by
  have zi := I.fr.size
  have z3 := T3.size
  have z5 := T5.size
  have f0 := G.f0
  have hh : h < w0.heap.size := blk_lt' G.blk
  have loa : ∀ b, blkOf OA b → b < w0.heap.size := fun b hb => (G.ho.lt b (blk_own.2 hb)).2
  have lwa : ∀ b, blkOf WA b → b < w0.heap.size := fun b hb => (G.hw.lt b (blk_own.2 hb)).2
  have ll : ∀ b, blkOf l.A b → b < wi.heap.size := fun b hb => (I.lo.lt hb).2
  have lmm : ∀ b, blkOf m.A b → b < wi.heap.size := fun b hb => (I.mo.lt hb).2
  have la2 : ∀ b, blkOf A2 b → b < w3.heap.size := fun b hb => (O3.lt b (blk_own.2 hb)).2
  have Ti5 : Tn wi w5 (fun b => b < w0.heap.size ∧ (f b = 0 ∨ f b = 1 ∨ f b = 2)) := by
    refine (T3.mono (fun b _ hb => ?_)).trans' (T5.mono (fun b _ hb => ?_))
    · rcases hb with hb | rfl
      · exact ⟨loa b hb, .inr (.inl (G.f1 b hb))⟩
      · exact ⟨hh, .inl f0⟩
    · rcases hb with hb | rfl
      · exact ⟨lwa b hb, .inr (.inr (G.f2 b hb))⟩
      · exact ⟨hh, .inl f0⟩
  have T05 : Tn w0 w5 (fun b => f b = 3 + 2 * (j : Int) ∨ f b = 0 ∨ f b = 1 ∨ f b = 2) :=
    (I.fr.mono (fun b _ hb => .inl hb.2)).trans' (Ti5.mono (fun b _ hb => .inr hb.2))
  obtain ⟨f', hf'⟩ : ∃ f' : Nat → Int, ∀ b, f' b = if b < w0.heap.size then f b else if b < wi.heap.size then (if m.A.map Addr.block = some b then 4 + 2 * (j : Int) else 3 + 2 * (j : Int)) else if b < w3.heap.size then 1 else 2 := ⟨_, fun _ => rfl⟩
  have fold : ∀ b, b < w0.heap.size → f' b = f b := fun b hb => by rw [hf', if_pos hb]
  have bma : ∀ b, blkOf m.A b ↔ m.A.map Addr.block = some b := fun b => by
    unfold blkOf
    cases m.A with
    | none => simp
    | some ad => simp
  have fl' : ∀ b, blkOf l.A b → f' b = 3 + 2 * (j : Int) := fun b hb => by
    rcases I.bl b hb with ⟨h1, h2⟩ | h1
    · rw [fold b h2]; exact h1
    · rw [hf', if_neg (by omega), if_pos (ll b hb), if_neg (fun e => I.lm b hb ((bma b).2 e))]
  have fm' : ∀ b, blkOf m.A b → f' b = 4 + 2 * (j : Int) := fun b hb => by
    have := I.bm b hb
    rw [hf', if_neg (by omega), if_pos (lmm b hb), if_pos ((bma b).1 hb)]
  refine ⟨f', ⟨B5, ?_, O5, ?_, by simp [G.lel], G.len, ?_, ?_, ?_, G.base, ?_, ?_, ?_, ?_, ?_, ?_, ?_⟩, ⟨T05.mono (fun b _ hb => by omega), fold⟩⟩
  · exact own_tn O3 T5 (fun b hb e => by
      rcases A3 b (blk_own.1 hb) with h1 | h1
      · have := G.f1 b h1
        rcases e with e | rfl
        · have := G.f2 b e; omega
        · omega
      · rcases e with e | rfl
        · have := lwa b e; omega
        · omega)
  · rw [← List.append_assoc, ← List.append_assoc, List.map_append (l₁ := os ++ ls), List.map_append (l₁ := ws ++ ms), G.eq]; simp [I.xs]
  · intro i q hq hi
    have hi' : j + 1 ≤ i := by simpa [hj] using hi
    exact (G.so i q hq (by omega)).tn T05 (fun b hb e => by have := (G.fo i q hq b hb).1; omega)
  · intro q hq
    rw [← List.append_assoc] at hq
    rcases List.mem_append.1 hq with hq | hq
    · by_cases hqs : ∃ b, blkOf q.A b ∧ f b = 3 + 2 * (j : Int)
      · -- of the label of the one that grows: it is s itself
        rcases List.mem_append.1 hq with hq1 | hq1
        · obtain ⟨i, hi⟩ := List.getElem?_of_mem hq1
          obtain ⟨b, hb, hfb⟩ := hqs
          have := (G.fo i q hi b hb).1
          have e : i = j := by omega
          subst e
          obtain rfl : q = s := Option.some.inj (hi.symm.trans hs)
          exact I.rs.tn Ti5 (fun ad ha _ e => by have h1 := G.fo _ _ hs ad.block ⟨ad, ha, rfl⟩; omega)
        · obtain ⟨i, hi⟩ := List.getElem?_of_mem hq1
          obtain ⟨b, hb, hfb⟩ := hqs
          have := (G.fl i q hi b hb).1
          have := (List.getElem?_eq_some_iff.1 hi).1
          omega
      · refine (G.ro q hq).tn T05 (fun ad ha _ e => ?_)
        have hb : blkOf q.A ad.block := ⟨ad, ha, rfl⟩
        have hl : 3 ≤ f ad.block := by
          rcases List.mem_append.1 hq with hq1 | hq1
          · obtain ⟨i, hi⟩ := List.getElem?_of_mem hq1
            have := (G.fo i q hi _ hb).1; omega
          · obtain ⟨i, hi⟩ := List.getElem?_of_mem hq1
            have := (G.fl i q hi _ hb).1; omega
        rcases e with e | e
        · exact hqs ⟨_, hb, e⟩
        · omega
    · obtain rfl : q = l := by simpa using hq
      exact (I.lo.tn Ti5 (fun b hb e => by rcases I.bl b hb with h1 | h1 <;> omega)).rd
  · intro q hq
    rw [← List.append_assoc] at hq
    rcases List.mem_append.1 hq with hq | hq
    · refine (G.rw_ q hq).tn T05 (fun ad ha _ e => ?_)
      have hb : blkOf q.A ad.block := ⟨ad, ha, rfl⟩
      rcases List.mem_append.1 hq with hq1 | hq1
      · obtain ⟨i, hi⟩ := List.getElem?_of_mem hq1
        have := (G.fw i q hi _ hb).1; omega
      · obtain ⟨i, hi⟩ := List.getElem?_of_mem hq1
        have := (G.fm i q hi _ hb).1; omega
    · obtain rfl : q = m := by simpa using hq
      exact (I.mo.tn Ti5 (fun b hb e => by have := I.bm b hb; omega)).rd
  · rw [fold h hh]; exact f0
  · intro b hb
    rcases A3 b hb with h1 | h1
    · rw [fold b (loa b h1)]; exact G.f1 b h1
    · have := la2 b hb
      rw [hf', if_neg (by omega), if_neg (by omega), if_pos this]
  · intro b hb
    rcases A5 b hb with h1 | h1
    · rw [fold b (lwa b h1)]; exact G.f2 b h1
    · rw [hf', if_neg (by omega), if_neg (by omega), if_neg (by omega)]
  · intro i q hq b hb
    have := G.fo i q hq b hb
    exact ⟨by rw [fold b this.2]; exact this.1, by omega⟩
  · intro i q hq b hb
    have := G.fw i q hq b hb
    exact ⟨by rw [fold b this.2]; exact this.1, by omega⟩
  · intro i q hq b hb
    rcases getElem?_snoc hq with ⟨_, hq⟩ | ⟨rfl, rfl⟩
    · have := G.fl i q hq b hb
      exact ⟨by rw [fold b this.2]; exact this.1, by omega⟩
    · exact ⟨by rw [fl' b hb, hj], by have := ll b hb; omega⟩
  · intro i q hq b hb
    rcases getElem?_snoc hq with ⟨_, hq⟩ | ⟨rfl, rfl⟩
    · have := G.fm i q hq b hb
      exact ⟨by rw [fold b this.2]; exact this.1, by omega⟩
    · exact ⟨by rw [fm' b hb, ← G.lel, hj], by have := lmm b hb; omega⟩
theorem In.mo2 {w0 wr wa w2 wb : World} {P : Nat} {f : Nat → Int} {j q : Nat} {s l m : Sl} (I : In w0 wr P f j s q l m) (g1 : wr.grownBy wa none) (hg2 : wa.grownBy w2 (Value.slice l.A l.n l.c).ownBlock) (g2 : w2.grownBy wb none) : SlOwn wb P m :=
  I.mo.tn (((Tn.gb0 g1 (fun b => blkOf l.A b)).trans' (Tn.of_gb hg2 (fun k hk => blk_own.1 hk))).trans' (Tn.gb0 g2 _)) (fun b hb e => I.lm b e hb)
/-- Both grow by one. -/
theorem In.step {w0 wr wa w2 wb w3 : World} {P : Nat} {f : Nat → Int} {j q : Nat} {s l m : Sl} {A2 A3 : Option Addr} {c2 c3 : Nat} {y : Int} (I : In w0 wr P f j s q l m) (hsf : ∀ b, blkOf s.A b → s.A = some ⟨b, 0, none⟩) (hsb : ∀ b, blkOf s.A b → b < w0.heap.size)
    (g1 : wr.grownBy wa none) (ho2 : w2.ownsRow P 3 (Ei .i64).sz (.slice A2 (l.n + 1 : Nat) c2) (l.n + 1) (flat (Ei .i64) (l.xs ++ [y]))) (hg2 : wa.grownBy w2 (Value.slice l.A l.n l.c).ownBlock)
    (hat2 : (Value.slice A2 (l.n + 1 : Nat) c2).ownBlock = (Value.slice l.A l.n l.c).ownBlock ∨ (Value.slice A2 (l.n + 1 : Nat) c2).ownBlock = some wa.heap.size ∧ wa.grownBy w2 none) (g2 : w2.grownBy wb none)
    (ho3 : w3.ownsRow P 3 (Ei .i64).sz (.slice A3 (m.n + 1 : Nat) c3) (m.n + 1) (flat (Ei .i64) (m.xs ++ [y]))) (hg3 : wb.grownBy w3 (Value.slice m.A m.n m.c).ownBlock)
    (hat3 : (Value.slice A3 (m.n + 1 : Nat) c3).ownBlock = (Value.slice m.A m.n m.c).ownBlock ∨ (Value.slice A3 (m.n + 1 : Nat) c3).ownBlock = some wb.heap.size) :
    In w0 w3 P f j s (q + 1) ⟨A2, l.n + 1, c2, l.xs ++ [y]⟩ ⟨A3, m.n + 1, c3, m.xs ++ [y]⟩ := by
  have z0 := I.fr.size
  have z1 := g1.size
  have z2 := hg2.size
  have z3 := g2.size
  have z4 := hg3.size
  have T12 : Tn wr w2 (fun b => blkOf l.A b) := (Tn.gb0 g1 _).trans' (Tn.of_gb hg2 (fun k hk => blk_own.1 hk))
  have T23 : Tn w2 w3 (fun b => blkOf m.A b) := (Tn.gb0 g2 _).trans' (Tn.of_gb hg3 (fun k hk => blk_own.1 hk))
  have hml : ∀ b, blkOf m.A b → b < wr.heap.size := fun b hb => (I.mo.lt hb).2
  have hll : ∀ b, blkOf l.A b → b < wr.heap.size := fun b hb => (I.lo.lt hb).2
  have hA2 : ∀ b, blkOf A2 b → blkOf l.A b ∨ b = wa.heap.size := fun b hb => by
    rcases hat2 with e | ⟨e, _⟩
    · rw [blk_own.2 hb] at e; exact .inl (blk_own.1 e.symm)
    · rw [blk_own.2 hb] at e; exact .inr (Option.some.inj e)
  have hA3 : ∀ b, blkOf A3 b → blkOf m.A b ∨ b = wb.heap.size := fun b hb => by
    rcases hat3 with e | e
    · rw [blk_own.2 hb] at e; exact .inl (blk_own.1 e.symm)
    · rw [blk_own.2 hb] at e; exact .inr (Option.some.inj e)
  have hA2l : ∀ b, blkOf A2 b → b < w2.heap.size := fun b hb => (ho2.lt b (blk_own.2 hb)).2
  have hO2 : SlOwn w2 P ⟨A2, l.n + 1, c2, l.xs ++ [y]⟩ := ho2
  have hln := I.lo.len
  refine ⟨by rw [I.xs], by show l.n + 1 = _; rw [I.n]; omega, ?_, ?_, ho3, ?_, ?_, ?_, ?_, ?_⟩
  · show (l.xs ++ [y]).take s.n = s.xs
    rw [List.take_append_of_le_length (by rw [hln, I.n]; omega)]; exact I.pre
  · exact hO2.tn T23 (fun b hb e => by
      rcases hA2 b hb with h1 | h1
      · exact I.lm b h1 e
      · have := hml b e; omega)
  · have h2 : Rd (Ei .i64) w2 s.A s.n s.xs := rd_grown (I.rs.gb g1) hsf hln.symm (by
      rcases hat2 with e | ⟨_, e⟩
      · exact .inl ⟨fun b => ⟨fun hb => by rw [blk_own.2 hb] at e; exact blk_own.1 e.symm, fun hb => by rw [blk_own.2 hb] at e; exact blk_own.1 e⟩, hg2⟩
      · exact .inr e) hO2 rfl I.pre (by rw [I.n]; omega)
    exact h2.tn T23 (fun ad ha _ e => by have h3 := hsb ad.block ⟨ad, ha, rfl⟩; have h4 := I.bm _ e; omega)
  · refine (I.fr.trans T12 (fun b hb e => ?_)).trans T23 (fun b hb e => ?_)
    · rcases I.bl b e with h1 | h1
      · exact ⟨h1.2, h1.1⟩
      · omega
    · have := I.bm b e; omega
  · intro b hb
    rcases hA2 b hb with h1 | h1
    · exact I.bl b h1
    · exact .inr (by omega)
  · intro b hb
    rcases hA3 b hb with h1 | h1
    · exact I.bm b h1
    · omega
  · intro b hb hb2
    have := hA2l b hb
    rcases hA3 b hb2 with h1 | h1
    · rcases hA2 b hb with h2 | h2
      · exact I.lm b h2 h1
      · have := hml b h1; omega
    · omega
end Go.Proofs.Ytohopfbacfddbaa.S
