/- Words for what a call leaves: all that was there stands, but for some blocks. Conditions: each theorem's own. -/
import Derived.Test.YtohopfbacfddbaaHW
namespace Go.Proofs.Ytohopfbacfddbaa.H
open Go.RowKit Go.Proofs.YtohopfbacfddbaaW.PrintWords
set_option linter.unusedVariables false
set_option linter.unusedSimpArgs false

/-- What was there at w stands at w', but for the blocks of F. -/
structure Tn (w w' : World) (F : Nat → Prop) : Prop where
  os : w'.os = w.os
  tape : w'.tape = w.tape
  output : w'.output = w.output
  size : w.heap.size ≤ w'.heap.size
  block : ∀ k, k < w.heap.size → ¬ F k → w'.heap[k]? = w.heap[k]?
theorem Tn.refl (w : World) (F : Nat → Prop) : Tn w w F := ⟨rfl, rfl, rfl, Nat.le_refl _, fun _ _ _ => rfl⟩
theorem Tn.of_gb {w w' : World} {row : Option Nat} {F : Nat → Prop} (h : w.grownBy w' row) (hF : ∀ k, row = some k → F k) : Tn w w' F :=
  ⟨h.os, h.tape, h.output, h.size, fun k hk hn => h.block k hk (fun e => hn (hF k e.symm))⟩
theorem Tn.gb0 {w w' : World} (h : w.grownBy w' none) (F : Nat → Prop) : Tn w w' F := Tn.of_gb h (by simp)
theorem Tn.of_below {w w' : World} (h : Below w.heap.size w w') (F : Nat → Prop) : Tn w w' F :=
  ⟨h.os, h.tape, h.output, h.size, fun k hk _ => h.block k hk⟩
theorem Tn.trans {w w1 w2 : World} {F G : Nat → Prop} (h : Tn w w1 F) (k : Tn w1 w2 G) (hG : ∀ i, i < w.heap.size → G i → F i) : Tn w w2 F :=
  ⟨k.os.trans h.os, k.tape.trans h.tape, k.output.trans h.output, Nat.le_trans h.size k.size, fun i hi hn =>
    (k.block i (Nat.lt_of_lt_of_le hi h.size) (fun g => hn (hG i hi g))).trans (h.block i hi hn)⟩
theorem Tn.trans' {w w1 w2 : World} {F : Nat → Prop} (h : Tn w w1 F) (k : Tn w1 w2 F) : Tn w w2 F := h.trans k (fun _ _ h => h)
theorem Tn.mono {w w1 : World} {F G : Nat → Prop} (h : Tn w w1 F) (hG : ∀ i, i < w.heap.size → F i → G i) : Tn w w1 G :=
  ⟨h.os, h.tape, h.output, h.size, fun i hi hn => h.block i hi (fun f => hn (hG i hi f))⟩
theorem Tn.below {w w1 : World} {F : Nat → Prop} {B : Nat} (h : Tn w w1 F) (hB : B ≤ w.heap.size) (hF : ∀ i, F i → B ≤ i) : Below B w w1 :=
  ⟨h.os, h.tape, h.output, h.size, fun i hi => h.block i (by omega) (fun f => by have := hF i f; omega)⟩
theorem Tn.set {w : World} (g o : Nat) (v : Value) {F : Nat → Prop} (hF : F g) : Tn w (w.setCell ⟨g, o, none⟩ v) F :=
  Tn.of_gb (gb_setCell w g o v) (fun k hk => by cases hk; exact hF)
theorem Tn.drew (w : World) (F : Nat → Prop) : Tn w w.drew F := Tn.gb0 (gb_drew w none) F
theorem Tn.drewN (w : World) (n : Nat) (F : Nat → Prop) : Tn w (w.drewN n) F := Tn.gb0 (gb_drewN w n none) F
theorem Tn.alloc (w : World) (o : Obj) (F : Nat → Prop) : Tn w (w.alloc o) F := Tn.gb0 (World.grownBy_alloc w o none) F
theorem blk_tn {w w' : World} {F : Nat → Prop} {g : Nat} {o : Obj} (h : w.heap[g]? = some o) (hg : Tn w w' F) (hne : ¬ F g) : w'.heap[g]? = some o := by
  rw [hg.block g (blk_lt' h) hne]; exact h
theorem cell_tn {w w' : World} {F : Nat → Prop} {a : Addr} {v : Value} (h : w.cell? a = some v) (hg : Tn w w' F) (hne : ¬ F a.block) : w'.cell? a = some v :=
  (World.cell?_of_block (hg.block a.block (World.block_lt_of_cell? w a h) hne)).trans h
theorem own_tn {w w' : World} {F : Nat → Prop} {base n : Nat} {e : TypeId} {size : Nat} {v : Value} {xs : List Value} (h : w.ownsRow base e size v n xs) (hg : Tn w w' F) (hne : ∀ k, v.ownBlock = some k → ¬ F k) : w'.ownsRow base e size v n xs := by
  refine ⟨h.1, ?_⟩
  rcases h.2 with hn | ⟨g, cap, cur, rfl, hb, hgg, rest⟩
  · exact .inl hn
  · exact .inr ⟨g, cap, cur, rfl, hb, blk_tn hgg hg (hne g rfl), rest⟩
theorem Rd.tn {α : Type} {E : Enc α} {w w' : World} {A : Option Addr} {n : Nat} {xs : List α} {F : Nat → Prop} (h : Rd E w A n xs) (hg : Tn w w' F) (hne : ∀ ad, A = some ad → 0 < n → ¬ F ad.block) : Rd E w' A n xs :=
  ⟨h.1, h.2.1, fun hn => by
    obtain ⟨ad, e, hc⟩ := h.2.2 hn
    exact ⟨ad, e, fun i v hv => cell_tn (hc i v hv) hg (by rw [add_block]; exact hne ad e hn)⟩⟩
/-- Cells of a block that is known whole. -/
theorem cell_of {w : World} {g : Nat} {cs : Array Value} {t : TypeId} {fr : Nat × Nat} {j : Nat} {v : Value} (h : w.heap[g]? = some (.cells cs t fr)) (hj : cs[j]? = some v) : w.cell? ⟨g, j, none⟩ = some v := by
  simp [World.cell?, h, hj]
theorem frozen_of {w : World} {g : Nat} {cs : Array Value} {t : TypeId} {j : Nat} (h : w.heap[g]? = some (.cells cs t (0, 0))) : w.frozen? ⟨g, j, none⟩ = false := by
  simp [World.frozen?, h]
theorem blk_set {w : World} {g : Nat} {cs : Array Value} {t : TypeId} {fr : Nat × Nat} (j : Nat) (v : Value) (h : w.heap[g]? = some (.cells cs t fr)) : (w.setCell ⟨g, j, none⟩ v).heap[g]? = some (.cells (cs.setIfInBounds j v) t fr) := by
  simp [World.setCell, Array.getElem?_modify, h]
theorem own_form {w : World} {base n : Nat} {e : TypeId} {size : Nat} {A : Option Addr} {c : Nat} {xs : List Value} (h : w.ownsRow base e size (.slice A n c) n xs) : n ≤ c ∧ ∀ ad, A = some ad → ad = ⟨ad.block, 0, none⟩ := by
  rcases h.2 with ⟨he, h0⟩ | ⟨g, cap, cur, he, _, _, h1, _⟩
  · injection he with h1 h2 h3; subst h1 h3; exact ⟨by omega, by simp⟩
  · injection he with h2 h3 h4; subst h2 h4; exact ⟨h1, fun ad e => by cases e; rfl⟩
theorem own_rd {α : Type} {E : Enc α} {w : World} {base n c : Nat} {e : TypeId} {A : Option Addr} {xs : List α} (hl : xs.length = n) (h : w.ownsRow base e E.sz (.slice A n c) n (flat E xs)) : Rd E w A n xs := by
  obtain ⟨A', c', he, hr, _, _⟩ := own_open hl h
  injection he with h1 h2 h3
  subst h1; exact hr
/-- A row's cell, as the walk meets it. -/
theorem own_cell {α : Type} {E : Enc α} {w : World} {base n c : Nat} {e : TypeId} {g : Nat} {xs : List α} (h : w.ownsRow base e E.sz (.slice (some ⟨g, 0, none⟩) n c) n (flat E xs)) (j i : Nat) (x : α) (hx : xs[j]? = some x) (hi : i < E.sz) (v : Value) (hv : (E.enc x)[i]? = some v) : w.cell? ⟨g, j * E.sz + i, none⟩ = some v := by
  have hl : j < xs.length := (List.getElem?_eq_some_iff.1 hx).1
  have h2 : j * E.sz + i < (flat E xs).length := by
    rw [flat_len]
    calc j * E.sz + i < j * E.sz + E.sz := by omega
      _ = (j + 1) * E.sz := by rw [Nat.add_mul]; omega
      _ ≤ xs.length * E.sz := Nat.mul_le_mul_right _ hl
  have h3 := flat_at E xs j i x hx hi
  rw [hv] at h3
  have h4 := h.cells (g := g) rfl _ v h3
  unfold Addr.add at h4
  split at h4
  · rename_i e0; rw [e0]; exact h4
  · simpa using h4
theorem flat_set' {α : Type} (E : Enc α) : ∀ (xs : List α) (j i : Nat) (x y : α) (v : Value), xs[j]? = some x → i < E.sz → (E.enc x).set i v = E.enc y → (flat E xs).set (j * E.sz + i) v = flat E (xs.set j y)
  | [], j, i, x, y, v, h, _, _ => by simp at h
  | z :: r, 0, i, x, y, v, h, hi, he => by
    have : z = x := by simpa using h
    subst this
    rw [flat_cons, Nat.zero_mul, Nat.zero_add, List.set_append_left _ _ (by rw [E.len]; exact hi), he, List.set_cons_zero, flat_cons]
  | z :: r, j + 1, i, x, y, v, h, hi, he => by
    have h' : r[j]? = some x := by simpa using h
    rw [flat_cons, List.set_append_right _ _ (by rw [E.len, Nat.add_mul]; omega), List.set_cons_succ, flat_cons, ← flat_set' E r j i x y v h' hi he]
    congr 2
    rw [E.len, Nat.add_mul]; omega
/-- A store into a row of one's own. -/
theorem own_put {α : Type} {E : Enc α} {w : World} {base n c : Nat} {e : TypeId} {g : Nat} {xs : List α} (h : w.ownsRow base e E.sz (.slice (some ⟨g, 0, none⟩) n c) n (flat E xs)) (j i : Nat) (x y : α) (v : Value) (hx : xs[j]? = some x) (hi : i < E.sz) (he : (E.enc x).set i v = E.enc y) :
    (w.setCell ⟨g, j * E.sz + i, none⟩ v).ownsRow base e E.sz (.slice (some ⟨g, 0, none⟩) n c) n (flat E (xs.set j y)) := by
  have := (h.stored (j * E.sz + i) v).1
  rwa [flat_set' E xs j i x y v hx hi he] at this
theorem own_frozen {w : World} {base n c : Nat} {e : TypeId} {size : Nat} {g : Nat} {xs : List Value} (h : w.ownsRow base e size (.slice (some ⟨g, 0, none⟩) n c) n xs) (j : Nat) : w.frozen? ⟨g, j, none⟩ = false := h.frozenAt j
/-- append to a row of one's own, where the row lies told too. -/
theorem app_at {P : Program} {ops : Array Oper} {rest : List Oper} {o : Oper} {a : Act} {Q : Exit → Act → World → Prop} {α : Type} (E : Enc α) {w : World} (base : Nat) (hgd : o.guard = none) (s x : Operand) (t e : TypeId) (z : Value) (bytes : Nat)
    (ho : o.op = .call { callee := .builtin .append, args := #[s, x], argTypes := #[t, t] })
    (ht : P.underlying t = some (.slice e)) (hinfo : (P.info? e).map (fun i => (i.zero, i.size, i.bytes)) = some (some z, E.sz, bytes)) (hz : z.cells.size = E.sz) (hb0 : 0 < bytes)
    (v : Value) (n : Nat) (xs ys : List α) (ad : Addr) (m c : Nat) (hs : a.eval s = v) (hx : a.eval x = .slice (some ad) m c)
    (HO : w.ownsRow base e E.sz v n (flat E xs)) (HR : Rd E w (some ad) m ys) (hbase : base ≤ w.heap.size) (hl : (n + m) * bytes ≤ 140737488355328)
    (h : ∀ v1 w1, w1.ownsRow base e E.sz v1 (n + m) (flat E (xs ++ ys)) → w.grownBy w1 v.ownBlock → (v1.ownBlock = v.ownBlock ∨ v1.ownBlock = some w.heap.size) → wpList P ops Q rest (a.put o.dst v1) w1) : wpList P ops Q (o :: rest) a w := by
  obtain ⟨i0, hi, hz0, hz1, hz2⟩ := info_parts hinfo
  have hlen : n + m ≤ 140737488355328 := Nat.le_trans (Nat.le_mul_of_pos_right _ hb0) hl
  obtain ⟨v1, w1, hr, h2, h3, _, h5⟩ := run_append_own_at (P := P) w base t o.type e i0 z E.sz bytes ht hi hz0 hz1 hz2 hz E.pos v n (flat E xs) HO ad m c (flat E ys) (by rw [flat_len, HR.1])
    (fun j u hu => by
      rcases Nat.eq_zero_or_pos m with h0 | h0
      · obtain rfl : ys = [] := List.eq_nil_of_length_eq_zero (HR.1.trans h0)
        simp [flat_nil] at hu
      · obtain ⟨ad', e', hc⟩ := HR.2.2 h0
        injection e' with e'
        subst e'
        exact hc j u hu) (flat_oneCell E ys) (by simp only [maxLen]; omega) hl hbase
  refine wpList_plain hgd fun K hK => ?_
  unfold Oper.wp execOp
  simp only [ho, resolve, invoke, builtin, Sem.run_bind, Sem.run_pure, Result.andThen_ok, List.map_toArray, List.map_cons, List.map_nil, hs, hx, hr]
  exact hK _ _ (h v1 w1 (by rw [flat_append]; exact h2) h3 h5)
end Go.Proofs.Ytohopfbacfddbaa.H
