/- Words for memory: rows of elements of any size, read and owned; what a step leaves as it was. Conditions: each theorem's own. -/
import Derived.Test.YtohopfbacfddbaaHead
namespace Go.Proofs.Ytohopfbacfddbaa.H
open Go.RowKit Go.Proofs.YtohopfbacfddbaaW.PrintWords
set_option linter.unusedVariables false
set_option linter.unusedSimpArgs false

/-! ### what a step leaves -/
theorem gb_setCell (w : World) (g o : Nat) (v : Value) : w.grownBy (w.setCell ⟨g, o, none⟩ v) (some g) :=
  ⟨rfl, rfl, rfl, by simp [World.setCell], fun k hk hne => by
    have : k ≠ g := fun e => hne (by rw [e])
    exact Below.heap_setCell _ _ _ _ this⟩
theorem gb_drewN (w : World) (n : Nat) (row : Option Nat) : w.grownBy (w.drewN n) row := ⟨rfl, rfl, rfl, Nat.le_refl _, fun _ _ _ => rfl⟩
theorem gb_drew (w : World) (row : Option Nat) : w.grownBy w.drew row := ⟨rfl, rfl, rfl, Nat.le_refl _, fun _ _ _ => rfl⟩
theorem gb_refl (w : World) (row : Option Nat) : w.grownBy w row := ⟨rfl, rfl, rfl, Nat.le_refl _, fun _ _ _ => rfl⟩
theorem gb_any {w w' : World} (h : w.grownBy w' none) (row : Option Nat) : w.grownBy w' row := ⟨h.os, h.tape, h.output, h.size, fun k hk _ => h.block k hk (by simp)⟩
theorem gb_of_below {w w' : World} (h : Below w.heap.size w w') (row : Option Nat) : w.grownBy w' row := ⟨h.os, h.tape, h.output, h.size, fun k hk _ => h.block k hk⟩
theorem below_of_gb {w w' : World} (h : w.grownBy w' none) : Below w.heap.size w w' := ⟨h.os, h.tape, h.output, h.size, fun k hk => h.block k hk (by simp)⟩
theorem below_gb {B : Nat} {w W W' : World} {row : Option Nat} (h : Below B w W) (hg : W.grownBy W' row) (hB : B ≤ W.heap.size) (hr : ∀ k, row = some k → B ≤ k) : Below B w W' := h.grown hg hB hr
/-- A block that is new since w may be written: what was there at w stands. -/
theorem gb_new {w w1 w2 : World} {row : Option Nat} {g : Nat} (h : w.grownBy w1 row) (hg : w1.grownBy w2 (some g)) (hn : w.heap.size ≤ g) : w.grownBy w2 row :=
  ⟨hg.os.trans h.os, hg.tape.trans h.tape, hg.output.trans h.output, Nat.le_trans h.size hg.size, fun k hk hne => (hg.block k (Nat.lt_of_lt_of_le hk h.size) (fun e => by injection e with e; omega)).trans (h.block k hk hne)⟩
theorem blk_kept {w w' : World} {row : Option Nat} {g : Nat} {o : Obj} (h : w.heap[g]? = some o) (hg : w.grownBy w' row) (hne : some g ≠ row) : w'.heap[g]? = some o := by
  rw [hg.block g (Array.getElem?_eq_some_iff.1 h).1 hne]; exact h
theorem blk_lt' {w : World} {g : Nat} {o : Obj} (h : w.heap[g]? = some o) : g < w.heap.size := (Array.getElem?_eq_some_iff.1 h).1
theorem add_block (ad : Addr) (j : Nat) : (ad.add j).block = ad.block := by unfold Addr.add; split <;> rfl
theorem add_add (ad : Addr) (i j : Nat) : (ad.add i).add j = ad.add (i + j) := by
  unfold Addr.add
  by_cases h1 : i = 0 <;> by_cases h2 : j = 0 <;> simp [h1, h2, Nat.add_assoc]

/-! ### elements of some cells each -/
structure Enc (α : Type) where
  sz : Nat
  enc : α → List Value
  len : ∀ x, (enc x).length = sz
  one : ∀ x, ∀ v ∈ enc x, v.oneCell' = true
  pos : 0 < sz
def flat {α : Type} (E : Enc α) (xs : List α) : List Value := (xs.map E.enc).flatten
theorem flat_len {α : Type} (E : Enc α) : ∀ xs : List α, (flat E xs).length = xs.length * E.sz
  | [] => by simp [flat]
  | x :: r => by
    have := flat_len E r
    simp only [flat, List.map_cons, List.flatten_cons, List.length_append, List.length_cons, E.len] at this ⊢
    rw [this, Nat.add_mul]; omega
theorem flat_nil {α : Type} (E : Enc α) : flat E [] = [] := rfl
theorem flat_cons {α : Type} (E : Enc α) (x : α) (r : List α) : flat E (x :: r) = E.enc x ++ flat E r := by simp [flat]
theorem flat_append {α : Type} (E : Enc α) (xs ys : List α) : flat E (xs ++ ys) = flat E xs ++ flat E ys := by simp [flat]
theorem flat_one {α : Type} (E : Enc α) (x : α) : flat E [x] = E.enc x := by simp [flat]
theorem flat_oneCell {α : Type} (E : Enc α) (xs : List α) : ∀ v ∈ flat E xs, v.oneCell' = true := by
  intro v hv
  simp only [flat, List.mem_flatten, List.mem_map] at hv
  obtain ⟨l, ⟨x, _, rfl⟩, hv⟩ := hv
  exact E.one x v hv
theorem flat_at {α : Type} (E : Enc α) : ∀ (xs : List α) (j i : Nat) (x : α), xs[j]? = some x → i < E.sz → (flat E xs)[j * E.sz + i]? = (E.enc x)[i]?
  | [], j, i, x, h, _ => by simp at h
  | y :: r, 0, i, x, h, hi => by
    have : y = x := by simpa using h
    subst this
    rw [flat_cons, Nat.zero_mul, Nat.zero_add, List.getElem?_append_left (by rw [E.len]; exact hi)]
  | y :: r, j + 1, i, x, h, hi => by
    have h' : r[j]? = some x := by simpa using h
    rw [flat_cons, List.getElem?_append_right (by rw [E.len, Nat.add_mul]; omega), E.len, ← flat_at E r j i x h' hi]
    congr 1
    rw [Nat.add_mul]; omega
theorem flat_take {α : Type} (E : Enc α) (xs : List α) (m : Nat) : flat E (xs.take m) = (flat E xs).take (m * E.sz) := by
  rcases Nat.lt_or_ge m xs.length with h | h
  · have e := (List.take_append_drop m xs)
    have hl : (flat E (xs.take m)).length = m * E.sz := by rw [flat_len, List.length_take]; congr 1; omega
    calc flat E (xs.take m) = (flat E (xs.take m) ++ flat E (xs.drop m)).take (m * E.sz) := by rw [← hl, List.take_left']; rfl
      _ = _ := by rw [← flat_append, e]
  · rw [List.take_of_length_le h, List.take_of_length_le (by rw [flat_len]; exact Nat.mul_le_mul_right _ h)]
theorem flat_drop {α : Type} (E : Enc α) (xs : List α) (m : Nat) (h : m ≤ xs.length) : flat E (xs.drop m) = (flat E xs).drop (m * E.sz) := by
  have e := (List.take_append_drop m xs)
  have hl : (flat E (xs.take m)).length = m * E.sz := by rw [flat_len, List.length_take]; congr 1; omega
  have e2 : flat E xs = flat E (xs.take m) ++ flat E (xs.drop m) := by rw [← flat_append, e]
  rw [e2, ← hl, List.drop_left']
  rfl

/-- A slice that reads as a list. -/
def Rd {α : Type} (E : Enc α) (w : World) (A : Option Addr) (n : Nat) (xs : List α) : Prop :=
  xs.length = n ∧ n ≤ 9223372036854775807 ∧ (0 < n → ∃ ad, A = some ad ∧ ∀ i v, (flat E xs)[i]? = some v → w.cell? (ad.add i) = some v)
theorem Rd.kept {α : Type} {E : Enc α} {w w' : World} {A : Option Addr} {n : Nat} {xs : List α} {row : Option Nat} (h : Rd E w A n xs) (hg : w.grownBy w' row) (hne : ∀ ad, A = some ad → some ad.block ≠ row) : Rd E w' A n xs :=
  ⟨h.1, h.2.1, fun hn => by
    obtain ⟨ad, e, hc⟩ := h.2.2 hn
    exact ⟨ad, e, fun i v hv => hg.cell (hc i v hv) (by rw [add_block]; exact hne ad e)⟩⟩
theorem Rd.gb {α : Type} {E : Enc α} {w w' : World} {A : Option Addr} {n : Nat} {xs : List α} (h : Rd E w A n xs) (hg : w.grownBy w' none) : Rd E w' A n xs := h.kept hg (by simp)
theorem Rd.below {α : Type} {E : Enc α} {w w' : World} {A : Option Addr} {n : Nat} {xs : List α} (h : Rd E w A n xs) (hb : Below w.heap.size w w') : Rd E w' A n xs := h.gb (gb_of_below hb none)
theorem Rd.nil {α : Type} (E : Enc α) (w : World) (A : Option Addr) : Rd E w A 0 [] := ⟨rfl, by omega, fun h => absurd h (by omega)⟩
/-- The cells of the element at j. -/
theorem Rd.at_ {α : Type} {E : Enc α} {w : World} {A : Option Addr} {n : Nat} {xs : List α} (h : Rd E w A n xs) (j : Nat) (hj : j < n) :
    ∃ ad x, A = some ad ∧ xs[j]? = some x ∧ ∀ i v, (E.enc x)[i]? = some v → w.cell? (ad.add (j * E.sz + i)) = some v := by
  obtain ⟨ad, e, hc⟩ := h.2.2 (by omega)
  have hj' : j < xs.length := by rw [h.1]; exact hj
  refine ⟨ad, xs[j], e, List.getElem?_eq_getElem hj', fun i v hv => ?_⟩
  have hi : i < E.sz := by
    rcases Nat.lt_or_ge i E.sz with hi | hi
    · exact hi
    · rw [List.getElem?_eq_none (by rw [E.len]; exact hi)] at hv; cases hv
  exact hc _ v (by rw [flat_at E xs j i _ (List.getElem?_eq_getElem hj') hi]; exact hv)
theorem Rd.take_ {α : Type} {E : Enc α} {w : World} {A : Option Addr} {n : Nat} {xs : List α} (h : Rd E w A n xs) (m : Nat) (hm : m ≤ n) : Rd E w A m (xs.take m) := by
  refine ⟨by rw [List.length_take, h.1]; omega, by have := h.2.1; omega, fun hp => ?_⟩
  obtain ⟨ad, e, hc⟩ := h.2.2 (by omega)
  refine ⟨ad, e, fun i v hv => hc i v ?_⟩
  rw [flat_take, List.getElem?_take] at hv
  split at hv
  · exact hv
  · cases hv
theorem Rd.drop_ {α : Type} {E : Enc α} {w : World} {A : Option Addr} {n c : Nat} {xs : List α} (h : Rd E w A n xs) (m : Nat) (hm : m ≤ n) (hc : n ≤ c) : Rd E w (if c = m then A else A.map (·.add (m * E.sz))) (n - m) (xs.drop m) := by
  refine ⟨by rw [List.length_drop, h.1], by have := h.2.1; omega, fun hp => ?_⟩
  obtain ⟨ad, rfl, hcell⟩ := h.2.2 (by omega)
  rw [if_neg (by omega)]
  refine ⟨ad.add (m * E.sz), rfl, fun i v hv => ?_⟩
  rw [add_add]
  refine hcell _ v ?_
  rw [flat_drop E xs m (by rw [h.1]; exact hm), List.getElem?_drop] at hv
  exact hv
/-- 'xs[m:]' without a case on the capacity. -/
theorem cut_at {P : Program} {α : Type} (E : Enc α) (t e : TypeId) (kl : IntKind) {i : TypeInfo} (ht : P.underlying t = some (.slice e)) (hi : P.info? e = some i) (hsz : i.size = E.sz) (A : Option Addr) (n c m : Nat) (hm : m ≤ n) :
    ∃ A' : Option Addr, (∀ W : World, (Instr.slice t (.slice A n c) (some (.int kl (m : Int))) none none).run P W = .ok (.slice A' (n - m) (c - m)) W) ∧
      (∀ (w : World) (xs : List α), n ≤ c → Rd E w A n xs → Rd E w A' (n - m) (xs.drop m)) ∧ ∀ ad, A' = some ad → ∃ a0, A = some a0 ∧ ad.block = a0.block := by
  refine ⟨if c = m then A else A.map (·.add (m * E.sz)), fun W => ?_, fun w xs hc h => h.drop_ m hm hc, fun ad h => ?_⟩
  · have := cut_from t e kl ht hi E.sz hsz A n c (m : Int) (by omega) (by omega) W
    rw [Int.toNat_natCast] at this
    exact this
  · split at h
    · exact ⟨ad, h, rfl⟩
    · obtain ⟨a0, ha, rfl⟩ := Option.map_eq_some_iff.1 h
      exact ⟨a0, ha, add_block _ _⟩
/-- A row of one's own, opened. -/
theorem own_open {α : Type} {E : Enc α} {w : World} {base n : Nat} {e : TypeId} {v : Value} {xs : List α} (hl : xs.length = n) (h : w.ownsRow base e E.sz v n (flat E xs)) :
    ∃ A c, v = .slice A n c ∧ Rd E w A n xs ∧ n ≤ c ∧ ∀ ad, A = some ad → base ≤ ad.block := by
  rcases h.2 with ⟨rfl, rfl⟩ | ⟨g, cap, cur, rfl, hb, hg, hn, hm, hs, ht⟩
  · obtain rfl : xs = [] := List.eq_nil_of_length_eq_zero hl
    exact ⟨none, 0, rfl, Rd.nil E w none, by omega, by simp⟩
  · refine ⟨some ⟨g, 0, none⟩, cap, rfl, ⟨hl, by simp only [maxLen] at hm; omega, fun _ => ⟨_, rfl, fun i v hv => ?_⟩⟩, hn, fun ad e => by cases e; exact hb⟩
    exact h.cells (g := g) rfl i v hv
theorem own_kept {w w' : World} {base n : Nat} {e : TypeId} {size : Nat} {v : Value} {xs : List Value} {row : Option Nat} (h : w.ownsRow base e size v n xs) (hg : w.grownBy w' row) (hne : ∀ k, row = some k → k < base) : w'.ownsRow base e size v n xs :=
  h.kept hg (by
    cases hv : v.ownBlock with
    | none => exact .inl rfl
    | some g => exact .inr (fun he => by have h1 := (h.lt g hv).1; have h2 := hne g he.symm; omega))
theorem own_mono {w : World} {b b' n : Nat} {e : TypeId} {size : Nat} {v : Value} {xs : List Value} (h : w.ownsRow b e size v n xs) (hb : b' ≤ b) : w.ownsRow b' e size v n xs := by
  refine ⟨h.1, ?_⟩
  rcases h.2 with h | ⟨g, cap, cur, h1, h2, h3⟩
  · exact .inl h
  · exact .inr ⟨g, cap, cur, h1, by omega, h3⟩
/-- A literal's row. -/
theorem rd_lit {α : Type} (E : Enc α) (w : World) (t : TypeId) (xs : List α) (h : xs.length ≤ 9223372036854775807) : Rd E (w.alloc (.cells (flat E xs).toArray t)) (some ⟨w.heap.size, 0, none⟩) xs.length xs := by
  have ho := World.ownsRow_lit (base := w.heap.size) (e := t) (size := E.sz) w (flat E xs).toArray xs.length (Nat.le_refl _) (by simpa [maxLen] using h) (by simp [flat_len])
  obtain ⟨A, c, he, hr, _, _⟩ := own_open (E := E) rfl (by simpa using ho)
  injection he with h1 h2 h3
  rw [h1]; exact hr
theorem rd_alloc {α : Type} {E : Enc α} {w : World} {A : Option Addr} {n : Nat} {xs : List α} (h : Rd E w A n xs) (o : Obj) : Rd E (w.alloc o) A n xs := h.gb (World.grownBy_alloc w o none)
theorem ne_of_ge {A : Option Addr} {b g : Nat} (h : ∀ ad, A = some ad → b ≤ ad.block) (hg : g < b) : ∀ ad, A = some ad → some ad.block ≠ some g := fun ad ha e => by
  have := h ad ha
  injection e with e
  omega

/-! ### append to a row of one's own -/
section
variable {P : Program} {ops : Array Oper} {rest : List Oper} {o : Oper} {a : Act} {Q : Exit → Act → World → Prop}
theorem wp_app {α : Type} (E : Enc α) {w : World} {K : Act → World → Prop} (base : Nat) (s x : Operand) (t e : TypeId) (z : Value) (bytes : Nat)
    (ho : o.op = .call { callee := .builtin .append, args := #[s, x], argTypes := #[t, t] })
    (ht : P.underlying t = some (.slice e)) (hinfo : (P.info? e).map (fun i => (i.zero, i.size, i.bytes)) = some (some z, E.sz, bytes)) (hz : z.cells.size = E.sz) (hb0 : 0 < bytes)
    (v : Value) (n : Nat) (xs ys : List α) (A : Option Addr) (m c : Nat) (hs : a.eval s = v) (hx : a.eval x = .slice A m c) (hn : xs.length = n)
    (HO : w.ownsRow base e E.sz v n (flat E xs)) (HR : Rd E w A m ys) (hbase : base ≤ w.heap.size) (hl : (n + m) * bytes ≤ 140737488355328)
    (h : ∀ v1 w1, w1.ownsRow base e E.sz v1 (n + m) (flat E (xs ++ ys)) → w.grownBy w1 v.ownBlock → (v1 = .slice none 0 0 ↔ v = .slice none 0 0 ∧ m = 0) → K (a.put o.dst v1) w1) : o.wp P a w K Q := by
  obtain ⟨i0, hi, hz0, hz1, hz2⟩ := info_parts hinfo
  have hlen : n + m ≤ 140737488355328 := Nat.le_trans (Nat.le_mul_of_pos_right _ hb0) hl
  by_cases hA : ∃ ad, A = some ad
  · obtain ⟨ad, rfl⟩ := hA
    refine wp_append_own w s x t ho base e i0 z E.sz bytes ht hi hz0 hz1 hz2 hz E.pos v n (flat E xs) hs HO ad m c (flat E ys) hx (by rw [flat_len, HR.1]) ?_ (flat_oneCell E ys) (by simp only [maxLen]; omega) hl hbase ?_
    · intro j u hu
      rcases Nat.eq_zero_or_pos m with h0 | h0
      · obtain rfl : ys = [] := List.eq_nil_of_length_eq_zero (HR.1.trans h0)
        simp [flat_nil] at hu
      · obtain ⟨ad', e', hc⟩ := HR.2.2 h0
        injection e' with e'
        subst e'
        exact hc j u hu
    · intro v1 w1 h1 h2 h3
      exact h v1 w1 (by rw [flat_append]; exact h1) h2 h3
  · have hA' : A = none := by cases A with | none => rfl | some ad => exact absurd ⟨ad, rfl⟩ hA
    subst hA'
    have h0 : m = 0 := by
      rcases Nat.eq_zero_or_pos m with h0 | h0
      · exact h0
      · obtain ⟨ad, h, _⟩ := HR.2.2 h0
        cases h
    subst h0
    obtain rfl : ys = [] := List.eq_nil_of_length_eq_zero HR.1
    have hrun : (Builtin.append_ #[t, t] o.type #[v, .slice none 0 c]).run P w = .ok v w := by
      rcases HO.2 with ⟨rfl, hn0⟩ | ⟨g, cap, cur, rfl, _, _, hnc, _⟩
      · simp [Builtin.append_, run_underlying ht, sizeOf, typeInfo, hi, Builtin.lenOf, Builtin.firstCells]
      · simp [Builtin.append_, run_underlying ht, sizeOf, typeInfo, hi, Builtin.lenOf, Builtin.firstCells, hnc, storeCells]
    unfold Oper.wp execOp
    simp only [ho, resolve, invoke, builtin, Sem.run_bind, Sem.run_pure, Result.andThen_ok, List.map_toArray, List.map_cons, List.map_nil, hs, hx, hrun]
    exact h v w (by simpa using HO) (gb_refl _ _) (by simp)
theorem app {α : Type} (E : Enc α) {w : World} (base : Nat) (hgd : o.guard = none) (s x : Operand) (t e : TypeId) (z : Value) (bytes : Nat)
    (ho : o.op = .call { callee := .builtin .append, args := #[s, x], argTypes := #[t, t] })
    (ht : P.underlying t = some (.slice e)) (hinfo : (P.info? e).map (fun i => (i.zero, i.size, i.bytes)) = some (some z, E.sz, bytes)) (hz : z.cells.size = E.sz) (hb0 : 0 < bytes)
    (v : Value) (n : Nat) (xs ys : List α) (A : Option Addr) (m c : Nat) (hs : a.eval s = v) (hx : a.eval x = .slice A m c) (hn : xs.length = n)
    (HO : w.ownsRow base e E.sz v n (flat E xs)) (HR : Rd E w A m ys) (hbase : base ≤ w.heap.size) (hl : (n + m) * bytes ≤ 140737488355328)
    (h : ∀ v1 w1, w1.ownsRow base e E.sz v1 (n + m) (flat E (xs ++ ys)) → w.grownBy w1 v.ownBlock → (v1 = .slice none 0 0 ↔ v = .slice none 0 0 ∧ m = 0) → wpList P ops Q rest (a.put o.dst v1) w1) : wpList P ops Q (o :: rest) a w :=
  wpList_plain hgd fun K hK => wp_app E base s x t e z bytes ho ht hinfo hz hb0 v n xs ys A m c hs hx hn HO HR hbase hl fun v1 w1 h1 h2 h3 => hK _ _ (h v1 w1 h1 h2 h3)
theorem app_step {α : Type} (E : Enc α) {w : World} {K : Act → World → Prop} {E' : Prop} (hw : Region.wanted o (yielded ops a.tmps) = true) {N : Option Tmp} (hN : o.dst = N) (base : Nat) (s x : Operand) (t e : TypeId) (z : Value) (bytes : Nat)
    (ho : o.op = .call { callee := .builtin .append, args := #[s, x], argTypes := #[t, t] })
    (ht : P.underlying t = some (.slice e)) (hinfo : (P.info? e).map (fun i => (i.zero, i.size, i.bytes)) = some (some z, E.sz, bytes)) (hz : z.cells.size = E.sz) (hb0 : 0 < bytes)
    (v : Value) (n : Nat) (xs ys : List α) (A : Option Addr) (m c : Nat) (hs : a.eval s = v) (hx : a.eval x = .slice A m c) (hn : xs.length = n)
    (HO : w.ownsRow base e E.sz v n (flat E xs)) (HR : Rd E w A m ys) (hbase : base ≤ w.heap.size) (hl : (n + m) * bytes ≤ 140737488355328)
    (h : ∀ v1 w1, w1.ownsRow base e E.sz v1 (n + m) (flat E (xs ++ ys)) → w.grownBy w1 v.ownBlock → (v1 = .slice none 0 0 ↔ v = .slice none 0 0 ∧ m = 0) → K (a.put N v1) w1) :
    if Region.wanted o (yielded ops a.tmps) = true then Oper.wp P o a w K Q else E' := by
  rw [if_pos hw]
  subst hN
  exact wp_app E base s x t e z bytes ho ht hinfo hz hb0 v n xs ys A m c hs hx hn HO HR hbase hl h
end
/-- Whole numbers. -/
def Ei (k : IntKind) : Enc Int := ⟨1, fun x => [.int k x], fun _ => rfl, fun _ v hv => by simp at hv; subst hv; rfl, by decide⟩
theorem flat_nums (k : IntKind) (xs : List Int) : flat (Ei k) xs = nums k xs := by
  induction xs with
  | nil => rfl
  | cons x r ih => rw [flat_cons, ih]; simp [nums, Ei]
theorem rd_ints {w : World} {k : IntKind} {A : Option Addr} {n : Nat} {xs : List Int} (h : ReadsInt w k A n xs) : Rd (Ei k) w A n xs :=
  ⟨h.1, h.2.1, fun hn => by
    obtain ⟨ad, e, hc⟩ := h.2.2 hn
    refine ⟨ad, e, fun i v hv => ?_⟩
    rw [flat_nums] at hv
    have hi : i < xs.length := by
      rcases Nat.lt_or_ge i xs.length with hi | hi
      · exact hi
      · rw [List.getElem?_eq_none (by simpa [nums] using hi)] at hv; cases hv
    have := hc i (by rw [← h.1]; exact hi)
    rw [this]
    simp [nums, List.getElem?_eq_getElem hi] at hv
    subst hv
    simp [List.getD_eq_getElem?_getD, List.getElem?_eq_getElem hi]⟩
/-- The whole number at j. -/
theorem Rd.int {w : World} {k : IntKind} {A : Option Addr} {n : Nat} {xs : List Int} (h : Rd (Ei k) w A n xs) (j : Nat) (hj : j < n) : ∃ ad, A = some ad ∧ w.cell? (ad.add j) = some (.int k (rd xs (j : Int))) := by
  obtain ⟨ad, x, e, hx, hc⟩ := h.at_ j hj
  refine ⟨ad, e, ?_⟩
  have := hc 0 _ rfl
  rw [show j * (Ei k).sz + 0 = j by simp [Ei]] at this
  rw [this]
  have : rd xs (j : Int) = x := by simp [rd, List.getD_eq_getElem?_getD, hx]
  rw [this]
end Go.Proofs.Ytohopfbacfddbaa.H
