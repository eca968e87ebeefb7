/- Some texts in one: Head HW TN TA TB TC TD TE TX TF TG RA RB RC. Conditions: each theorem's own. -/
import Derived.Test.YtbhijfbjdbjpbaaDoorProg
import Derived.Below
import Derived.Deep.Draws
import Derived.Deep.AppendLies
import Derived.Maps.AppendAt
import Derived.OwnWalk
import Derived.Laws.MakeOwn
import Derived.Laws.OwnMore
import Derived.Deep.OwnRows
import Derived.Tactics
import Derived.Laws.Slices
import Derived.WalkKit
import Derived.KernelRfl
import Derived.RowKit3
import Derived.Deep.LoopGhost
import Derived.Deep.QuietTactic
import Derived.BigQuiet
import Derived.WideLaws
import Derived.Deep.RegionHeld3
import Derived.Deep.RegionLaw
import Derived.Laws.Rows
import Derived.ArgAppend
import Derived.Laws.IdiomCopy
import Derived.OrdersHeld
import Derived.Laws.BitsLemmas
import Derived.RowKit
import Derived.RegionTactic
import Derived.BigRegion
import Derived.ChangeAlike
import Derived.LoopN
import Derived.Laws.CopyOwn
import Derived.Outline
import Derived.Test.YtbhijfbjdbjpbaaDoorWSHMore
import Derived.Lib.ConvBytes
import Derived.Maps.OwnSet
import Derived.StringKeys
import Derived.Laws.StructEq
namespace Go.Proofs.YtbhijfbjdbjpbaaDoor
end Go.Proofs.YtbhijfbjdbjpbaaDoor
namespace Go.Proofs.YtbhijfbjdbjpbaaDoor.H
open Go.RowKit Go.Proofs.YtbhijfbjdbjpbaaDoorW.PrintWords
set_option linter.unusedVariables false
set_option linter.unusedSimpArgs false

/-! ### what a step leaves -/
theorem gb_setCell (w : World) (g o : Nat) (v : Value) : w.grownBy (w.setCell ⟨g, o, none⟩ v) (some g) :=
  ⟨rfl, rfl, rfl, by simp [World.setCell], fun k hk hne => by
    have : k ≠ g := fun e => hne (by rw [e])
    exact Below.heap_setCell _ _ _ _ this⟩
theorem gb_drewN (w : World) (n : Nat) (row : Option Nat) : w.grownBy (w.drewN n) row := ⟨rfl, rfl, rfl, Nat.le_refl _, fun _ _ _ => rfl⟩
theorem gb_drew (w : World) (row : Option Nat) : w.grownBy w.drew row := ⟨rfl, rfl, rfl, Nat.le_refl _, fun _ _ _ => rfl⟩
theorem gb_refl (w : World) (row : Option Nat) : w.grownBy w row := ⟨rfl, rfl, rfl, Nat.le_refl _, fun _ _ _ => rfl⟩
theorem gb_any {w w' : World} (h : w.grownBy w' none) (row : Option Nat) : w.grownBy w' row := ⟨h.os, h.tape, h.output, h.size, fun k hk _ => h.block k hk (by simp)⟩
theorem gb_of_below {w w' : World} (h : Below w.heap.size w w') (row : Option Nat) : w.grownBy w' row := ⟨h.os, h.tape, h.output, h.size, fun k hk _ => h.block k hk⟩
theorem below_of_gb {w w' : World} (h : w.grownBy w' none) : Below w.heap.size w w' := ⟨h.os, h.tape, h.output, h.size, fun k hk => h.block k hk (by simp)⟩
theorem below_gb {B : Nat} {w W W' : World} {row : Option Nat} (h : Below B w W) (hg : W.grownBy W' row) (hB : B ≤ W.heap.size) (hr : ∀ k, row = some k → B ≤ k) : Below B w W' := h.grown hg hB hr
/-- A block that is new since w may be written: what was there at w stands. -/
theorem gb_new {w w1 w2 : World} {row : Option Nat} {g : Nat} (h : w.grownBy w1 row) (hg : w1.grownBy w2 (some g)) (hn : w.heap.size ≤ g) : w.grownBy w2 row :=
  ⟨hg.os.trans h.os, hg.tape.trans h.tape, hg.output.trans h.output, Nat.le_trans h.size hg.size, fun k hk hne => (hg.block k (Nat.lt_of_lt_of_le hk h.size) (fun e => by injection e with e; omega)).trans (h.block k hk hne)⟩
theorem blk_kept {w w' : World} {row : Option Nat} {g : Nat} {o : Obj} (h : w.heap[g]? = some o) (hg : w.grownBy w' row) (hne : some g ≠ row) : w'.heap[g]? = some o := by
  rw [hg.block g (Array.getElem?_eq_some_iff.1 h).1 hne]; exact h
theorem blk_lt' {w : World} {g : Nat} {o : Obj} (h : w.heap[g]? = some o) : g < w.heap.size := (Array.getElem?_eq_some_iff.1 h).1
theorem add_block (ad : Addr) (j : Nat) : (ad.add j).block = ad.block := by unfold Addr.add; split <;> rfl
theorem add_add (ad : Addr) (i j : Nat) : (ad.add i).add j = ad.add (i + j) := by
  unfold Addr.add
  by_cases h1 : i = 0 <;> by_cases h2 : j = 0 <;> simp [h1, h2, Nat.add_assoc]

/-! ### elements of some cells each -/
structure Enc (α : Type) where
  sz : Nat
  enc : α → List Value
  len : ∀ x, (enc x).length = sz
  one : ∀ x, ∀ v ∈ enc x, v.oneCell' = true
  pos : 0 < sz
def flat {α : Type} (E : Enc α) (xs : List α) : List Value := (xs.map E.enc).flatten
theorem flat_len {α : Type} (E : Enc α) : ∀ xs : List α, (flat E xs).length = xs.length * E.sz
  | [] => by simp [flat]
  | x :: r => by
    have := flat_len E r
    simp only [flat, List.map_cons, List.flatten_cons, List.length_append, List.length_cons, E.len] at this ⊢
    rw [this, Nat.add_mul]; omega
theorem flat_nil {α : Type} (E : Enc α) : flat E [] = [] := rfl
theorem flat_cons {α : Type} (E : Enc α) (x : α) (r : List α) : flat E (x :: r) = E.enc x ++ flat E r := by simp [flat]
theorem flat_append {α : Type} (E : Enc α) (xs ys : List α) : flat E (xs ++ ys) = flat E xs ++ flat E ys := by simp [flat]
theorem flat_one {α : Type} (E : Enc α) (x : α) : flat E [x] = E.enc x := by simp [flat]
theorem flat_oneCell {α : Type} (E : Enc α) (xs : List α) : ∀ v ∈ flat E xs, v.oneCell' = true := by
  intro v hv
  simp only [flat, List.mem_flatten, List.mem_map] at hv
  obtain ⟨l, ⟨x, _, rfl⟩, hv⟩ := hv
  exact E.one x v hv
theorem flat_at {α : Type} (E : Enc α) : ∀ (xs : List α) (j i : Nat) (x : α), xs[j]? = some x → i < E.sz → (flat E xs)[j * E.sz + i]? = (E.enc x)[i]?
  | [], j, i, x, h, _ => by simp at h
  | y :: r, 0, i, x, h, hi => by
    have : y = x := by simpa using h
    subst this
    rw [flat_cons, Nat.zero_mul, Nat.zero_add, List.getElem?_append_left (by rw [E.len]; exact hi)]
  | y :: r, j + 1, i, x, h, hi => by
    have h' : r[j]? = some x := by simpa using h
    rw [flat_cons, List.getElem?_append_right (by rw [E.len, Nat.add_mul]; omega), E.len, ← flat_at E r j i x h' hi]
    congr 1
    rw [Nat.add_mul]; omega
theorem flat_take {α : Type} (E : Enc α) (xs : List α) (m : Nat) : flat E (xs.take m) = (flat E xs).take (m * E.sz) := by
  rcases Nat.lt_or_ge m xs.length with h | h
  · have e := (List.take_append_drop m xs)
    have hl : (flat E (xs.take m)).length = m * E.sz := by rw [flat_len, List.length_take]; congr 1; omega
    calc flat E (xs.take m) = (flat E (xs.take m) ++ flat E (xs.drop m)).take (m * E.sz) := by rw [← hl, List.take_left']; rfl
      _ = _ := by rw [← flat_append, e]
  · rw [List.take_of_length_le h, List.take_of_length_le (by rw [flat_len]; exact Nat.mul_le_mul_right _ h)]
theorem flat_drop {α : Type} (E : Enc α) (xs : List α) (m : Nat) (h : m ≤ xs.length) : flat E (xs.drop m) = (flat E xs).drop (m * E.sz) := by
  have e := (List.take_append_drop m xs)
  have hl : (flat E (xs.take m)).length = m * E.sz := by rw [flat_len, List.length_take]; congr 1; omega
  have e2 : flat E xs = flat E (xs.take m) ++ flat E (xs.drop m) := by rw [← flat_append, e]
  rw [e2, ← hl, List.drop_left']
  rfl

/-- A slice that reads as a list. -/
def Rd {α : Type} (E : Enc α) (w : World) (A : Option Addr) (n : Nat) (xs : List α) : Prop :=
  xs.length = n ∧ n ≤ 9223372036854775807 ∧ (0 < n → ∃ ad, A = some ad ∧ ∀ i v, (flat E xs)[i]? = some v → w.cell? (ad.add i) = some v)
theorem Rd.kept {α : Type} {E : Enc α} {w w' : World} {A : Option Addr} {n : Nat} {xs : List α} {row : Option Nat} (h : Rd E w A n xs) (hg : w.grownBy w' row) (hne : ∀ ad, A = some ad → some ad.block ≠ row) : Rd E w' A n xs :=
  ⟨h.1, h.2.1, fun hn => by
    obtain ⟨ad, e, hc⟩ := h.2.2 hn
    exact ⟨ad, e, fun i v hv => hg.cell (hc i v hv) (by rw [add_block]; exact hne ad e)⟩⟩
theorem Rd.gb {α : Type} {E : Enc α} {w w' : World} {A : Option Addr} {n : Nat} {xs : List α} (h : Rd E w A n xs) (hg : w.grownBy w' none) : Rd E w' A n xs := h.kept hg (by simp)
theorem Rd.below {α : Type} {E : Enc α} {w w' : World} {A : Option Addr} {n : Nat} {xs : List α} (h : Rd E w A n xs) (hb : Below w.heap.size w w') : Rd E w' A n xs := h.gb (gb_of_below hb none)
theorem Rd.nil {α : Type} (E : Enc α) (w : World) (A : Option Addr) : Rd E w A 0 [] := ⟨rfl, by omega, fun h => absurd h (by omega)⟩
/-- The cells of the element at j. -/
theorem Rd.at_ {α : Type} {E : Enc α} {w : World} {A : Option Addr} {n : Nat} {xs : List α} (h : Rd E w A n xs) (j : Nat) (hj : j < n) :
    ∃ ad x, A = some ad ∧ xs[j]? = some x ∧ ∀ i v, (E.enc x)[i]? = some v → w.cell? (ad.add (j * E.sz + i)) = some v := by
  obtain ⟨ad, e, hc⟩ := h.2.2 (by omega)
  have hj' : j < xs.length := by rw [h.1]; exact hj
  refine ⟨ad, xs[j], e, List.getElem?_eq_getElem hj', fun i v hv => ?_⟩
  have hi : i < E.sz := by
    rcases Nat.lt_or_ge i E.sz with hi | hi
    · exact hi
    · rw [List.getElem?_eq_none (by rw [E.len]; exact hi)] at hv; cases hv
  exact hc _ v (by rw [flat_at E xs j i _ (List.getElem?_eq_getElem hj') hi]; exact hv)
theorem Rd.take_ {α : Type} {E : Enc α} {w : World} {A : Option Addr} {n : Nat} {xs : List α} (h : Rd E w A n xs) (m : Nat) (hm : m ≤ n) : Rd E w A m (xs.take m) := by
  refine ⟨by rw [List.length_take, h.1]; omega, by have := h.2.1; omega, fun hp => ?_⟩
  obtain ⟨ad, e, hc⟩ := h.2.2 (by omega)
  refine ⟨ad, e, fun i v hv => hc i v ?_⟩
  rw [flat_take, List.getElem?_take] at hv
  split at hv
  · exact hv
  · cases hv
theorem Rd.drop_ {α : Type} {E : Enc α} {w : World} {A : Option Addr} {n c : Nat} {xs : List α} (h : Rd E w A n xs) (m : Nat) (hm : m ≤ n) (hc : n ≤ c) : Rd E w (if c = m then A else A.map (·.add (m * E.sz))) (n - m) (xs.drop m) := by
  refine ⟨by rw [List.length_drop, h.1], by have := h.2.1; omega, fun hp => ?_⟩
  obtain ⟨ad, rfl, hcell⟩ := h.2.2 (by omega)
  rw [if_neg (by omega)]
  refine ⟨ad.add (m * E.sz), rfl, fun i v hv => ?_⟩
  rw [add_add]
  refine hcell _ v ?_
  rw [flat_drop E xs m (by rw [h.1]; exact hm), List.getElem?_drop] at hv
  exact hv
/-- 'xs[m:]' without a case on the capacity. -/
theorem cut_at {P : Program} {α : Type} (E : Enc α) (t e : TypeId) (kl : IntKind) {i : TypeInfo} (ht : P.underlying t = some (.slice e)) (hi : P.info? e = some i) (hsz : i.size = E.sz) (A : Option Addr) (n c m : Nat) (hm : m ≤ n) :
    ∃ A' : Option Addr, (∀ W : World, (Instr.slice t (.slice A n c) (some (.int kl (m : Int))) none none).run P W = .ok (.slice A' (n - m) (c - m)) W) ∧
      (∀ (w : World) (xs : List α), n ≤ c → Rd E w A n xs → Rd E w A' (n - m) (xs.drop m)) ∧ ∀ ad, A' = some ad → ∃ a0, A = some a0 ∧ ad.block = a0.block := by
  refine ⟨if c = m then A else A.map (·.add (m * E.sz)), fun W => ?_, fun w xs hc h => h.drop_ m hm hc, fun ad h => ?_⟩
  · have := cut_from t e kl ht hi E.sz hsz A n c (m : Int) (by omega) (by omega) W
    rw [Int.toNat_natCast] at this
    exact this
  · split at h
    · exact ⟨ad, h, rfl⟩
    · obtain ⟨a0, ha, rfl⟩ := Option.map_eq_some_iff.1 h
      exact ⟨a0, ha, add_block _ _⟩
/-- A row of one's own, opened. -/
theorem own_open {α : Type} {E : Enc α} {w : World} {base n : Nat} {e : TypeId} {v : Value} {xs : List α} (hl : xs.length = n) (h : w.ownsRow base e E.sz v n (flat E xs)) :
    ∃ A c, v = .slice A n c ∧ Rd E w A n xs ∧ n ≤ c ∧ ∀ ad, A = some ad → base ≤ ad.block := by
  rcases h.2 with ⟨rfl, rfl⟩ | ⟨g, cap, cur, rfl, hb, hg, hn, hm, hs, ht⟩
  · obtain rfl : xs = [] := List.eq_nil_of_length_eq_zero hl
    exact ⟨none, 0, rfl, Rd.nil E w none, by omega, by simp⟩
  · refine ⟨some ⟨g, 0, none⟩, cap, rfl, ⟨hl, by simp only [maxLen] at hm; omega, fun _ => ⟨_, rfl, fun i v hv => ?_⟩⟩, hn, fun ad e => by cases e; exact hb⟩
    exact h.cells (g := g) rfl i v hv
theorem own_kept {w w' : World} {base n : Nat} {e : TypeId} {size : Nat} {v : Value} {xs : List Value} {row : Option Nat} (h : w.ownsRow base e size v n xs) (hg : w.grownBy w' row) (hne : ∀ k, row = some k → k < base) : w'.ownsRow base e size v n xs :=
  h.kept hg (by
    cases hv : v.ownBlock with
    | none => exact .inl rfl
    | some g => exact .inr (fun he => by have h1 := (h.lt g hv).1; have h2 := hne g he.symm; omega))
theorem own_mono {w : World} {b b' n : Nat} {e : TypeId} {size : Nat} {v : Value} {xs : List Value} (h : w.ownsRow b e size v n xs) (hb : b' ≤ b) : w.ownsRow b' e size v n xs := by
  refine ⟨h.1, ?_⟩
  rcases h.2 with h | ⟨g, cap, cur, h1, h2, h3⟩
  · exact .inl h
  · exact .inr ⟨g, cap, cur, h1, by omega, h3⟩
/-- A literal's row. -/
theorem rd_lit {α : Type} (E : Enc α) (w : World) (t : TypeId) (xs : List α) (h : xs.length ≤ 9223372036854775807) : Rd E (w.alloc (.cells (flat E xs).toArray t)) (some ⟨w.heap.size, 0, none⟩) xs.length xs := by
  have ho := World.ownsRow_lit (base := w.heap.size) (e := t) (size := E.sz) w (flat E xs).toArray xs.length (Nat.le_refl _) (by simpa [maxLen] using h) (by simp [flat_len])
  obtain ⟨A, c, he, hr, _, _⟩ := own_open (E := E) rfl (by simpa using ho)
  injection he with h1 h2 h3
  rw [h1]; exact hr
theorem rd_alloc {α : Type} {E : Enc α} {w : World} {A : Option Addr} {n : Nat} {xs : List α} (h : Rd E w A n xs) (o : Obj) : Rd E (w.alloc o) A n xs := h.gb (World.grownBy_alloc w o none)
theorem ne_of_ge {A : Option Addr} {b g : Nat} (h : ∀ ad, A = some ad → b ≤ ad.block) (hg : g < b) : ∀ ad, A = some ad → some ad.block ≠ some g := fun ad ha e => by
  have := h ad ha
  injection e with e
  omega

/-! ### append to a row of one's own -/
section
variable {P : Program} {ops : Array Oper} {rest : List Oper} {o : Oper} {a : Act} {Q : Exit → Act → World → Prop}
theorem wp_app {α : Type} (E : Enc α) {w : World} {K : Act → World → Prop} (base : Nat) (s x : Operand) (t e : TypeId) (z : Value) (bytes : Nat)
    (ho : o.op = .call { callee := .builtin .append, args := #[s, x], argTypes := #[t, t] })
    (ht : P.underlying t = some (.slice e)) (hinfo : (P.info? e).map (fun i => (i.zero, i.size, i.bytes)) = some (some z, E.sz, bytes)) (hz : z.cells.size = E.sz) (hb0 : 0 < bytes)
    (v : Value) (n : Nat) (xs ys : List α) (A : Option Addr) (m c : Nat) (hs : a.eval s = v) (hx : a.eval x = .slice A m c) (hn : xs.length = n)
    (HO : w.ownsRow base e E.sz v n (flat E xs)) (HR : Rd E w A m ys) (hbase : base ≤ w.heap.size) (hl : (n + m) * bytes ≤ 140737488355328)
    (h : ∀ v1 w1, w1.ownsRow base e E.sz v1 (n + m) (flat E (xs ++ ys)) → w.grownBy w1 v.ownBlock → (v1 = .slice none 0 0 ↔ v = .slice none 0 0 ∧ m = 0) → K (a.put o.dst v1) w1) : o.wp P a w K Q := by
  obtain ⟨i0, hi, hz0, hz1, hz2⟩ := info_parts hinfo
  have hlen : n + m ≤ 140737488355328 := Nat.le_trans (Nat.le_mul_of_pos_right _ hb0) hl
  by_cases hA : ∃ ad, A = some ad
  · obtain ⟨ad, rfl⟩ := hA
    refine wp_append_own w s x t ho base e i0 z E.sz bytes ht hi hz0 hz1 hz2 hz E.pos v n (flat E xs) hs HO ad m c (flat E ys) hx (by rw [flat_len, HR.1]) ?_ (flat_oneCell E ys) (by simp only [maxLen]; omega) hl hbase ?_
    · intro j u hu
      rcases Nat.eq_zero_or_pos m with h0 | h0
      · obtain rfl : ys = [] := List.eq_nil_of_length_eq_zero (HR.1.trans h0)
        simp [flat_nil] at hu
      · obtain ⟨ad', e', hc⟩ := HR.2.2 h0
        injection e' with e'
        subst e'
        exact hc j u hu
    · intro v1 w1 h1 h2 h3
      exact h v1 w1 (by rw [flat_append]; exact h1) h2 h3
  · have hA' : A = none := by cases A with | none => rfl | some ad => exact absurd ⟨ad, rfl⟩ hA
    subst hA'
    have h0 : m = 0 := by
      rcases Nat.eq_zero_or_pos m with h0 | h0
      · exact h0
      · obtain ⟨ad, h, _⟩ := HR.2.2 h0
        cases h
    subst h0
    obtain rfl : ys = [] := List.eq_nil_of_length_eq_zero HR.1
    have hrun : (Builtin.append_ #[t, t] o.type #[v, .slice none 0 c]).run P w = .ok v w := by
      rcases HO.2 with ⟨rfl, hn0⟩ | ⟨g, cap, cur, rfl, _, _, hnc, _⟩
      · simp [Builtin.append_, run_underlying ht, sizeOf, typeInfo, hi, Builtin.lenOf, Builtin.firstCells]
      · simp [Builtin.append_, run_underlying ht, sizeOf, typeInfo, hi, Builtin.lenOf, Builtin.firstCells, hnc, storeCells]
    unfold Oper.wp execOp
    simp only [ho, resolve, invoke, builtin, Sem.run_bind, Sem.run_pure, Result.andThen_ok, List.map_toArray, List.map_cons, List.map_nil, hs, hx, hrun]
    exact h v w (by simpa using HO) (gb_refl _ _) (by simp)
theorem app {α : Type} (E : Enc α) {w : World} (base : Nat) (hgd : o.guard = none) (s x : Operand) (t e : TypeId) (z : Value) (bytes : Nat)
    (ho : o.op = .call { callee := .builtin .append, args := #[s, x], argTypes := #[t, t] })
    (ht : P.underlying t = some (.slice e)) (hinfo : (P.info? e).map (fun i => (i.zero, i.size, i.bytes)) = some (some z, E.sz, bytes)) (hz : z.cells.size = E.sz) (hb0 : 0 < bytes)
    (v : Value) (n : Nat) (xs ys : List α) (A : Option Addr) (m c : Nat) (hs : a.eval s = v) (hx : a.eval x = .slice A m c) (hn : xs.length = n)
    (HO : w.ownsRow base e E.sz v n (flat E xs)) (HR : Rd E w A m ys) (hbase : base ≤ w.heap.size) (hl : (n + m) * bytes ≤ 140737488355328)
    (h : ∀ v1 w1, w1.ownsRow base e E.sz v1 (n + m) (flat E (xs ++ ys)) → w.grownBy w1 v.ownBlock → (v1 = .slice none 0 0 ↔ v = .slice none 0 0 ∧ m = 0) → wpList P ops Q rest (a.put o.dst v1) w1) : wpList P ops Q (o :: rest) a w :=
  wpList_plain hgd fun K hK => wp_app E base s x t e z bytes ho ht hinfo hz hb0 v n xs ys A m c hs hx hn HO HR hbase hl fun v1 w1 h1 h2 h3 => hK _ _ (h v1 w1 h1 h2 h3)
theorem app_step {α : Type} (E : Enc α) {w : World} {K : Act → World → Prop} {E' : Prop} (hw : Region.wanted o (yielded ops a.tmps) = true) {N : Option Tmp} (hN : o.dst = N) (base : Nat) (s x : Operand) (t e : TypeId) (z : Value) (bytes : Nat)
    (ho : o.op = .call { callee := .builtin .append, args := #[s, x], argTypes := #[t, t] })
    (ht : P.underlying t = some (.slice e)) (hinfo : (P.info? e).map (fun i => (i.zero, i.size, i.bytes)) = some (some z, E.sz, bytes)) (hz : z.cells.size = E.sz) (hb0 : 0 < bytes)
    (v : Value) (n : Nat) (xs ys : List α) (A : Option Addr) (m c : Nat) (hs : a.eval s = v) (hx : a.eval x = .slice A m c) (hn : xs.length = n)
    (HO : w.ownsRow base e E.sz v n (flat E xs)) (HR : Rd E w A m ys) (hbase : base ≤ w.heap.size) (hl : (n + m) * bytes ≤ 140737488355328)
    (h : ∀ v1 w1, w1.ownsRow base e E.sz v1 (n + m) (flat E (xs ++ ys)) → w.grownBy w1 v.ownBlock → (v1 = .slice none 0 0 ↔ v = .slice none 0 0 ∧ m = 0) → K (a.put N v1) w1) :
    if Region.wanted o (yielded ops a.tmps) = true then Oper.wp P o a w K Q else E' := by
  rw [if_pos hw]
  subst hN
  exact wp_app E base s x t e z bytes ho ht hinfo hz hb0 v n xs ys A m c hs hx hn HO HR hbase hl h
end
/-- Whole numbers. -/
def Ei (k : IntKind) : Enc Int := ⟨1, fun x => [.int k x], fun _ => rfl, fun _ v hv => by simp at hv; subst hv; rfl, by decide⟩
theorem flat_nums (k : IntKind) (xs : List Int) : flat (Ei k) xs = nums k xs := by
  induction xs with
  | nil => rfl
  | cons x r ih => rw [flat_cons, ih]; simp [nums, Ei]
theorem rd_ints {w : World} {k : IntKind} {A : Option Addr} {n : Nat} {xs : List Int} (h : ReadsInt w k A n xs) : Rd (Ei k) w A n xs :=
  ⟨h.1, h.2.1, fun hn => by
    obtain ⟨ad, e, hc⟩ := h.2.2 hn
    refine ⟨ad, e, fun i v hv => ?_⟩
    rw [flat_nums] at hv
    have hi : i < xs.length := by
      rcases Nat.lt_or_ge i xs.length with hi | hi
      · exact hi
      · rw [List.getElem?_eq_none (by simpa [nums] using hi)] at hv; cases hv
    have := hc i (by rw [← h.1]; exact hi)
    rw [this]
    simp [nums, List.getElem?_eq_getElem hi] at hv
    subst hv
    simp [List.getD_eq_getElem?_getD, List.getElem?_eq_getElem hi]⟩
/-- The whole number at j. -/
theorem Rd.int {w : World} {k : IntKind} {A : Option Addr} {n : Nat} {xs : List Int} (h : Rd (Ei k) w A n xs) (j : Nat) (hj : j < n) : ∃ ad, A = some ad ∧ w.cell? (ad.add j) = some (.int k (rd xs (j : Int))) := by
  obtain ⟨ad, x, e, hx, hc⟩ := h.at_ j hj
  refine ⟨ad, e, ?_⟩
  have := hc 0 _ rfl
  rw [show j * (Ei k).sz + 0 = j by simp [Ei]] at this
  rw [this]
  have : rd xs (j : Int) = x := by simp [rd, List.getD_eq_getElem?_getD, hx]
  rw [this]
end Go.Proofs.YtbhijfbjdbjpbaaDoor.H
namespace Go.Proofs.YtbhijfbjdbjpbaaDoor.H
open Go.RowKit Go.Proofs.YtbhijfbjdbjpbaaDoorW.PrintWords
set_option linter.unusedVariables false
set_option linter.unusedSimpArgs false

/-- What was there at w stands at w', but for the blocks of F. -/
structure Tn (w w' : World) (F : Nat → Prop) : Prop where
  os : w'.os = w.os
  tape : w'.tape = w.tape
  output : w'.output = w.output
  size : w.heap.size ≤ w'.heap.size
  block : ∀ k, k < w.heap.size → ¬ F k → w'.heap[k]? = w.heap[k]?
theorem Tn.refl (w : World) (F : Nat → Prop) : Tn w w F := ⟨rfl, rfl, rfl, Nat.le_refl _, fun _ _ _ => rfl⟩
theorem Tn.of_gb {w w' : World} {row : Option Nat} {F : Nat → Prop} (h : w.grownBy w' row) (hF : ∀ k, row = some k → F k) : Tn w w' F :=
  ⟨h.os, h.tape, h.output, h.size, fun k hk hn => h.block k hk (fun e => hn (hF k e.symm))⟩
theorem Tn.gb0 {w w' : World} (h : w.grownBy w' none) (F : Nat → Prop) : Tn w w' F := Tn.of_gb h (by simp)
theorem Tn.of_below {w w' : World} (h : Below w.heap.size w w') (F : Nat → Prop) : Tn w w' F :=
  ⟨h.os, h.tape, h.output, h.size, fun k hk _ => h.block k hk⟩
theorem Tn.trans {w w1 w2 : World} {F G : Nat → Prop} (h : Tn w w1 F) (k : Tn w1 w2 G) (hG : ∀ i, i < w.heap.size → G i → F i) : Tn w w2 F :=
  ⟨k.os.trans h.os, k.tape.trans h.tape, k.output.trans h.output, Nat.le_trans h.size k.size, fun i hi hn =>
    (k.block i (Nat.lt_of_lt_of_le hi h.size) (fun g => hn (hG i hi g))).trans (h.block i hi hn)⟩
theorem Tn.trans' {w w1 w2 : World} {F : Nat → Prop} (h : Tn w w1 F) (k : Tn w1 w2 F) : Tn w w2 F := h.trans k (fun _ _ h => h)
theorem Tn.mono {w w1 : World} {F G : Nat → Prop} (h : Tn w w1 F) (hG : ∀ i, i < w.heap.size → F i → G i) : Tn w w1 G :=
  ⟨h.os, h.tape, h.output, h.size, fun i hi hn => h.block i hi (fun f => hn (hG i hi f))⟩
theorem Tn.below {w w1 : World} {F : Nat → Prop} {B : Nat} (h : Tn w w1 F) (hB : B ≤ w.heap.size) (hF : ∀ i, F i → B ≤ i) : Below B w w1 :=
  ⟨h.os, h.tape, h.output, h.size, fun i hi => h.block i (by omega) (fun f => by have := hF i f; omega)⟩
theorem Tn.set {w : World} (g o : Nat) (v : Value) {F : Nat → Prop} (hF : F g) : Tn w (w.setCell ⟨g, o, none⟩ v) F :=
  Tn.of_gb (gb_setCell w g o v) (fun k hk => by cases hk; exact hF)
theorem Tn.drew (w : World) (F : Nat → Prop) : Tn w w.drew F := Tn.gb0 (gb_drew w none) F
theorem Tn.drewN (w : World) (n : Nat) (F : Nat → Prop) : Tn w (w.drewN n) F := Tn.gb0 (gb_drewN w n none) F
theorem Tn.alloc (w : World) (o : Obj) (F : Nat → Prop) : Tn w (w.alloc o) F := Tn.gb0 (World.grownBy_alloc w o none) F
theorem blk_tn {w w' : World} {F : Nat → Prop} {g : Nat} {o : Obj} (h : w.heap[g]? = some o) (hg : Tn w w' F) (hne : ¬ F g) : w'.heap[g]? = some o := by
  rw [hg.block g (blk_lt' h) hne]; exact h
theorem cell_tn {w w' : World} {F : Nat → Prop} {a : Addr} {v : Value} (h : w.cell? a = some v) (hg : Tn w w' F) (hne : ¬ F a.block) : w'.cell? a = some v :=
  (World.cell?_of_block (hg.block a.block (World.block_lt_of_cell? w a h) hne)).trans h
theorem own_tn {w w' : World} {F : Nat → Prop} {base n : Nat} {e : TypeId} {size : Nat} {v : Value} {xs : List Value} (h : w.ownsRow base e size v n xs) (hg : Tn w w' F) (hne : ∀ k, v.ownBlock = some k → ¬ F k) : w'.ownsRow base e size v n xs := by
  refine ⟨h.1, ?_⟩
  rcases h.2 with hn | ⟨g, cap, cur, rfl, hb, hgg, rest⟩
  · exact .inl hn
  · exact .inr ⟨g, cap, cur, rfl, hb, blk_tn hgg hg (hne g rfl), rest⟩
theorem Rd.tn {α : Type} {E : Enc α} {w w' : World} {A : Option Addr} {n : Nat} {xs : List α} {F : Nat → Prop} (h : Rd E w A n xs) (hg : Tn w w' F) (hne : ∀ ad, A = some ad → 0 < n → ¬ F ad.block) : Rd E w' A n xs :=
  ⟨h.1, h.2.1, fun hn => by
    obtain ⟨ad, e, hc⟩ := h.2.2 hn
    exact ⟨ad, e, fun i v hv => cell_tn (hc i v hv) hg (by rw [add_block]; exact hne ad e hn)⟩⟩
/-- Cells of a block that is known whole. -/
theorem cell_of {w : World} {g : Nat} {cs : Array Value} {t : TypeId} {fr : Nat × Nat} {j : Nat} {v : Value} (h : w.heap[g]? = some (.cells cs t fr)) (hj : cs[j]? = some v) : w.cell? ⟨g, j, none⟩ = some v := by
  simp [World.cell?, h, hj]
theorem frozen_of {w : World} {g : Nat} {cs : Array Value} {t : TypeId} {j : Nat} (h : w.heap[g]? = some (.cells cs t (0, 0))) : w.frozen? ⟨g, j, none⟩ = false := by
  simp [World.frozen?, h]
theorem blk_set {w : World} {g : Nat} {cs : Array Value} {t : TypeId} {fr : Nat × Nat} (j : Nat) (v : Value) (h : w.heap[g]? = some (.cells cs t fr)) : (w.setCell ⟨g, j, none⟩ v).heap[g]? = some (.cells (cs.setIfInBounds j v) t fr) := by
  simp [World.setCell, Array.getElem?_modify, h]
theorem own_form {w : World} {base n : Nat} {e : TypeId} {size : Nat} {A : Option Addr} {c : Nat} {xs : List Value} (h : w.ownsRow base e size (.slice A n c) n xs) : n ≤ c ∧ ∀ ad, A = some ad → ad = ⟨ad.block, 0, none⟩ := by
  rcases h.2 with ⟨he, h0⟩ | ⟨g, cap, cur, he, _, _, h1, _⟩
  · injection he with h1 h2 h3; subst h1 h3; exact ⟨by omega, by simp⟩
  · injection he with h2 h3 h4; subst h2 h4; exact ⟨h1, fun ad e => by cases e; rfl⟩
theorem own_rd {α : Type} {E : Enc α} {w : World} {base n c : Nat} {e : TypeId} {A : Option Addr} {xs : List α} (hl : xs.length = n) (h : w.ownsRow base e E.sz (.slice A n c) n (flat E xs)) : Rd E w A n xs := by
  obtain ⟨A', c', he, hr, _, _⟩ := own_open hl h
  injection he with h1 h2 h3
  subst h1; exact hr
/-- A row's cell, as the walk meets it. -/
theorem own_cell {α : Type} {E : Enc α} {w : World} {base n c : Nat} {e : TypeId} {g : Nat} {xs : List α} (h : w.ownsRow base e E.sz (.slice (some ⟨g, 0, none⟩) n c) n (flat E xs)) (j i : Nat) (x : α) (hx : xs[j]? = some x) (hi : i < E.sz) (v : Value) (hv : (E.enc x)[i]? = some v) : w.cell? ⟨g, j * E.sz + i, none⟩ = some v := by
  have hl : j < xs.length := (List.getElem?_eq_some_iff.1 hx).1
  have h2 : j * E.sz + i < (flat E xs).length := by
    rw [flat_len]
    calc j * E.sz + i < j * E.sz + E.sz := by omega
      _ = (j + 1) * E.sz := by rw [Nat.add_mul]; omega
      _ ≤ xs.length * E.sz := Nat.mul_le_mul_right _ hl
  have h3 := flat_at E xs j i x hx hi
  rw [hv] at h3
  have h4 := h.cells (g := g) rfl _ v h3
  unfold Addr.add at h4
  split at h4
  · rename_i e0; rw [e0]; exact h4
  · simpa using h4
theorem flat_set' {α : Type} (E : Enc α) : ∀ (xs : List α) (j i : Nat) (x y : α) (v : Value), xs[j]? = some x → i < E.sz → (E.enc x).set i v = E.enc y → (flat E xs).set (j * E.sz + i) v = flat E (xs.set j y)
  | [], j, i, x, y, v, h, _, _ => by simp at h
  | z :: r, 0, i, x, y, v, h, hi, he => by
    have : z = x := by simpa using h
    subst this
    rw [flat_cons, Nat.zero_mul, Nat.zero_add, List.set_append_left _ _ (by rw [E.len]; exact hi), he, List.set_cons_zero, flat_cons]
  | z :: r, j + 1, i, x, y, v, h, hi, he => by
    have h' : r[j]? = some x := by simpa using h
    rw [flat_cons, List.set_append_right _ _ (by rw [E.len, Nat.add_mul]; omega), List.set_cons_succ, flat_cons, ← flat_set' E r j i x y v h' hi he]
    congr 2
    rw [E.len, Nat.add_mul]; omega
/-- A store into a row of one's own. -/
theorem own_put {α : Type} {E : Enc α} {w : World} {base n c : Nat} {e : TypeId} {g : Nat} {xs : List α} (h : w.ownsRow base e E.sz (.slice (some ⟨g, 0, none⟩) n c) n (flat E xs)) (j i : Nat) (x y : α) (v : Value) (hx : xs[j]? = some x) (hi : i < E.sz) (he : (E.enc x).set i v = E.enc y) :
    (w.setCell ⟨g, j * E.sz + i, none⟩ v).ownsRow base e E.sz (.slice (some ⟨g, 0, none⟩) n c) n (flat E (xs.set j y)) := by
  have := (h.stored (j * E.sz + i) v).1
  rwa [flat_set' E xs j i x y v hx hi he] at this
theorem own_frozen {w : World} {base n c : Nat} {e : TypeId} {size : Nat} {g : Nat} {xs : List Value} (h : w.ownsRow base e size (.slice (some ⟨g, 0, none⟩) n c) n xs) (j : Nat) : w.frozen? ⟨g, j, none⟩ = false := h.frozenAt j
/-- append to a row of one's own, where the row lies told too. -/
theorem app_at {P : Program} {ops : Array Oper} {rest : List Oper} {o : Oper} {a : Act} {Q : Exit → Act → World → Prop} {α : Type} (E : Enc α) {w : World} (base : Nat) (hgd : o.guard = none) (s x : Operand) (t e : TypeId) (z : Value) (bytes : Nat)
    (ho : o.op = .call { callee := .builtin .append, args := #[s, x], argTypes := #[t, t] })
    (ht : P.underlying t = some (.slice e)) (hinfo : (P.info? e).map (fun i => (i.zero, i.size, i.bytes)) = some (some z, E.sz, bytes)) (hz : z.cells.size = E.sz) (hb0 : 0 < bytes)
    (v : Value) (n : Nat) (xs ys : List α) (ad : Addr) (m c : Nat) (hs : a.eval s = v) (hx : a.eval x = .slice (some ad) m c)
    (HO : w.ownsRow base e E.sz v n (flat E xs)) (HR : Rd E w (some ad) m ys) (hbase : base ≤ w.heap.size) (hl : (n + m) * bytes ≤ 140737488355328)
    (h : ∀ v1 w1, w1.ownsRow base e E.sz v1 (n + m) (flat E (xs ++ ys)) → w.grownBy w1 v.ownBlock → (v1.ownBlock = v.ownBlock ∨ v1.ownBlock = some w.heap.size) → wpList P ops Q rest (a.put o.dst v1) w1) : wpList P ops Q (o :: rest) a w := by
  obtain ⟨i0, hi, hz0, hz1, hz2⟩ := info_parts hinfo
  have hlen : n + m ≤ 140737488355328 := Nat.le_trans (Nat.le_mul_of_pos_right _ hb0) hl
  obtain ⟨v1, w1, hr, h2, h3, _, h5⟩ := run_append_own_at (P := P) w base t o.type e i0 z E.sz bytes ht hi hz0 hz1 hz2 hz E.pos v n (flat E xs) HO ad m c (flat E ys) (by rw [flat_len, HR.1])
    (fun j u hu => by
      rcases Nat.eq_zero_or_pos m with h0 | h0
      · obtain rfl : ys = [] := List.eq_nil_of_length_eq_zero (HR.1.trans h0)
        simp [flat_nil] at hu
      · obtain ⟨ad', e', hc⟩ := HR.2.2 h0
        injection e' with e'
        subst e'
        exact hc j u hu) (flat_oneCell E ys) (by simp only [maxLen]; omega) hl hbase
  refine wpList_plain hgd fun K hK => ?_
  unfold Oper.wp execOp
  simp only [ho, resolve, invoke, builtin, Sem.run_bind, Sem.run_pure, Result.andThen_ok, List.map_toArray, List.map_cons, List.map_nil, hs, hx, hr]
  exact hK _ _ (h v1 w1 (by rw [flat_append]; exact h2) h3 h5)
end Go.Proofs.YtbhijfbjdbjpbaaDoor.H
namespace Go.Proofs.YtbhijfbjdbjpbaaDoor.T
open Go.RowKit Go.Proofs.YtbhijfbjdbjpbaaDoorW.PrintWords Go.Proofs.YtbhijfbjdbjpbaaDoorW.PrintLast Go.Proofs.YtbhijfbjdbjpbaaDoor.H
set_option linter.unusedVariables false
set_option linter.unusedSimpArgs false
structure Acc where
  nm : ByteArray
  par : Int
  sh : Int
  cl : Bool
  us : Int
def accV (a : Acc) : Array Value := #[.string a.nm, .int .i64 a.par, .int .i64 a.sh, .bool a.cl, .int .u64 a.us]
def Ec : Enc Acc := ⟨5, fun a => [.string a.nm, .int .i64 a.par, .int .i64 a.sh, .bool a.cl, .int .u64 a.us], fun _ => rfl, fun _ v hv => by simp at hv; rcases hv with rfl | rfl | rfl | rfl | rfl <;> rfl, by decide⟩
def chI (c : Int) : Bool := (decide (97 ≤ c) && decide (c ≤ 122)) || (decide (65 ≤ c) && decide (c ≤ 90)) || (decide (48 ≤ c) && decide (c ≤ 57)) || decide (c = 45) || decide (c = 95)
def nameB (s : ByteArray) : Bool := (bytesOf s).all chI && (decide (1 ≤ s.size) && decide (s.size ≤ 32))
def shB (n : Int) : Bool := decide (1 ≤ n) && decide (n ≤ 4096)
theorem drop_rd_ {xs : List Int} {j : Nat} (h : j < xs.length) : xs.drop j = rd xs (j : Int) :: xs.drop (j + 1) := by
  rw [List.drop_eq_getElem_cons h]; simp [rd, List.getD_eq_getElem?_getD, List.getElem?_eq_getElem h]
set_option maxHeartbeats 8000000 in
set_option maxRecDepth 100000 in
theorem name_calls (w : World) (s : ByteArray) (hs : s.size ≤ 9223372036854775807) :
    Calls Tryd.prog 58 #[.string s] w fun e w' => e = .returned (.bool (nameB s)) ∧ w.grownBy w' none := by
  have hcv := Lib.run_convert_string_bytes (P := Tryd.prog) w 9 115 5 s (u := .string) Tryd.underlying9 Tryd.underlying115 Tryd.underlying5
  have HR := Aside0.mk (rd_ints (bytes_reads w 5 s hs))
  have HG := Aside0.mk (gb_of_below (bytes_below (Below.refl w.heap.size w) (Nat.le_refl _) 5 s) none)
  have HL := Aside0.mk (bytes_reads w 5 s hs).1
  go_enter Tryd.func58, Tryd.ntmps58
  go_wp2_with fail
  clear hcv
  generalize grownCap w s.size 0 5 = cp
  generalize Lib.bytesWorld w 5 s = w1 at HR HG ⊢
  obtain ⟨xs, hxs⟩ : ∃ xs, xs = bytesOf s := ⟨_, rfl⟩
  have HXS := Aside0.mk hxs
  rw [← hxs] at HR HL
  clear hxs
  go_loopg [9] s.size (fun k v9 wr => ∃ (j : Nat), v9 = .int .i64 j ∧ Aside0 (j + k = s.size) ∧ j ≤ s.size ∧ Aside0 ((xs.drop j).all chI = xs.all chI) ∧ w1 = wr)
  case atStart => exact ⟨0, rfl, ⟨by omega⟩, by omega, ⟨rfl⟩, rfl⟩
  case round =>
    obtain ⟨j, rfl, HD, hj, HE, rfl⟩ := hrel
    have HB := HG
    cases gk with
    | zero =>
      obtain rfl : j = s.size := by have := HD.out; omega
      have HA := Aside0.mk (show xs.all chI = true by rw [← HE.out, List.drop_of_length_le (by rw [HL.out]; exact Nat.le_refl _)]; rfl)
      have HF : Aside0 (nameB s = (decide (1 ≤ s.size) && decide (s.size ≤ 32))) := ⟨by unfold nameB; rw [← HXS.out, HA.out, Bool.true_and]⟩
      by_cases h1 : 1 ≤ s.size
      · have b1 : decide (1 ≤ s.size) = true := decide_eq_true h1
        have b2 : decide ((1 : Int) ≤ (s.size : Int)) = true := decide_eq_true (by omega)
        by_cases h2 : s.size ≤ 32
        · have b3 : decide (s.size ≤ 32) = true := decide_eq_true h2
          have b4 : decide ((s.size : Int) ≤ 32) = true := decide_eq_true (by omega)
          rw [b1, b3] at HF
          clear h1 h2
          go_wp2
          go_ret
          exact ⟨by rw [HF.out]; rfl, HG.out⟩
        · have b3 : decide (s.size ≤ 32) = false := decide_eq_false h2
          have b4 : decide ((s.size : Int) ≤ 32) = false := decide_eq_false (by omega)
          rw [b1, b3] at HF
          clear h1 h2
          go_wp2
          go_ret
          exact ⟨by rw [HF.out]; rfl, HG.out⟩
      · have b1 : decide (1 ≤ s.size) = false := decide_eq_false h1
        have b2 : decide ((1 : Int) ≤ (s.size : Int)) = false := decide_eq_false (by omega)
        rw [b1] at HF
        clear h1
        go_wp2
        go_ret
        exact ⟨by rw [HF.out]; rfl, HG.out⟩
    | succ d =>
      have hlt : j < s.size := by have := HD.out; omega
      have hjl : j < xs.length := by rw [HL.out]; exact hlt
      have hlt1 : decide ((j : Int) < s.size) = true := decide_eq_true (by omega)
      have hlt2 : (j : Int) < (s.size : Int) := by omega
      obtain ⟨ad, e, hcj⟩ := HR.out.int j hlt
      obtain rfl := Option.some.inj e
      obtain ⟨c, hc0⟩ : ∃ c, c = rd xs (j : Int) := ⟨_, rfl⟩
      have HX := Aside0.mk hc0
      rw [← hc0, add_plain] at hcj
      have HRc := Aside0.mk (show chI c = chI c from rfl)
      clear e hc0
      rcases (show c < 45 ∨ c = 45 ∨ (c = 46 ∨ c = 47) ∨ (48 ≤ c ∧ c ≤ 57) ∨ (58 ≤ c ∧ c ≤ 64) ∨ (65 ≤ c ∧ c ≤ 90) ∨ (91 ≤ c ∧ c ≤ 94) ∨ c = 95 ∨ c = 96 ∨ (97 ≤ c ∧ c ≤ 122) ∨ 122 < c by omega) with hc | hc | hc | hc | hc | hc | hc | hc | hc | hc | hc
      · have b1 : decide (97 ≤ c) = false := decide_eq_false (by omega)
        have b2 : decide (c ≤ 122) = true := decide_eq_true (by omega)
        have b3 : decide (65 ≤ c) = false := decide_eq_false (by omega)
        have b4 : decide (c ≤ 90) = true := decide_eq_true (by omega)
        have b5 : decide (c < 48) = true := decide_eq_true (by omega)
        have b6 : decide (57 < c) = false := decide_eq_false (by omega)
        have b7 : (c != 45) = true := by simp; omega
        have b8 : (c != 95) = true := by simp; omega
        have HCc := Aside0.mk (show chI c = false by unfold chI; simp only [b1, b2, b3, b4]; first | (simp; done) | (simp; omega))
        clear hc
        go_wp2
        go_ret
        exact ⟨by unfold nameB; rw [← HXS.out, ← HE.out, drop_rd_ hjl, List.all_cons, ← HX.out, HCc.out]; rfl, HB.out⟩
      · have b1 : decide (97 ≤ c) = false := decide_eq_false (by omega)
        have b2 : decide (c ≤ 122) = true := decide_eq_true (by omega)
        have b3 : decide (65 ≤ c) = false := decide_eq_false (by omega)
        have b4 : decide (c ≤ 90) = true := decide_eq_true (by omega)
        have b5 : decide (c < 48) = true := decide_eq_true (by omega)
        have b6 : decide (57 < c) = false := decide_eq_false (by omega)
        have b7 : (c != 45) = false := by simp; omega
        have b8 : (c != 95) = true := by simp; omega
        have HCc := Aside0.mk (show chI c = true by unfold chI; simp only [b1, b2, b3, b4]; first | (simp; done) | (simp; omega))
        clear hc
        go_wp2
        go_roundg d
        case measure => omega
        case rel => exact ⟨j + 1, by go_num, ⟨by have := HD.out; omega⟩, by omega, ⟨by rw [← HE.out, drop_rd_ hjl, List.all_cons, ← HX.out, HCc.out]; rfl⟩, rfl⟩
      · have b1 : decide (97 ≤ c) = false := decide_eq_false (by omega)
        have b2 : decide (c ≤ 122) = true := decide_eq_true (by omega)
        have b3 : decide (65 ≤ c) = false := decide_eq_false (by omega)
        have b4 : decide (c ≤ 90) = true := decide_eq_true (by omega)
        have b5 : decide (c < 48) = true := decide_eq_true (by omega)
        have b6 : decide (57 < c) = false := decide_eq_false (by omega)
        have b7 : (c != 45) = true := by simp; omega
        have b8 : (c != 95) = true := by simp; omega
        have HCc := Aside0.mk (show chI c = false by unfold chI; simp only [b1, b2, b3, b4]; first | (simp; done) | (simp; omega))
        clear hc
        go_wp2
        go_ret
        exact ⟨by unfold nameB; rw [← HXS.out, ← HE.out, drop_rd_ hjl, List.all_cons, ← HX.out, HCc.out]; rfl, HB.out⟩
      · have b1 : decide (97 ≤ c) = false := decide_eq_false (by omega)
        have b2 : decide (c ≤ 122) = true := decide_eq_true (by omega)
        have b3 : decide (65 ≤ c) = false := decide_eq_false (by omega)
        have b4 : decide (c ≤ 90) = true := decide_eq_true (by omega)
        have b5 : decide (c < 48) = false := decide_eq_false (by omega)
        have b6 : decide (57 < c) = false := decide_eq_false (by omega)
        have b7 : (c != 45) = true := by simp; omega
        have b8 : (c != 95) = true := by simp; omega
        have HCc := Aside0.mk (show chI c = true by unfold chI; simp only [b1, b2, b3, b4]; first | (simp; done) | (simp; omega))
        clear hc
        go_wp2
        go_roundg d
        case measure => omega
        case rel => exact ⟨j + 1, by go_num, ⟨by have := HD.out; omega⟩, by omega, ⟨by rw [← HE.out, drop_rd_ hjl, List.all_cons, ← HX.out, HCc.out]; rfl⟩, rfl⟩
      · have b1 : decide (97 ≤ c) = false := decide_eq_false (by omega)
        have b2 : decide (c ≤ 122) = true := decide_eq_true (by omega)
        have b3 : decide (65 ≤ c) = false := decide_eq_false (by omega)
        have b4 : decide (c ≤ 90) = true := decide_eq_true (by omega)
        have b5 : decide (c < 48) = false := decide_eq_false (by omega)
        have b6 : decide (57 < c) = true := decide_eq_true (by omega)
        have b7 : (c != 45) = true := by simp; omega
        have b8 : (c != 95) = true := by simp; omega
        have HCc := Aside0.mk (show chI c = false by unfold chI; simp only [b1, b2, b3, b4]; first | (simp; done) | (simp; omega))
        clear hc
        go_wp2
        go_ret
        exact ⟨by unfold nameB; rw [← HXS.out, ← HE.out, drop_rd_ hjl, List.all_cons, ← HX.out, HCc.out]; rfl, HB.out⟩
      · have b1 : decide (97 ≤ c) = false := decide_eq_false (by omega)
        have b2 : decide (c ≤ 122) = true := decide_eq_true (by omega)
        have b3 : decide (65 ≤ c) = true := decide_eq_true (by omega)
        have b4 : decide (c ≤ 90) = true := decide_eq_true (by omega)
        have b5 : decide (c < 48) = false := decide_eq_false (by omega)
        have b6 : decide (57 < c) = true := decide_eq_true (by omega)
        have b7 : (c != 45) = true := by simp; omega
        have b8 : (c != 95) = true := by simp; omega
        have HCc := Aside0.mk (show chI c = true by unfold chI; simp only [b1, b2, b3, b4]; first | (simp; done) | (simp; omega))
        clear hc
        go_wp2
        go_roundg d
        case measure => omega
        case rel => exact ⟨j + 1, by go_num, ⟨by have := HD.out; omega⟩, by omega, ⟨by rw [← HE.out, drop_rd_ hjl, List.all_cons, ← HX.out, HCc.out]; rfl⟩, rfl⟩
      · have b1 : decide (97 ≤ c) = false := decide_eq_false (by omega)
        have b2 : decide (c ≤ 122) = true := decide_eq_true (by omega)
        have b3 : decide (65 ≤ c) = true := decide_eq_true (by omega)
        have b4 : decide (c ≤ 90) = false := decide_eq_false (by omega)
        have b5 : decide (c < 48) = false := decide_eq_false (by omega)
        have b6 : decide (57 < c) = true := decide_eq_true (by omega)
        have b7 : (c != 45) = true := by simp; omega
        have b8 : (c != 95) = true := by simp; omega
        have HCc := Aside0.mk (show chI c = false by unfold chI; simp only [b1, b2, b3, b4]; first | (simp; done) | (simp; omega))
        clear hc
        go_wp2
        go_ret
        exact ⟨by unfold nameB; rw [← HXS.out, ← HE.out, drop_rd_ hjl, List.all_cons, ← HX.out, HCc.out]; rfl, HB.out⟩
      · have b1 : decide (97 ≤ c) = false := decide_eq_false (by omega)
        have b2 : decide (c ≤ 122) = true := decide_eq_true (by omega)
        have b3 : decide (65 ≤ c) = true := decide_eq_true (by omega)
        have b4 : decide (c ≤ 90) = false := decide_eq_false (by omega)
        have b5 : decide (c < 48) = false := decide_eq_false (by omega)
        have b6 : decide (57 < c) = true := decide_eq_true (by omega)
        have b7 : (c != 45) = true := by simp; omega
        have b8 : (c != 95) = false := by simp; omega
        have HCc := Aside0.mk (show chI c = true by unfold chI; simp only [b1, b2, b3, b4]; first | (simp; done) | (simp; omega))
        clear hc
        go_wp2
        go_roundg d
        case measure => omega
        case rel => exact ⟨j + 1, by go_num, ⟨by have := HD.out; omega⟩, by omega, ⟨by rw [← HE.out, drop_rd_ hjl, List.all_cons, ← HX.out, HCc.out]; rfl⟩, rfl⟩
      · have b1 : decide (97 ≤ c) = false := decide_eq_false (by omega)
        have b2 : decide (c ≤ 122) = true := decide_eq_true (by omega)
        have b3 : decide (65 ≤ c) = true := decide_eq_true (by omega)
        have b4 : decide (c ≤ 90) = false := decide_eq_false (by omega)
        have b5 : decide (c < 48) = false := decide_eq_false (by omega)
        have b6 : decide (57 < c) = true := decide_eq_true (by omega)
        have b7 : (c != 45) = true := by simp; omega
        have b8 : (c != 95) = true := by simp; omega
        have HCc := Aside0.mk (show chI c = false by unfold chI; simp only [b1, b2, b3, b4]; first | (simp; done) | (simp; omega))
        clear hc
        go_wp2
        go_ret
        exact ⟨by unfold nameB; rw [← HXS.out, ← HE.out, drop_rd_ hjl, List.all_cons, ← HX.out, HCc.out]; rfl, HB.out⟩
      · have b1 : decide (97 ≤ c) = true := decide_eq_true (by omega)
        have b2 : decide (c ≤ 122) = true := decide_eq_true (by omega)
        have b3 : decide (65 ≤ c) = true := decide_eq_true (by omega)
        have b4 : decide (c ≤ 90) = false := decide_eq_false (by omega)
        have b5 : decide (c < 48) = false := decide_eq_false (by omega)
        have b6 : decide (57 < c) = true := decide_eq_true (by omega)
        have b7 : (c != 45) = true := by simp; omega
        have b8 : (c != 95) = true := by simp; omega
        have HCc := Aside0.mk (show chI c = true by unfold chI; simp only [b1, b2, b3, b4]; first | (simp; done) | (simp; omega))
        clear hc
        go_wp2
        go_roundg d
        case measure => omega
        case rel => exact ⟨j + 1, by go_num, ⟨by have := HD.out; omega⟩, by omega, ⟨by rw [← HE.out, drop_rd_ hjl, List.all_cons, ← HX.out, HCc.out]; rfl⟩, rfl⟩
      · have b1 : decide (97 ≤ c) = true := decide_eq_true (by omega)
        have b2 : decide (c ≤ 122) = false := decide_eq_false (by omega)
        have b3 : decide (65 ≤ c) = true := decide_eq_true (by omega)
        have b4 : decide (c ≤ 90) = false := decide_eq_false (by omega)
        have b5 : decide (c < 48) = false := decide_eq_false (by omega)
        have b6 : decide (57 < c) = true := decide_eq_true (by omega)
        have b7 : (c != 45) = true := by simp; omega
        have b8 : (c != 95) = true := by simp; omega
        have HCc := Aside0.mk (show chI c = false by unfold chI; simp only [b1, b2, b3, b4]; first | (simp; done) | (simp; omega))
        clear hc
        go_wp2
        go_ret
        exact ⟨by unfold nameB; rw [← HXS.out, ← HE.out, drop_rd_ hjl, List.all_cons, ← HX.out, HCc.out]; rfl, HB.out⟩
set_option maxHeartbeats 8000000 in
set_option maxRecDepth 100000 in
theorem shares_calls (w : World) (n : Int) :
    Calls Tryd.prog 59 #[.int .i64 n] w fun e w' => e = .returned (.bool (shB n)) ∧ w = w' := by
  by_cases h0 : 1 ≤ n
  · have hb0 : decide (1 ≤ n) = true := decide_eq_true h0
    have HE := Aside0.mk (show shB n = decide (n ≤ 4096) by unfold shB; rw [hb0]; rfl)
    go_enter Tryd.func59, Tryd.ntmps59
    go_wp2
    go_ret
    exact ⟨by rw [HE.out]; rfl, rfl⟩
  · have hb0 : decide (1 ≤ n) = false := decide_eq_false h0
    have HE := Aside0.mk (show shB n = false by unfold shB; rw [hb0]; rfl)
    go_enter Tryd.func59, Tryd.ntmps59
    go_wp2
    go_ret
    exact ⟨by rw [HE.out]; rfl, rfl⟩
def parV (ls : List Acc) (n : Int) : Int := ((ls.map Acc.par).getD n.toNat 0)
/-- How deep; -1: it does not come to the root. -/
def depL (ls : List Acc) : Nat → Int → Int → Int
  | 0, _, _ => -1
  | k + 1, d, n => if n = 0 then d else depL ls k (d + 1) (parV ls n)
def depV (ls : List Acc) (n : Int) : Int := depL ls (ls.length + 1) 0 n
/-- Each account but the first has a parent among them. -/
def Pars (ls : List Acc) : Prop := ∀ n : Int, 0 < n → n < ls.length → 0 ≤ parV ls n ∧ parV ls n < ls.length
end Go.Proofs.YtbhijfbjdbjpbaaDoor.T
namespace Go.Proofs.YtbhijfbjdbjpbaaDoor.T
open Go.RowKit Go.Proofs.YtbhijfbjdbjpbaaDoorW.PrintWords Go.Proofs.YtbhijfbjdbjpbaaDoorW.PrintLast Go.Proofs.YtbhijfbjdbjpbaaDoor.H
set_option linter.unusedVariables false
set_option linter.unusedSimpArgs false
def rootS : ByteArray := ⟨#[114, 111, 111, 116]⟩
def rootA : Acc := ⟨rootS, -1, 1, false, 0⟩
set_option maxHeartbeats 8000000 in
set_option maxRecDepth 100000 in
theorem root_calls (w : World) : Calls Tryd.prog 56 #[] w fun e w' => e = .returned (.agg (accV rootA)) ∧ w.grownBy w' none := by
  go_enter Tryd.func56, Tryd.ntmps56
  go_wp2
  refine bodyPost_ret (results_single rfl (Vals.cell w.heap.size 37 _ (0, 0) _ rfl (heap_alloc_new w _) Tryd.underlying37 rfl (by kernel_rfl) .nil)) rfl ?_
  exact ⟨rfl, World.grownBy_alloc w _ none⟩
section
variable {w w' : World}
theorem acc_cell {w : World} {g n c : Nat} {ls : List Acc} (h : Rd Ec w (some ⟨g, 0, none⟩) n ls) {i : Nat} (hi : i < n) (hp : True) : w.cell? ⟨g, i * 5 + 1, none⟩ = some (.int .i64 (parV ls (i : Int))) := by
  obtain ⟨ad, x, e, hx, hc⟩ := h.at_ i hi
  cases e
  have := hc 1 _ rfl
  have e2 : parV ls (i : Int) = x.par := by
    unfold parV
    rw [Int.toNat_natCast, List.getD_eq_getElem?_getD, List.getElem?_map, hx]; rfl
  rw [e2]
  rwa [add_plain] at this
end
set_option maxHeartbeats 8000000 in
set_option maxRecDepth 100000 in
theorem depth_calls (w : World) (g lb : Nat) (n c : Nat) (ls : List Acc) (v : Int) (hc : w.cell? ⟨g, 0, none⟩ = some (.slice (some ⟨lb, 0, none⟩) n c)) (hr : Rd Ec w (some ⟨lb, 0, none⟩) n ls) (hn : n ≤ 64) (hp : Pars ls) (hv : 0 ≤ v ∧ v < n) :
    Calls Tryd.prog 61 #[.pointer (some ⟨g, 0, none⟩), .int .i64 v] w fun e w' => e = .returned (.int .i64 (depV ls v)) ∧ w = w' := by
  have HR := Aside0.mk hr
  have HN := Aside0.mk hr.1
  have HP := Aside0.mk hp
  have HV := Aside0.mk hv
  clear hr hp hv
  go_enter Tryd.func61, Tryd.ntmps61
  go_wp2_with fail
  go_loopg [1, 5] (n + 1) (fun k v1 v5 wr => ∃ (d : Nat) (m : Int), v1 = .int .i64 m ∧ v5 = .int .i64 d ∧ Aside0 (d + k = n + 1) ∧ d ≤ n + 1 ∧ Aside0 (0 ≤ m ∧ m < n) ∧ Aside0 (depL ls k (d : Int) m = depV ls v) ∧ w = wr)
  case atStart => exact ⟨0, v, rfl, rfl, ⟨by omega⟩, by omega, HV, ⟨by unfold depV; rw [HN.out]; rfl⟩, rfl⟩
  case round =>
    obtain ⟨d, m, rfl, rfl, HD, hd, HM, HE, rfl⟩ := hrel
    cases gk with
    | zero =>
      obtain rfl : d = n + 1 := by have := HD.out; omega
      have HF := Aside0.mk (show depV ls v = -1 from HE.out.symm)
      have hb : decide ((n : Int) + 1 ≤ (n : Int)) = false := decide_eq_false (by omega)
      go_wp2
      go_ret
      exact ⟨by rw [HF.out]; rfl, rfl⟩
    | succ k =>
      have hdn : d ≤ n := by have := HD.out; omega
      have hb : decide ((d : Int) ≤ (n : Int)) = true := decide_eq_true (by omega)
      have hb2 : decide (d ≤ n) = true := decide_eq_true hdn
      by_cases h0 : m = 0
      · have hb3 : (m == 0) = true := by simp [h0]
        have HF := Aside0.mk (show depV ls v = (d : Int) by rw [← HE.out, depL, if_pos h0])
        clear h0
        go_wp2
        go_ret
        exact ⟨by rw [HF.out]; rfl, rfl⟩
      · have hb3 : (m == 0) = false := by simp [h0]
        obtain ⟨q, hq⟩ : ∃ q : Nat, m = q := ⟨m.toNat, by have := HM.out; omega⟩
        have HF := Aside0.mk (show depL ls k ((d : Int) + 1) (parV ls m) = depV ls v by rw [← HE.out, depL, if_neg h0])
        have HM2 := Aside0.mk (show 0 ≤ parV ls m ∧ parV ls m < n from by have h1 := HP.out m (by have := HM.out; omega) (by have := HM.out; have := HN.out; omega); have := HN.out; omega)
        subst hq
        have hqn : q < n := by have := HM.out; omega
        have hqn2 : (q : Int) < (n : Int) := by omega
        have hcq := acc_cell (c := c) HR.out hqn trivial
        clear h0 HE HM
        go_wp2
        go_roundg k
        case measure => omega
        case rel => exact ⟨d + 1, _, rfl, by go_num, ⟨by have := HD.out; omega⟩, by omega, HM2, ⟨by have := HF.out; simpa using this⟩, rfl⟩
end Go.Proofs.YtbhijfbjdbjpbaaDoor.T
namespace Go.Proofs.YtbhijfbjdbjpbaaDoor.T
open Go.RowKit Go.Proofs.YtbhijfbjdbjpbaaDoorW.PrintWords Go.Proofs.YtbhijfbjdbjpbaaDoorW.PrintLast Go.Proofs.YtbhijfbjdbjpbaaDoor.H Go.Maps
set_option linter.unusedVariables false
set_option linter.unusedSimpArgs false
/-- What lies below w's end stands, but for the blocks of some labels; their labels stand too. -/
structure Lt (w : World) (f : Nat → Int) (w' : World) (f' : Nat → Int) (T : Int → Prop) : Prop where
  tn : Tn w w' (fun k => T (f k))
  lab : ∀ k, k < w.heap.size → f' k = f k
theorem Lt.trans {w w1 w2 : World} {f f1 f2 : Nat → Int} {T : Int → Prop} (h : Lt w f w1 f1 T) (k : Lt w1 f1 w2 f2 T) : Lt w f w2 f2 T :=
  ⟨h.tn.trans k.tn (fun i hi hg => by rwa [h.lab i hi] at hg), fun i hi => (k.lab i (Nat.lt_of_lt_of_le hi h.tn.size)).trans (h.lab i hi)⟩
theorem Lt.mono {w w1 : World} {f f1 : Nat → Int} {T U : Int → Prop} (h : Lt w f w1 f1 T) (hU : ∀ c, T c → U c) : Lt w f w1 f1 U :=
  ⟨h.tn.mono (fun i _ hi => hU _ hi), h.lab⟩
theorem Lt.gb {w w1 : World} {f : Nat → Int} {T : Int → Prop} (h : w.grownBy w1 none) : Lt w f w1 f T := ⟨Tn.gb0 h _, fun _ _ => rfl⟩
theorem Lt.new {w w' : World} {f : Nat → Int} {T : Int → Prop} (h : Tn w w' (fun k => T (f k))) (x : Int) : ∃ f', Lt w f w' f' T ∧ ∀ k, w.heap.size ≤ k → f' k = x :=
  ⟨fun k => if k < w.heap.size then f k else x, ⟨h, fun k hk => if_pos hk⟩, fun k hk => if_neg (by omega)⟩
theorem map_tn {H : Type} {w w' : World} {F : Nat → Prop} {P : Program} {k : TypeId} {R : Value → Option (DataW H × List MemPlace)} {b n : Nat} {D : DataW H} (h : w.ownsMap P k R b n D) (hg : Tn w w' F) (hne : ¬ F b) : w'.ownsMap P k R b n D := by
  obtain ⟨es, clock, hb, r⟩ := h
  exact ⟨es, clock, blk_tn hb hg hne, r⟩
def RK : Value → Option (DataW Value × List MemPlace) := fun v => some (.held v, [])
def NONE : DataW Value := .held (.map none)
/-- The children of all: a map of maps. -/
structure KidsOk (w : World) (f : Nat → Int) (kb n : Nat) (D : DataW Value) : Prop where
  own : w.ownsMap Tryd.prog 3 RK kb n D
  vals : ∀ kl, ∃ o, D.atKey kl NONE = .held (.map o)
  in_ : ∀ kl b, D.atKey kl NONE = .held (.map (some b)) → (∃ D' : DataW Value, w.ownsMap Tryd.prog 3 (plainElem Tryd.prog 3) b n D') ∧ f b = 5
  fk : f kb = 4
theorem KidsOk.lt {w w' : World} {f f' : Nat → Int} {kb n : Nat} {D : DataW Value} {T : Int → Prop} (h : KidsOk w f kb n D) (hl : Lt w f w' f' T) (h4 : ¬ T 4) (h5 : ¬ T 5) : KidsOk w' f' kb n D := by
  refine ⟨map_tn h.own hl.tn (by rw [h.fk]; exact h4), h.vals, fun kl b hb => ?_, by rw [hl.lab _ h.own.lt]; exact h.fk⟩
  obtain ⟨⟨D', ho⟩, hf⟩ := h.in_ kl b hb
  exact ⟨⟨D', map_tn ho hl.tn (by rw [hf]; exact h5)⟩, by rw [hl.lab _ ho.lt]; exact hf⟩
theorem KidsOk.mono {w : World} {f : Nat → Int} {kb n n' : Nat} {D : DataW Value} (h : KidsOk w f kb n D) (hn : n ≤ n') : KidsOk w f kb n' D :=
  ⟨h.own.mono hn, h.vals, fun kl b hb => by obtain ⟨⟨D', ho⟩, hf⟩ := h.in_ kl b hb; exact ⟨⟨D', ho.mono hn⟩, hf⟩, h.fk⟩
def K45 (c : Int) : Prop := c = 4 ∨ c = 5
theorem kids_look {w : World} {f : Nat → Int} {kb n : Nat} {D : DataW Value} (h : KidsOk w f kb n D) {p : Int} (hp : (Lit.int .i64 p).wf = true) :
    ∃ o, (Instr.lookup 96 (.map (some kb)) (.int .i64 p) false).run Tryd.prog w = .ok (.map o) w ∧ D.atKey (.int .i64 p) NONE = .held (.map o) := by
  obtain ⟨v, ps, hr, hv⟩ := h.own.lookup (int_keyed Tryd.underlying3) Tryd.underlying96 (z := .map none) (by kernel_rfl) (zd := NONE) (zp := []) rfl (keyOf_int_mk Tryd.underlying3 hp)
  obtain ⟨o, ho⟩ := h.vals (.int .i64 p)
  have e : DataW.held v = D.atKey (.int .i64 p) NONE := by
    have := Option.some.inj hv
    exact (Prod.mk.inj this).1
  rw [ho] at e
  injection e with e
  subst e
  exact ⟨o, hr, ho⟩
/-- What noting a child leaves. -/
def UnderI (w : World) (f : Nat → Int) (kb n : Nat) (e : Ending) (w' : World) : Prop :=
  e = .returned (.tuple #[]) ∧ ∃ (D' : DataW Value) (f' : Nat → Int), KidsOk w' f' kb (n + 2) D' ∧ Lt w f w' f' K45
set_option maxHeartbeats 8000000 in
set_option maxRecDepth 100000 in
theorem under_calls (w : World) (f : Nat → Int) (g kb n : Nat) (D : DataW Value) (p m : Int) (hc : w.cell? ⟨g, 2, none⟩ = some (.map (some kb))) (hk : KidsOk w f kb n D) (hg : f g = 1) (hn : n ≤ 200) (hp : (Lit.int .i64 p).wf = true) (hm : (Lit.int .i64 m).wf = true) :
    Calls Tryd.prog 76 #[.pointer (some ⟨g, 0, none⟩), .int .i64 p, .int .i64 m] w (UnderI w f kb n) := by
  have HK := Aside0.mk hk
  have HFG := Aside0.mk hg
  have hkey := keyOf_int_mk (k := 3) (q := .i64) Tryd.underlying3 hp
  have hkem := keyOf_int_mk (k := 3) (q := .i64) Tryd.underlying3 hm
  obtain ⟨o, hlk, hat⟩ := kids_look hk hp
  have HAT := Aside0.mk hat
  have HKP := Aside0.mk hkey
  have HKM := Aside0.mk hkem
  have HMM := Aside0.mk hm
  clear hk hg hat hkey hkem
  have heqn : ∀ W : World, (binOp .eql 122 (.map none) (.map none)).run Tryd.prog W = .ok (.bool true) W := fun W => by kernel_rfl
  have heqs : ∀ (q : Nat) (W : World), (binOp .eql 122 (.map (some q)) (.map none)).run Tryd.prog W = .ok (.bool false) W := fun q W => by kernel_rfl
  cases o with
  | none =>
    have hmk : ∀ W : World, (Instr.makeMap 122 none).run Tryd.prog W = .ok (.map (some W.heap.size)) (W.alloc (.map #[] 0)) := fun W => rfl
    have HO1 := Aside0.mk (HK.out.own.alloc (.map #[] 0))
    have HM1 := Aside0.mk (World.ownsMap_made (H := Value) w Tryd.prog 3 (plainElem Tryd.prog 3))
    have HG1 := Aside0.mk (World.grownBy_alloc w (.map #[] 0) none)
    go_enter Tryd.func76, Tryd.ntmps76
    go_upto_region 2 with (at_mapUpdate; refine wpList_mapUpdate_own _ rfl _ _ _ 96 rfl 3 122 (int_keyed Tryd.underlying3) Tryd.underlying96 RK kb n D rfl HO1.out (by simp only [maxLen]; omega) (.int .i64 p) _ (.int .i64 p) rfl rfl HKP.out (.held (.map (some w.heap.size))) [] rfl ?_; intro w2 ho hg; have HO2 := Aside0.mk ho; have HG2 := Aside0.mk hg; clear ho hg)
    have hkb : kb < w.heap.size := HK.out.own.lt
    have hwk : w.heap.size ≠ kb := by omega
    obtain ⟨f2, hl2, hf2⟩ := Lt.new (f := f) (T := fun x => x = 4) ((Tn.gb0 HG1.out _).trans' (Tn.of_gb HG2.out (F := fun k => f k = 4) (fun k hk => by cases hk; exact HK.out.fk))) 5
    have hM2 := (HM1.out.kept HG2.out (fun e => hwk (Option.some.inj e))).mono (Nat.zero_le (n + 1))
    have hIs : Maps.IsMap D := HK.out.own.isMap
    have hKL : WideAt.IsKeyLit (Lit.int .i64 p) := trivial
    have hK2 : KidsOk w2 f2 kb (n + 1) (D.put (.int .i64 p) (.held (.map (some w.heap.size)))) := by
      refine ⟨HO2.out, fun kl => ?_, fun kl b hb => ?_, by rw [hl2.lab _ hkb]; exact HK.out.fk⟩
      · by_cases e : kl = .int .i64 p
        · subst e; exact ⟨_, Maps.atKey_put_same hIs hKL _ _⟩
        · rw [Maps.atKey_put_other e]; exact HK.out.vals kl
      · by_cases e : kl = .int .i64 p
        · subst e
          rw [Maps.atKey_put_same hIs hKL] at hb
          injection hb with hb
          injection hb with hb
          have hb := Option.some.inj hb
          subst hb
          exact ⟨⟨_, hM2⟩, hf2 _ (Nat.le_refl _)⟩
        · rw [Maps.atKey_put_other e] at hb
          obtain ⟨⟨D1, hd1⟩, hf1⟩ := HK.out.in_ kl b hb
          exact ⟨⟨D1, (map_tn hd1 hl2.tn (by rw [hf1]; decide)).mono (Nat.le_succ n)⟩, by rw [hl2.lab _ hd1.lt]; exact hf1⟩
    obtain ⟨o2, hlk2, hat2⟩ := kids_look hK2 hp
    have ho2 : o2 = some w.heap.size := by
      rw [Maps.atKey_put_same hIs hKL] at hat2
      injection hat2 with h
      injection h with h
      exact h.symm
    subst ho2
    have hc2 : w2.cell? ⟨g, 2, none⟩ = some (.map (some kb)) := cell_tn hc hl2.tn (by rw [HFG.out]; decide)
    have HK2 := Aside0.mk hK2
    have HL2 := Aside0.mk (hl2.mono (U := K45) (fun x e => .inl e))
    have HD0 := Aside0.mk hM2
    have HFB := Aside0.mk (hf2 _ (Nat.le_refl _))
    obtain ⟨b, hb⟩ : ∃ b, b = w.heap.size := ⟨_, rfl⟩
    rw [← hb] at hlk2 HD0 HFB HK2
    have HBK : Aside0 (b ≠ kb) := ⟨by rw [hb]; exact hwk⟩
    clear hkb hwk hl2 hf2 hM2 hIs hKL hK2 hat2 hlk hb HO1 HM1 HG1 HO2 HG2
    go_wp2_with (at_mapUpdate; refine wpList_mapUpdate_own _ rfl _ _ _ 122 rfl 3 3 (int_keyed Tryd.underlying3) Tryd.underlying122 (plainElem Tryd.prog 3) b (n + 1) _ rfl HD0.out (by simp only [maxLen]; omega) (.int .i64 m) _ (.int .i64 m) rfl rfl HKM.out (.lit (.int .i64 m)) [] (plainElem_int Tryd.underlying3 HMM.out) ?_; intro w3 ho hg; have HO3 := Aside0.mk ho; have HG3 := Aside0.mk hg; clear ho hg)
    go_end0
    have hT3 : Lt w2 f2 w3 f2 K45 := ⟨Tn.of_gb HG3.out (fun k hk => by cases hk; exact .inr HFB.out), fun _ _ => rfl⟩
    refine ⟨rfl, _, f2, ⟨(HK2.out.own.mono (show n + 1 ≤ n + 2 by omega)).kept HG3.out (by intro e; exact HBK.out (Option.some.inj e).symm), HK2.out.vals, fun kl q hq => ?_, HK2.out.fk⟩, HL2.out.trans hT3⟩
    obtain ⟨⟨D1, hd1⟩, hf1⟩ := HK2.out.in_ kl q hq
    refine ⟨?_, hf1⟩
    by_cases e : q = b
    · subst e; exact ⟨_, HO3.out⟩
    · exact ⟨D1, (hd1.mono (show n + 1 ≤ n + 2 by omega)).kept HG3.out (fun h => e (Option.some.inj h))⟩
  | some b =>
    obtain ⟨⟨D0, hd0⟩, hfb⟩ := HK.out.in_ _ _ HAT.out
    have HD0 := Aside0.mk hd0
    have HFB := Aside0.mk hfb
    have hbk : b ≠ kb := fun e => by have := HK.out.fk; rw [e] at hfb; omega
    have HBK := Aside0.mk hbk
    clear hd0 hfb hbk
    go_enter Tryd.func76, Tryd.ntmps76
    go_wp2_with (at_mapUpdate; refine wpList_mapUpdate_own _ rfl _ _ _ 122 rfl 3 3 (int_keyed Tryd.underlying3) Tryd.underlying122 (plainElem Tryd.prog 3) b n D0 rfl HD0.out (by simp only [maxLen]; omega) (.int .i64 m) _ (.int .i64 m) rfl rfl HKM.out (.lit (.int .i64 m)) [] (plainElem_int Tryd.underlying3 HMM.out) ?_; intro w2 ho hg; have HO2 := Aside0.mk ho; have HG2 := Aside0.mk hg; clear ho hg)
    go_end0
    refine ⟨rfl, D, f, ⟨HK.out.own.mono (show n ≤ n + 2 by omega) |>.kept HG2.out (by intro e; exact HBK.out (Option.some.inj e).symm), HK.out.vals, fun kl q hq => ?_, HK.out.fk⟩, ⟨Tn.of_gb HG2.out (fun k hk => by cases hk; exact .inr HFB.out), fun _ _ => rfl⟩⟩
    obtain ⟨⟨D1, hd1⟩, hf1⟩ := HK.out.in_ kl q hq
    refine ⟨?_, hf1⟩
    by_cases e : q = b
    · subst e; exact ⟨_, HO2.out.mono (show n + 1 ≤ n + 2 by omega)⟩
    · exact ⟨D1, (hd1.mono (show n ≤ n + 2 by omega)).kept HG2.out (fun h => e (Option.some.inj h))⟩
end Go.Proofs.YtbhijfbjdbjpbaaDoor.T
namespace Go.Proofs.YtbhijfbjdbjpbaaDoor.T
open Go.RowKit Go.Proofs.YtbhijfbjdbjpbaaDoorW.PrintWords Go.Proofs.YtbhijfbjdbjpbaaDoorW.PrintLast Go.Proofs.YtbhijfbjdbjpbaaDoor.H Go.Maps
set_option linter.unusedVariables false
set_option linter.unusedSimpArgs false
theorem app_at_step {P : Program} {ops : Array Oper} {o : Oper} {a : Act} {Q : Exit → Act → World → Prop} {α : Type} (E : Enc α) {w : World} {K : Act → World → Prop} {E' : Prop} (hw : Region.wanted o (yielded ops a.tmps) = true) {N : Option Tmp} (hN : o.dst = N) (base : Nat) (s x : Operand) (t e : TypeId) (z : Value) (bytes : Nat)
    (ho : o.op = .call { callee := .builtin .append, args := #[s, x], argTypes := #[t, t] })
    (ht : P.underlying t = some (.slice e)) (hinfo : (P.info? e).map (fun i => (i.zero, i.size, i.bytes)) = some (some z, E.sz, bytes)) (hz : z.cells.size = E.sz) (hb0 : 0 < bytes)
    (v : Value) (n : Nat) (xs ys : List α) (ad : Addr) (m c : Nat) (hs : a.eval s = v) (hx : a.eval x = .slice (some ad) m c)
    (HO : w.ownsRow base e E.sz v n (flat E xs)) (HR : Rd E w (some ad) m ys) (hbase : base ≤ w.heap.size) (hl : (n + m) * bytes ≤ 140737488355328)
    (h : ∀ v1 w1, w1.ownsRow base e E.sz v1 (n + m) (flat E (xs ++ ys)) → w.grownBy w1 v.ownBlock → (v1.ownBlock = v.ownBlock ∨ v1.ownBlock = some w.heap.size) → K (a.put N v1) w1) :
    if Region.wanted o (yielded ops a.tmps) = true then Oper.wp P o a w K Q else E' := by
  rw [if_pos hw]
  subst hN
  obtain ⟨i0, hi, hz0, hz1, hz2⟩ := info_parts hinfo
  have hlen : n + m ≤ 140737488355328 := Nat.le_trans (Nat.le_mul_of_pos_right _ hb0) hl
  obtain ⟨v1, w1, hr, h2, h3, _, h5⟩ := run_append_own_at (P := P) w base t o.type e i0 z E.sz bytes ht hi hz0 hz1 hz2 hz E.pos v n (flat E xs) HO ad m c (flat E ys) (by rw [flat_len, HR.1])
    (fun j u hu => by
      rcases Nat.eq_zero_or_pos m with h0 | h0
      · obtain rfl : ys = [] := List.eq_nil_of_length_eq_zero (HR.1.trans h0)
        simp [flat_nil] at hu
      · obtain ⟨ad', e', hc⟩ := HR.2.2 h0
        injection e' with e'
        subst e'
        exact hc j u hu) (flat_oneCell E ys) (by simp only [maxLen]; omega) hl hbase
  unfold Oper.wp execOp
  simp only [ho, resolve, invoke, builtin, Sem.run_bind, Sem.run_pure, Result.andThen_ok, List.map_toArray, List.map_cons, List.map_nil, hs, hx, hr]
  exact h v1 w1 (by rw [flat_append]; exact h2) h3 h5
theorem str_inj {s t : ByteArray} (h : (Lit.string s.data.toList) = Lit.string t.data.toList) : s = t := by
  injection h with h
  cases s; cases t
  simp at h
  simp [h]
def strL (s : ByteArray) : Lit := .string s.data.toList
/-- A tree at block g: its accounts, the names that it knows, the children of each. -/
structure TreeAt (w : World) (P : Nat) (f : Nat → Int) (g : Nat) (ls : List Acc) (A : Option Addr) (c mb kb k : Nat) (Dn Dk : DataW Value) : Prop where
  blk : w.heap[g]? = some (.cells #[.slice A ls.length c, .map (some mb), .map (some kb)] 98 (0, 0))
  own : w.ownsRow P 37 Ec.sz (.slice A ls.length c) ls.length (flat Ec ls)
  nm : w.ownsMap Tryd.prog 9 (plainElem Tryd.prog 3) mb k Dn
  has : ∀ s : ByteArray, s.size ≤ maxLen → (Maps.has Dn (strL s) = true ↔ ∃ a ∈ ls, a.nm = s)
  kids : KidsOk w f kb k Dk
  fg : f g = 1
  fl : ∀ b, (Value.slice A ls.length c).ownBlock = some b → f b = 2
  fm : f mb = 3
  base : P ≤ g
theorem TreeAt.lt {w w' : World} {P : Nat} {f f' : Nat → Int} {g : Nat} {ls : List Acc} {A : Option Addr} {c mb kb k : Nat} {Dn Dk : DataW Value} {T : Int → Prop} (h : TreeAt w P f g ls A c mb kb k Dn Dk) (hl : Lt w f w' f' T) (hT : ∀ x, 1 ≤ x → x ≤ 5 → ¬ T x) : TreeAt w' P f' g ls A c mb kb k Dn Dk :=
  ⟨blk_tn h.blk hl.tn (by rw [h.fg]; exact hT _ (by decide) (by decide)), own_tn h.own hl.tn (fun b hb => by rw [h.fl b hb]; exact hT _ (by decide) (by decide)), map_tn h.nm hl.tn (by rw [h.fm]; exact hT _ (by decide) (by decide)), h.has,
    h.kids.lt hl (hT _ (by decide) (by decide)) (hT _ (by decide) (by decide)), by rw [hl.lab _ (blk_lt' h.blk)]; exact h.fg, fun b hb => by rw [hl.lab _ (h.own.lt b hb).2]; exact h.fl b hb, by rw [hl.lab _ h.nm.lt]; exact h.fm, h.base⟩
theorem TreeAt.gb {w w' : World} {P : Nat} {f : Nat → Int} {g : Nat} {ls : List Acc} {A : Option Addr} {c mb kb k : Nat} {Dn Dk : DataW Value} (h : TreeAt w P f g ls A c mb kb k Dn Dk) (hg : w.grownBy w' none) : TreeAt w' P f g ls A c mb kb k Dn Dk :=
  h.lt (Lt.gb (f := f) (T := fun _ => False) hg) (fun _ _ _ h => h)
def K15 (x : Int) : Prop := 1 ≤ x ∧ x ≤ 5
/-- What laying an account leaves. -/
def LayI (w : World) (P : Nat) (f : Nat → Int) (g : Nat) (ls : List Acc) (mb kb k : Nat) (a : Acc) (e : Ending) (w' : World) : Prop :=
  e = .returned (.int .i64 (ls.length : Nat)) ∧ ∃ (A : Option Addr) (c : Nat) (Dn Dk : DataW Value) (f' : Nat → Int), TreeAt w' P f' g (ls ++ [⟨a.nm, a.par, a.sh, a.cl, 0⟩]) A c mb kb (k + 2) Dn Dk ∧ Lt w f w' f' K15
set_option maxHeartbeats 8000000 in
set_option maxRecDepth 100000 in
theorem lay_calls (w : World) (P : Nat) (f : Nat → Int) (g : Nat) (ls : List Acc) (A : Option Addr) (c mb kb k : Nat) (Dn Dk : DataW Value) (a : Acc) (ht : TreeAt w P f g ls A c mb kb k Dn Dk) (hk : k ≤ 190) (hln : ls.length ≤ 100) (hp : (Lit.int .i64 a.par).wf = true) (hs : a.nm.size ≤ maxLen) :
    Calls Tryd.prog 60 #[.pointer (some ⟨g, 0, none⟩), .agg #[.string a.nm, .int .i64 a.par, .int .i64 a.sh, .bool a.cl, .int .u64 a.us]] w (LayI w P f g ls mb kb k a) := by
  obtain ⟨f1, hl1, hf1⟩ := Lt.new (f := f) (T := fun _ => False) (Tn.gb0 (World.grownBy_alloc w (.cells #[.string a.nm, .int .i64 a.par, .int .i64 a.sh, .bool a.cl, .int .u64 0] 37) none) (fun _ => False)) (-100)
  have HT1 := Aside0.mk (ht.lt hl1 (fun _ _ _ h => h))
  have HX1 := Aside0.mk (heap_alloc_new w (.cells #[.string a.nm, .int .i64 a.par, .int .i64 a.sh, .bool a.cl, .int .u64 0] 37))
  have HL1 := Aside0.mk hl1
  have HFX := Aside0.mk (hf1 _ (Nat.le_refl _))
  have HPW := Aside0.mk hp
  have HSZ := Aside0.mk hs
  obtain ⟨n, hn⟩ : ∃ n, n = ls.length := ⟨_, rfl⟩
  have HNN := Aside0.mk hn
  have hc0 := cell_of (j := 0) (v := .slice A n c) ht.blk (by rw [hn]; rfl)
  rw [← hn] at hln
  have HGL := Aside0.mk (blk_lt' ht.blk)
  have hca : (w.alloc (.cells #[.string a.nm, .int .i64 a.par, .int .i64 a.sh, .bool a.cl, .int .u64 a.us] 37)).cell? ⟨g, 0, none⟩ = some (.slice A n c) := (World.grownBy_alloc w _ none).cell hc0 (by simp)
  clear ht hl1 hf1 hp hs hn hc0
  go_enter Tryd.func60, Tryd.ntmps60
  go_upto_region 3 with (fail)
  obtain ⟨bx, hbx⟩ : ∃ bx, bx = w.heap.size := ⟨_, rfl⟩
  rw [← hbx] at HX1 HFX ⊢
  have HGX : Aside0 (g ≠ bx) := ⟨by have := HGL.out; omega⟩
  generalize w.alloc (.cells #[.string a.nm, .int .i64 a.par, .int .i64 a.sh, .bool a.cl, .int .u64 0] 37) = W1 at HT1 HX1 HL1 hca ⊢
  clear hbx
  have HTd := Aside0.mk (HT1.out.gb (gb_drew W1 none))
  have HXd := Aside0.mk (show W1.drew.heap[bx]? = some (.cells #[.string a.nm, .int .i64 a.par, .int .i64 a.sh, .bool a.cl, .int .u64 0] 37 (0, 0)) from HX1.out)
  have HLN := Aside0.mk (show (ls ++ [(⟨a.nm, a.par, a.sh, a.cl, 0⟩ : Acc)]).length = n + 1 by rw [List.length_append, HNN.out]; rfl)
  refine start_ (n := 11) (S := fun w' => w'.cell? ⟨g, 0, none⟩ = some (.slice A n c) ∧ w'.cell? ⟨bx, 0, none⟩ = some (.string a.nm) ∧ w'.cell? ⟨bx, 1, none⟩ = some (.int .i64 a.par) ∧ w'.cell? ⟨bx, 2, none⟩ = some (.int .i64 a.sh) ∧ w'.cell? ⟨bx, 3, none⟩ = some (.bool a.cl) ∧ w'.cell? ⟨bx, 4, none⟩ = some (.int .u64 0)) (ds := [7, 10]) #[false, false, false, false, false, false, false, false, false, false, false] (by kernel_rfl) rfl rfl ⟨by rw [HNN.out]; exact cell_of (j := 0) HTd.out.blk rfl, cell_of (j := 0) HXd.out rfl, cell_of (j := 1) HXd.out rfl, cell_of (j := 2) HXd.out rfl, cell_of (j := 3) HXd.out rfl, cell_of (j := 4) HXd.out rfl⟩ (fun hHeld => ?_)
  refine pure_ (i := 0) (N := some 12) (v := ?_) (a' := ?_) #[true, false, false, false, false, false, false, false, false, false, false] rfl rfl (by kernel_rfl) (fun _ _ _ h => h) (Or.inl ⟨by rfl, ?_⟩) ?_ ?_
  rotate_left
  · intro w'
    go_simp
    with_reducible rfl
  rotate_left
  · simp only [Act.put, List.setIfInBounds_toArray, List.set_cons_zero, List.set_cons_succ, i64_w, i32_w]
    rfl
  refine pure_ (i := 1) (N := some 13) (v := ?_) (a' := ?_) #[true, true, false, false, false, false, false, false, false, false, false] rfl rfl (by kernel_rfl) (fun _ _ _ h => h) (Or.inl ⟨by rfl, ?_⟩) ?_ ?_
  rotate_left
  · intro w'
    go_simp
    with_reducible rfl
  rotate_left
  · simp only [Act.put, List.setIfInBounds_toArray, List.set_cons_zero, List.set_cons_succ, i64_w, i32_w]
    rfl
  refine pure_ (i := 2) (N := some 14) (v := ?_) (a' := ?_) #[true, true, true, false, false, false, false, false, false, false, false] rfl rfl (by kernel_rfl) (fun _ _ _ h => h) (Or.inl ⟨by rfl, ?_⟩) ?_ ?_
  rotate_left
  · intro w'
    go_simp
    with_reducible rfl
  rotate_left
  · simp only [Act.put, List.setIfInBounds_toArray, List.set_cons_zero, List.set_cons_succ, i64_w, i32_w]
    rfl
  refine pure_ (i := 3) (N := some 15) (v := ?_) (a' := ?_) #[true, true, true, true, false, false, false, false, false, false, false] rfl rfl (by kernel_rfl) (fun _ _ _ h => h) (Or.inl ⟨by rfl, ?_⟩) ?_ ?_
  rotate_left
  · intro w'
    go_simp
    with_reducible rfl
  rotate_left
  · simp only [Act.put, List.setIfInBounds_toArray, List.set_cons_zero, List.set_cons_succ, i64_w, i32_w]
    rfl
  refine take_ (i := 4) (N := some 16) (v := ?_) (a' := ?_) #[true, true, true, true, true, false, false, false, false, false, false] rfl rfl (by kernel_rfl) (fun _ _ _ h => h) (Or.inl ⟨by rfl, ?_⟩) hHeld ?_ ?_
  rotate_left
  · rintro w' ⟨s0, s1, s2, s3, s4, s5⟩
    go_simp
    with_reducible rfl
  rotate_left
  · simp only [Act.put, List.setIfInBounds_toArray, List.set_cons_zero, List.set_cons_succ, i64_w, i32_w]
    rfl
  refine take_ (i := 5) (N := some 17) (v := ?_) (a' := ?_) #[true, true, true, true, true, true, false, false, false, false, false] rfl rfl (by kernel_rfl) (fun _ _ _ h => h) (Or.inl ⟨by rfl, ?_⟩) hHeld ?_ ?_
  rotate_left
  · rintro w' ⟨s0, s1, s2, s3, s4, s5⟩
    go_simp
    with_reducible rfl
  rotate_left
  · simp only [Act.put, List.setIfInBounds_toArray, List.set_cons_zero, List.set_cons_succ, i64_w, i32_w]
    rfl
  refine one_ (i := 6) (N := some 18) #[true, true, true, true, true, true, true, false, false, false, false] rfl rfl (by kernel_rfl) (by decide) (fun K hK => ?_)
  refine value_ (w1 := ?_) (v := ?_) (by rfl) rfl ?_ ?_
  rotate_left 2
  · go_simp
    constructor
    · rfl
    · rfl
  have HT6 := Aside0.mk (HTd.out.gb (World.grownBy_alloc _ (.cells #[.string a.nm, .int .i64 a.par, .int .i64 a.sh, .bool a.cl, .int .u64 0] 37) none)); have HX6 := Aside0.mk (blk_kept HXd.out (World.grownBy_alloc _ (.cells #[.string a.nm, .int .i64 a.par, .int .i64 a.sh, .bool a.cl, .int .u64 0] 37) none) (by simp)); have HR6 := Aside0.mk (show Rd Ec (W1.drew.alloc (.cells #[.string a.nm, .int .i64 a.par, .int .i64 a.sh, .bool a.cl, .int .u64 0] 37)) (some ⟨W1.drew.heap.size, 0, none⟩) 1 [⟨a.nm, a.par, a.sh, a.cl, 0⟩] from rd_lit Ec W1.drew 37 [⟨a.nm, a.par, a.sh, a.cl, 0⟩] (by simp)); have HZ6 : Aside0 (P ≤ (W1.drew.alloc (.cells #[.string a.nm, .int .i64 a.par, .int .i64 a.sh, .bool a.cl, .int .u64 0] 37)).heap.size) := ⟨by have h1 := HTd.out.base; have h2 := blk_lt' HTd.out.blk; simp at h2 ⊢; omega⟩
  refine hK.out _ _ ⟨by rw [HNN.out]; exact cell_of (j := 0) HT6.out.blk rfl, cell_of (j := 0) HX6.out rfl, cell_of (j := 1) HX6.out rfl, cell_of (j := 2) HX6.out rfl, cell_of (j := 3) HX6.out rfl, cell_of (j := 4) HX6.out rfl⟩ (fun hHeld => ?_)
  clear hK K
  refine norm_ (a' := ?_) ?_ ?_
  rotate_left
  · show Act.put _ (some 18) _ = _
    simp only [Act.put, List.setIfInBounds_toArray, List.set_cons_zero, List.set_cons_succ, i64_w, i32_w]
    rfl
  refine last_ (i := 7) (N := some 19) #[true, true, true, true, true, true, true, true, false, false, false] rfl rfl (by kernel_rfl) (by decide) (fun K hK => ?_)
  refine app_at_step Ec (by rfl) rfl P (.tmp 16) (.tmp 18) 24 37 (.agg #[.string ByteArray.empty, .int .i64 0, .int .i64 0, .bool false, .int .u64 0]) 48 rfl Tryd.underlying24 (by kernel_rfl) rfl (by decide) (.slice A n c) n ls [⟨a.nm, a.par, a.sh, a.cl, 0⟩] _ 1 1 rfl rfl (by rw [HNN.out]; exact HT6.out.own) HR6.out HZ6.out (by omega) ?_
  intro v7 w7 ho hg hat
  obtain ⟨A7, c7, rfl, -, -, -⟩ := own_open HLN.out ho
  have HO7 := Aside0.mk ho; have HG7 := Aside0.mk hg; have HA7 := Aside0.mk hat; have HK7 := Aside0.mk (blk_tn HT6.out.blk (Tn.of_gb hg (F := fun k => f1 k = 2) (fun k hk => HT6.out.fl k (by rw [← HNN.out]; exact hk))) (by rw [HT6.out.fg]; decide)); clear ho hg hat; have q7 := cell_of (j := 0) (v := .slice A n c) HK7.out (by rw [HNN.out]; rfl); have q8 := frozen_of (j := 0) HK7.out
  refine hK.out _ _ ?_
  clear hK K
  refine norm_ (a' := ?_) ?_ ?_
  rotate_left
  · show Act.put _ (some 19) _ = _
    simp only [Act.put, List.setIfInBounds_toArray, List.set_cons_zero, List.set_cons_succ, i64_w, i32_w]
    rfl
  refine pure_ (i := 8) (N := some 20) (v := ?_) (a' := ?_) #[true, true, true, true, true, true, true, true, true, false, false] rfl rfl (by kernel_rfl) (fun _ _ _ h => h) (Or.inl ⟨by rfl, ?_⟩) ?_ ?_
  rotate_left
  · intro w'
    go_simp
    with_reducible rfl
  rotate_left
  · simp only [Act.put, List.setIfInBounds_toArray, List.set_cons_zero, List.set_cons_succ, i64_w, i32_w]
    rfl
  refine pure_ (i := 9) (N := some 21) (v := ?_) (a' := ?_) #[true, true, true, true, true, true, true, true, true, true, false] rfl rfl (by kernel_rfl) (fun _ _ _ h => h) (Or.inl ⟨by rfl, ?_⟩) ?_ ?_
  rotate_left
  · intro w'
    go_simp
    with_reducible rfl
  rotate_left
  · simp only [Act.put, List.setIfInBounds_toArray, List.set_cons_zero, List.set_cons_succ, i64_w, i32_w]
    rfl
  refine last_ (i := 10) (N := none) #[true, true, true, true, true, true, true, true, true, true, true] rfl rfl (by kernel_rfl) (by decide) (fun K hK => ?_)
  refine skip_ (w1 := ?_) (by rfl) rfl ?_ ?_
  rotate_left
  · go_simp
    rfl
  refine hK.out _ _ ?_
  clear hK K
  refine done_ (by kernel_rfl) ?_
  go_upto_region 4 with (fail)
  have hn : n = ls.length := HNN.out
  have hA : ∀ b, (Value.slice A n c).ownBlock = some b → f1 b = 2 := fun b hb => HT6.out.fl b (by rw [← hn]; exact hb)
  have hg1 : f1 g = 1 := HT1.out.fg
  have hgl : g < W1.heap.size := blk_lt' HT1.out.blk
  have hT2 : Tn W1 (w7.setCell ⟨g, 0, none⟩ (.slice A7 (n + 1) c7)) (fun i => f1 i = 1 ∨ f1 i = 2) :=
    (((Tn.drew W1 _).trans' (Tn.alloc _ _ _)).trans' (Tn.of_gb HG7.out (fun i hi => .inr (hA i hi)))).trans' (Tn.set g 0 _ (.inl hg1))
  have hB2 : (w7.setCell ⟨g, 0, none⟩ (.slice A7 (n + 1) c7)).heap[g]? = some (.cells #[.slice A7 (n + 1) c7, .map (some mb), .map (some kb)] 98 (0, 0)) := by
    have := blk_set 0 (.slice A7 (n + 1) c7) HK7.out
    simpa using this
  have hA7 : ∀ b, (Value.slice A7 (n + 1 : Nat) c7).ownBlock = some b → (f1 b = 2 ∧ b < W1.heap.size) ∨ W1.heap.size ≤ b := fun b hb => by
    rcases HA7.out with e | e
    · rw [hb] at e
      have h5 := (HT1.out.own.lt b (by rw [← hn]; exact e.symm)).2
      exact .inl ⟨hA b e.symm, h5⟩
    · rw [hb] at e
      have := Option.some.inj e
      simp at this
      exact .inr (by omega)
  have hO2 : (w7.setCell ⟨g, 0, none⟩ (.slice A7 (n + 1) c7)).ownsRow P 37 Ec.sz (.slice A7 (n + 1 : Nat) c7) (n + 1) (flat Ec (ls ++ [⟨a.nm, a.par, a.sh, a.cl, 0⟩])) :=
    own_tn HO7.out (Tn.set g 0 _ (F := fun i => i = g) rfl) (fun i hi e => by
      subst e
      rcases hA7 i hi with ⟨h1, _⟩ | h1
      · omega
      · omega)
  obtain ⟨f2, hl2, hf2⟩ := Lt.new (f := f1) (T := fun x => x = 1 ∨ x = 2) hT2 2
  have hnm2 := map_tn HT1.out.nm hT2 (by rw [HT1.out.fm]; decide)
  have hkd2 := HT1.out.kids.lt hl2 (by decide) (by decide)
  have hx2 := blk_tn HX1.out hT2 (by rw [HFX.out]; decide)
  have hg2 : f2 g = 1 := by rw [hl2.lab g hgl]; exact hg1
  have hm2 : f2 mb = 3 := by rw [hl2.lab mb HT1.out.nm.lt]; exact HT1.out.fm
  have hx2f : f2 bx = -100 := by rw [hl2.lab bx (blk_lt' HX1.out)]; exact HFX.out
  have hl72 : ∀ b, (Value.slice A7 (n + 1 : Nat) c7).ownBlock = some b → f2 b = 2 := fun b hb => by
    rcases hA7 b hb with ⟨h1, h2⟩ | h1
    · rw [hl2.lab b h2]; exact h1
    · exact hf2 b h1
  have HB2d := Aside0.mk hB2
  have HX2d := Aside0.mk hx2
  have HO2 := Aside0.mk hO2
  have HNM2 := Aside0.mk hnm2
  have HKD2 := Aside0.mk hkd2
  have HLt2 := Aside0.mk hl2
  have HFF := Aside0.mk (And.intro hg2 (And.intro hm2 (And.intro hx2f hl72)))
  clear hn hA hg1 hgl hT2 hB2 hA7 hO2 hl2 hf2 hnm2 hkd2 hx2 hg2 hm2 hx2f hl72 HO7 HG7 HA7 HK7 HT6 HX6 HR6 HZ6 q7 q8 hca HXd HTd
  generalize w7.setCell ⟨g, 0, none⟩ (.slice A7 (n + 1) c7) = W2 at HB2d HX2d HO2 HNM2 HKD2 HLt2 ⊢
  have hnw : (Lit.int .i64 (n : Int)).wf = true := by simp [Lit.wf, IntKind.min, IntKind.max, IntKind.bits, IntKind.signed]; omega
  obtain ⟨W3, hup, ho3, hg3⟩ := (HNM2.out.drew).update (string_keyed Tryd.underlying9) Tryd.underlying95 (by simp only [maxLen]; omega) (Go.WideMaps.keyOf_string_mk Tryd.underlying9 HSZ.out) (plainElem_int Tryd.underlying3 hnw)
  have HO3 := Aside0.mk ho3
  have HG3 := Aside0.mk hg3
  clear ho3 hg3
  refine start_ (n := 8) (S := fun w' => w'.cell? ⟨g, 1, none⟩ = some (.map (some mb)) ∧ w'.cell? ⟨bx, 0, none⟩ = some (.string a.nm)) (ds := [7]) #[false, false, false, false, false, false, false, false] (by kernel_rfl) rfl rfl ⟨cell_of (j := 1) HB2d.out rfl, cell_of (j := 0) HX2d.out rfl⟩ (fun hHeld => ?_)
  refine pure_ (i := 0) (N := some 22) (v := ?_) (a' := ?_) #[true, false, false, false, false, false, false, false] rfl rfl (by kernel_rfl) (fun _ _ _ h => h) (Or.inl ⟨by rfl, ?_⟩) ?_ ?_
  rotate_left
  · intro w'
    go_simp
    with_reducible rfl
  rotate_left
  · simp only [Act.put, List.setIfInBounds_toArray, List.set_cons_zero, List.set_cons_succ, i64_w, i32_w]
    rfl
  refine pure_ (i := 1) (N := some 23) (v := ?_) (a' := ?_) #[true, true, false, false, false, false, false, false] rfl rfl (by kernel_rfl) (fun _ _ _ h => h) (Or.inl ⟨by rfl, ?_⟩) ?_ ?_
  rotate_left
  · intro w'
    go_simp
    with_reducible rfl
  rotate_left
  · simp only [Act.put, List.setIfInBounds_toArray, List.set_cons_zero, List.set_cons_succ, i64_w, i32_w]
    rfl
  refine pure_ (i := 2) (N := some 24) (v := ?_) (a' := ?_) #[true, true, true, false, false, false, false, false] rfl rfl (by kernel_rfl) (fun _ _ _ h => h) (Or.inl ⟨by rfl, ?_⟩) ?_ ?_
  rotate_left
  · intro w'
    go_simp
    with_reducible rfl
  rotate_left
  · simp only [Act.put, List.setIfInBounds_toArray, List.set_cons_zero, List.set_cons_succ, i64_w, i32_w]
    rfl
  refine pure_ (i := 4) (N := some 26) (v := ?_) (a' := ?_) #[true, true, true, false, true, false, false, false] rfl rfl (by kernel_rfl) (fun _ _ _ h => h) (Or.inl ⟨by rfl, ?_⟩) ?_ ?_
  rotate_left
  · intro w'
    go_simp
    with_reducible rfl
  rotate_left
  · simp only [Act.put, List.setIfInBounds_toArray, List.set_cons_zero, List.set_cons_succ, i64_w, i32_w]
    rfl
  refine pure_ (i := 6) (N := some 28) (v := ?_) (a' := ?_) #[true, true, true, false, true, false, true, false] rfl rfl (by kernel_rfl) (fun _ _ _ h => h) (Or.inl ⟨by rfl, ?_⟩) ?_ ?_
  rotate_left
  · intro w'
    go_simp
    with_reducible rfl
  rotate_left
  · simp only [Act.put, List.setIfInBounds_toArray, List.set_cons_zero, List.set_cons_succ, i64_w, i32_w]
    rfl
  refine take_ (i := 3) (N := some 25) (v := ?_) (a' := ?_) #[true, true, true, true, true, false, true, false] rfl rfl (by kernel_rfl) (fun _ _ _ h => h) (Or.inl ⟨by rfl, ?_⟩) hHeld ?_ ?_
  rotate_left
  · rintro w' ⟨s0, s1⟩
    go_simp
    with_reducible rfl
  rotate_left
  · simp only [Act.put, List.setIfInBounds_toArray, List.set_cons_zero, List.set_cons_succ, i64_w, i32_w]
    rfl
  refine take_ (i := 5) (N := some 27) (v := ?_) (a' := ?_) #[true, true, true, true, true, true, true, false] rfl rfl (by kernel_rfl) (fun _ _ _ h => h) (Or.inl ⟨by rfl, ?_⟩) hHeld ?_ ?_
  rotate_left
  · rintro w' ⟨s0, s1⟩
    go_simp
    with_reducible rfl
  rotate_left
  · simp only [Act.put, List.setIfInBounds_toArray, List.set_cons_zero, List.set_cons_succ, i64_w, i32_w]
    rfl
  refine last_ (i := 7) (N := none) #[true, true, true, true, true, true, true, true] rfl rfl (by kernel_rfl) (by decide) (fun K hK => ?_)
  refine skip_ (w1 := ?_) (by rfl) rfl ?_ ?_
  rotate_left
  · go_simp
    rfl
  refine hK.out _ _ ?_
  clear hK K
  refine done_ (by kernel_rfl) ?_
  go_upto_region 5 with (fail)
  obtain ⟨hg2, hm2, hx2, hl72⟩ := HFF.out
  have hl3 : Lt W2 f2 W3 f2 (fun x => x = 3) := ⟨(Tn.drew W2 _).trans' (Tn.of_gb HG3.out (fun i hi => by cases hi; exact hm2)), fun _ _ => rfl⟩
  have HB3 := Aside0.mk (blk_tn HB2d.out hl3.tn (by rw [hg2]; decide))
  have HX3 := Aside0.mk (blk_tn HX2d.out hl3.tn (by rw [hx2]; decide))
  have HK3 := Aside0.mk (HKD2.out.lt hl3 (by decide) (by decide))
  have HO3r := Aside0.mk (own_tn HO2.out hl3.tn (fun i hi => by rw [hl72 i hi]; decide))
  have HL3 := Aside0.mk ((HLt2.out.mono (U := K15) (fun x h => by unfold K15; omega)).trans (hl3.mono (U := K15) (fun x h => by unfold K15; omega)))
  have cx1 := cell_of (j := 1) (v := .int .i64 a.par) HX3.out rfl
  have hc2 := cell_of (j := 2) (v := .map (some kb)) HB3.out rfl
  have hnw : (Lit.int .i64 (n : Int)).wf = true := by simp [Lit.wf, IntKind.min, IntKind.max, IntKind.bits, IntKind.signed]; omega
  have HU := Aside0.mk (under_calls W3 f2 g kb k Dk a.par (n : Int) hc2 HK3.out hg2 (by omega) HPW.out hnw)
  clear hg2 hm2 hx2 hl72 hl3 hnw hup hc2
  go_wp2_with fail
  refine (HU.out).mono ?_
  rintro e W4 ⟨rfl, D4, f4, hk4, hl4⟩
  have HK4 := Aside0.mk hk4
  have HL4 := Aside0.mk hl4
  clear hk4 hl4 cx1
  go_wp2_with fail
  go_ret
  obtain ⟨hg2, hm2, hx2, hl72⟩ := HFF.out
  have hn : n = ls.length := HNN.out
  have hIs : Maps.IsMap Dn := HNM2.out.isMap
  have hLx : (ls ++ [(⟨a.nm, a.par, a.sh, a.cl, 0⟩ : Acc)]).length = n + 1 := HLN.out
  have hn4 : ∀ x, x = 1 ∨ x = 2 ∨ x = 3 → ¬ K45 x := fun x hx h => by rcases h with h | h <;> omega
  refine ⟨by rw [← hn]; rfl, A7, c7, _, D4, f4, ⟨?_, ?_, (map_tn HO3.out HL4.out.tn (by rw [hm2]; exact hn4 _ (by decide))).mono (by omega), ?_, HK4.out, ?_, ?_, ?_, HT1.out.base⟩, ?_⟩
  · rw [hLx]; exact blk_tn HB3.out HL4.out.tn (by rw [hg2]; exact hn4 _ (by decide))
  · rw [hLx]; exact own_tn HO3r.out HL4.out.tn (fun i hi => by rw [hl72 i hi]; exact hn4 _ (by decide))
  · intro s hs
    by_cases e : strL s = strL a.nm
    · have h1 : s = a.nm := str_inj e
      rw [e]
      exact ⟨fun _ => ⟨⟨a.nm, a.par, a.sh, a.cl, 0⟩, by simp, h1.symm⟩, fun _ => Maps.has_put_same hIs (show WideAt.IsKeyLit (strL a.nm) from trivial) _⟩
    · have h0 := Maps.has_put_other (D := Dn) (k := strL a.nm) (k' := strL s) e (.lit (.int .i64 (n : Int)))
      have h1 := HT1.out.has s hs
      constructor
      · intro h
        obtain ⟨x, hx, hxn⟩ := h1.1 (h0.symm.trans h)
        exact ⟨x, by simp [hx], hxn⟩
      · rintro ⟨x, hx, hxn⟩
        refine h0.trans (h1.2 ?_)
        rcases List.mem_append.1 hx with h2 | h2
        · exact ⟨x, h2, hxn⟩
        · exfalso
          have : x = ⟨a.nm, a.par, a.sh, a.cl, 0⟩ := by simpa using h2
          subst this
          exact e (by rw [← hxn])
  · rw [HL4.out.lab g (blk_lt' HB3.out)]; exact hg2
  · intro b hb
    rw [hLx] at hb
    rw [HL4.out.lab b (HO3r.out.lt b hb).2]; exact hl72 b hb
  · rw [HL4.out.lab mb HO3.out.lt]; exact hm2
  · exact ((HL1.out.mono (U := K15) (fun _ h => h.elim)).trans HL3.out).trans (HL4.out.mono (fun x h => by unfold K15; rcases h with h | h <;> omega))
end Go.Proofs.YtbhijfbjdbjpbaaDoor.T
namespace Go.Proofs.YtbhijfbjdbjpbaaDoor.T
open Go.RowKit Go.Proofs.YtbhijfbjdbjpbaaDoorW.PrintWords Go.Proofs.YtbhijfbjdbjpbaaDoorW.PrintLast Go.Proofs.YtbhijfbjdbjpbaaDoor.H Go.Maps
set_option linter.unusedVariables false
set_option linter.unusedSimpArgs false
theorem new_st (w : World) : ∃ f : Nat → Int, TreeAt (((w.alloc (.map #[] 0)).alloc (.map #[] 0)).alloc (.cells #[.slice none 0 0, .map (some w.heap.size), .map (some (w.heap.size + 1))] 98)) w.heap.size f (w.heap.size + 1 + 1) [] none 0 w.heap.size (w.heap.size + 1) 0 (.map []) (.map []) ∧
    (∀ k, k < w.heap.size → f k = -1000) := by
  refine ⟨fun k => if k < w.heap.size then -1000 else if k = w.heap.size then 3 else if k = w.heap.size + 1 then 4 else 1, ⟨?_, own_nil _ _ _ _, ?_, ?_, ⟨?_, fun kl => ⟨none, rfl⟩, fun kl b h => ?_, ?_⟩, ?_, ?_, ?_, by omega⟩, fun k hk => if_pos hk⟩
  · have := heap_alloc_new ((w.alloc (.map #[] 0)).alloc (.map #[] 0)) (.cells #[.slice none 0 0, .map (some w.heap.size), .map (some (w.heap.size + 1))] 98)
    simpa using this
  · exact (((World.ownsMap_made w Tryd.prog 9 (plainElem Tryd.prog 3)).alloc _).alloc _)
  · intro s _
    simp [Maps.has]
  · have := (World.ownsMap_made (w.alloc (.map #[] 0)) Tryd.prog 3 RK).alloc (.cells #[.slice none 0 0, .map (some w.heap.size), .map (some (w.heap.size + 1))] 98)
    simpa using this
  · exfalso
    have h2 : (DataW.held (Value.map none)) = DataW.held (Value.map (some b)) := h
    injection h2 with h2
    injection h2 with h2
    cases h2
  · show (if _ then _ else _) = _; rw [if_neg (by omega), if_neg (by omega), if_pos rfl]
  · show (if _ then _ else _) = _; rw [if_neg (by omega), if_neg (by omega), if_neg (by omega)]
  · intro b hb; simp [Value.ownBlock] at hb
  · show (if _ then _ else _) = _; rw [if_neg (by omega), if_pos rfl]
/-- What New answers: a tree of its own, of the root alone. -/
def NewI (w : World) (e : Ending) (w' : World) : Prop :=
  ∃ (g : Nat) (A : Option Addr) (c mb kb : Nat) (Dn Dk : DataW Value) (f : Nat → Int), e = .returned (.pointer (some ⟨g, 0, none⟩)) ∧ TreeAt w' w.heap.size f g [rootA] A c mb kb 2 Dn Dk ∧ (∀ k, k < w.heap.size → f k = -1000) ∧ w.grownBy w' none
set_option maxHeartbeats 8000000 in
set_option maxRecDepth 100000 in
theorem new_calls (w : World) : Calls Tryd.prog 57 #[] w (NewI w) := by
  have hmk1 : ∀ W : World, (Instr.makeMap 95 none).run Tryd.prog W = .ok (.map (some W.heap.size)) (W.alloc (.map #[] 0)) := fun W => rfl
  have hmk2 : ∀ W : World, (Instr.makeMap 96 none).run Tryd.prog W = .ok (.map (some W.heap.size)) (W.alloc (.map #[] 0)) := fun W => rfl
  obtain ⟨f, hst, hf⟩ := new_st w
  have HT := Aside0.mk hst
  have HF := Aside0.mk hf
  have HG := Aside0.mk (((World.grownBy_alloc w (.map #[] 0) none).trans (World.grownBy_alloc _ (.map #[] 0) none)).trans (World.grownBy_alloc _ (.cells #[.slice none 0 0, .map (some w.heap.size), .map (some (w.heap.size + 1))] 98) none))
  clear hst hf
  go_enter Tryd.func57, Tryd.ntmps57
  go_upto_region 2 with (fail)
  generalize (((w.alloc (.map #[] 0)).alloc (.map #[] 0)).alloc (.cells #[.slice none 0 0, .map (some w.heap.size), .map (some (w.heap.size + 1))] 98)) = w1 at HT HG ⊢
  go_wp2_with fail
  refine (root_calls w1).mono ?_
  rintro e w2 ⟨rfl, hg⟩
  have HT2 := Aside0.mk (HT.out.gb hg)
  have HG2 := Aside0.mk (World.grownBy.trans HG.out hg)
  clear hg HT HG
  go_wp2_with fail
  refine (lay_calls w2 w.heap.size f (w.heap.size + 1 + 1) [] none 0 w.heap.size (w.heap.size + 1) 0 _ _ rootA HT2.out (by omega) (by simp) (by decide) (by decide)).mono ?_
  rintro e w3 ⟨rfl, A, c, Dn, Dk, f3, ht3, hl3⟩
  have HT3 := Aside0.mk ht3
  have HL3 := Aside0.mk hl3
  clear ht3 hl3
  go_wp2_with fail
  go_ret
  have hz : w.heap.size ≤ w2.heap.size := HG2.out.size
  refine ⟨_, A, c, _, _, Dn, Dk, f3, rfl, HT3.out, fun k hk => by rw [HL3.out.lab k (by omega)]; exact HF.out k hk, ?_⟩
  refine ⟨HL3.out.tn.os.trans HG2.out.os, HL3.out.tn.tape.trans HG2.out.tape, HL3.out.tn.output.trans HG2.out.output, Nat.le_trans hz HL3.out.tn.size, fun k hk _ => ?_⟩
  rw [HL3.out.tn.block k (by omega) (by rw [HF.out k hk]; unfold K15; omega)]
  exact HG2.out.block k hk (by simp)
end Go.Proofs.YtbhijfbjdbjpbaaDoor.T
namespace Go.Proofs.YtbhijfbjdbjpbaaDoor.T
open Go.RowKit
section
variable {P : Program} {d : Nat} {xs ys : Array Value} {f : Field} {fs : List Field} {a b : Value} {r s : Bool} {w : World}
theorem eqfC (hn : (f.name == "_") = false) (ha : (part f.type xs f.offset).run P w = .ok a w) (hb : (part f.type ys f.offset).run P w = .ok b w) (he : (Op.equalIn d f.type a b).run P w = .ok r w) (hr : (Op.eqFields d xs ys fs).run P w = .ok s w) : (Op.eqFields d xs ys (f :: fs)).run P w = .ok (r && s) w := by
  have hn' : f.name ≠ "_" := by simpa using hn
  rw [Op.eqFields]
  simp only [if_pos hn', Sem.run_bind, ha, hb, he, Result.andThen_ok]
  cases r
  · simp
  · simpa using hr
theorem eqfL (hn : (f.name == "_") = false) (ha : (part f.type xs f.offset).run P w = .ok a w) (hb : (part f.type ys f.offset).run P w = .ok b w) (he : (Op.equalIn d f.type a b).run P w = .ok r w) : (Op.eqFields d xs ys [f]).run P w = .ok r w := by
  have h := eqfC (fs := []) hn ha hb he (by simp [Op.eqFields] : (Op.eqFields d xs ys []).run P w = .ok true w)
  rwa [Bool.and_true] at h
theorem eqAO {t : TypeId} {fs : Array Field} (hu : P.underlying t = some (.struct fs)) (hp : P.stoodInHeld t = false) (h : (Op.eqFields d xs ys fs.toList).run P w = .ok r w) : (Op.equalIn (d + 1) t (.agg xs) (.agg ys)).run P w = .ok r w := by
  have hf : P.fieldsOf t = fs := by simp [Program.fieldsOf, hu]
  rw [run_equalIn_struct (P := P) w d t xs ys (by rw [hf]; exact hu) hp, hf]
  exact h
end
end Go.Proofs.YtbhijfbjdbjpbaaDoor.T
namespace Go.Proofs.YtbhijfbjdbjpbaaDoor.T
open Go.RowKit Go.Proofs.YtbhijfbjdbjpbaaDoorW.PrintWords Go.Proofs.YtbhijfbjdbjpbaaDoorW.PrintLast Go.Proofs.YtbhijfbjdbjpbaaDoor.H Go.Maps
set_option linter.unusedVariables false
set_option linter.unusedSimpArgs false
def accEq (a b : Acc) : Bool := (a.nm.toList == b.nm.toList) && ((a.par == b.par) && ((a.sh == b.sh) && ((a.cl == b.cl) && (a.us == b.us))))
theorem acc_equal (a b : Acc) (W : World) : (Op.equalIn 10000 37 (.agg (accV a)) (.agg (accV b))).run Tryd.prog W = .ok (accEq a b) W := by
  refine eqAO Tryd.underlying37 (by kernel_rfl) ?_
  refine eqfC (by rfl) (by kernel_rfl) (by kernel_rfl) (run_equalIn_string W _ _ _ _ Tryd.underlying9) ?_
  refine eqfC (by rfl) (by kernel_rfl) (by kernel_rfl) (run_equalIn_int W _ _ .i64 .i64 _ _ Tryd.underlying3) ?_
  refine eqfC (by rfl) (by kernel_rfl) (by kernel_rfl) (run_equalIn_int W _ _ .i64 .i64 _ _ Tryd.underlying3) ?_
  refine eqfC (by rfl) (by kernel_rfl) (by kernel_rfl) (run_equalIn_bool' W _ _ _ _ Tryd.underlying4) ?_
  refine eqfL (by rfl) (by kernel_rfl) (by kernel_rfl) (run_equalIn_int W _ _ .u64 .u64 _ _ Tryd.underlying25)
theorem acc_neq (a b : Acc) (W : World) : (binOp .neq 37 (.agg (accV a)) (.agg (accV b))).run Tryd.prog W = .ok (.bool (!accEq a b)) W := by
  have h : (Op.equal 37 (.agg (accV a)) (.agg (accV b))).run Tryd.prog W = _ := acc_equal a b W
  simp [binOp, h]
theorem toList_inj {s t : ByteArray} (h : s.toList = t.toList) : s = t := by
  rw [ByteArray.toList_eq, ByteArray.toList_eq] at h
  cases s; cases t
  simp at h
  simp [h]
theorem accEq_iff {a b : Acc} (h : accEq a b = true) : a = b := by
  unfold accEq at h
  simp only [Bool.and_eq_true, beq_iff_eq] at h
  obtain ⟨h1, h2, h3, h4, h5⟩ := h
  obtain ⟨n1, p1, s1, c1, u1⟩ := a
  obtain ⟨n2, p2, s2, c2, u2⟩ := b
  have := toList_inj h1
  simp only at this h2 h3 h4 h5
  subst this h2 h3 h4 h5
  rfl
def zeroU (a : Acc) : Acc := ⟨a.nm, a.par, a.sh, a.cl, 0⟩
def thereB (ls : List Acc) (s : ByteArray) : Bool := ls.any (fun a => a.nm.toList == s.toList)
theorem there_iff {ls : List Acc} {s : ByteArray} : thereB ls s = true ↔ ∃ a ∈ ls, a.nm = s := by
  unfold thereB
  rw [List.any_eq_true]
  constructor
  · rintro ⟨a, ha, h⟩
    exact ⟨a, ha, toList_inj (by simpa using h)⟩
  · rintro ⟨a, ha, h⟩
    exact ⟨a, ha, by simp [h]⟩
/-- What is wrong with the account at i. -/
def rowE (ls : List Acc) (i : Nat) (a : Acc) : Int :=
  if nameB a.nm = false then 60 else if thereB (ls.take i) a.nm = true then 61 else if a.par < 0 ∨ (ls.length : Int) ≤ a.par then 62 else if shB a.sh = false then 63 else 0
def rowsE (ls : List Acc) : Nat → Nat → Int
  | 0, _ => 0
  | k + 1, i => match ls[i]? with
    | none => 0
    | some a => if rowE ls i a = 0 then rowsE ls k (i + 1) else rowE ls i a
def depE (ls : List Acc) (i : Nat) : Int := if depV ls i < 0 then 67 else if 4 < depV ls i then 64 else 0
def depsE (ls : List Acc) : Nat → Nat → Int
  | 0, _ => 0
  | k + 1, i => if depE ls i = 0 then depsE ls k (i + 1) else depE ls i
/-- What Load says of a list. -/
def loadE (ls : List Acc) : Int :=
  match ls with
  | [] => 66
  | a :: r => if accEq (zeroU a) rootA = false then 66 else if 64 < (a :: r).length then 65 else if rowsE (a :: r) r.length 1 = 0 then depsE (a :: r) (a :: r).length 0 else rowsE (a :: r) r.length 1
theorem parV_zero (ls : List Acc) (n : Int) : parV (ls.map zeroU) n = parV ls n := by
  unfold parV
  rw [List.map_map]; rfl
theorem depL_zero (ls : List Acc) : ∀ (k : Nat) (d n : Int), depL (ls.map zeroU) k d n = depL ls k d n
  | 0, _, _ => rfl
  | k + 1, d, n => by rw [depL, depL, parV_zero, depL_zero ls k]
theorem depV_zero (ls : List Acc) (n : Int) : depV (ls.map zeroU) n = depV ls n := by
  unfold depV; rw [List.length_map, depL_zero]
theorem rows_pars {ls : List Acc} : ∀ (k i : Nat), i + k = ls.length → rowsE ls k i = 0 → ∀ (n : Nat), i ≤ n → n < ls.length → 0 ≤ parV ls n ∧ parV ls n < ls.length
  | 0, i, hk, _, n, h1, h2 => by omega
  | k + 1, i, hk, h, n, h1, h2 => by
    have hi : i < ls.length := by omega
    rw [rowsE, List.getElem?_eq_getElem hi] at h
    simp only at h
    by_cases hr : rowE ls i ls[i] = 0
    · rw [if_pos hr] at h
      rcases Nat.eq_or_lt_of_le h1 with e | e
      · subst e
        have hp : parV ls (i : Int) = ls[i].par := by
          unfold parV
          rw [Int.toNat_natCast, List.getD_eq_getElem?_getD, List.getElem?_map, List.getElem?_eq_getElem hi]; rfl
        rw [hp]
        unfold rowE at hr
        split at hr
        · cases hr
        · split at hr
          · cases hr
          · split at hr
            · cases hr
            · omega
      · exact rows_pars k (i + 1) (by omega) h n e h2
    · rw [if_neg hr] at h; exact absurd h hr
theorem load_pars {ls : List Acc} (h : rowsE ls (ls.length - 1) 1 = 0) (h1 : 1 ≤ ls.length) : Pars ls := fun n h2 h3 => by
  obtain ⟨m, rfl⟩ : ∃ m : Nat, n = m := ⟨n.toNat, by omega⟩
  exact rows_pars _ 1 (by omega) h m (by omega) (by omega)
/-- The five cells of the account at j, as a walk asks for them. -/
theorem acc_cells {w : World} {ad : Addr} {n : Nat} {ls : List Acc} (h : Rd Ec w (some ad) n ls) {i : Nat} {x : Acc} (hx : ls[i]? = some x) :
    w.cell? (ad.add (i * 5)) = some (.string x.nm) ∧ w.cell? ⟨(ad.add (i * 5)).block, (ad.add (i * 5)).off + 1, none⟩ = some (.int .i64 x.par) ∧ w.cell? ⟨(ad.add (i * 5)).block, (ad.add (i * 5)).off + 2, none⟩ = some (.int .i64 x.sh) ∧
      w.cell? ⟨(ad.add (i * 5)).block, (ad.add (i * 5)).off + 3, none⟩ = some (.bool x.cl) ∧ w.cell? ⟨(ad.add (i * 5)).block, (ad.add (i * 5)).off + 4, none⟩ = some (.int .u64 x.us) := by
  have hj : i < n := by have := (List.getElem?_eq_some_iff.1 hx).1; rw [h.1] at this; exact this
  obtain ⟨a, y, e, hy, hc⟩ := h.at_ i hj
  obtain rfl : y = x := Option.some.inj (hy.symm.trans hx)
  obtain rfl : ad = a := Option.some.inj e
  have off : ∀ k : Nat, 0 < k → ad.add (i * 5 + k) = ⟨(ad.add (i * 5)).block, (ad.add (i * 5)).off + k, none⟩ := fun k hk => by
    rw [← H.add_add]
    cases k with
    | zero => omega
    | succ k => rfl
  refine ⟨?_, ?_, ?_, ?_, ?_⟩
  · have := hc 0 _ rfl; simpa [Ec] using this
  · rw [← off 1 (by omega)]; exact hc 1 _ rfl
  · rw [← off 2 (by omega)]; exact hc 2 _ rfl
  · rw [← off 3 (by omega)]; exact hc 3 _ rfl
  · rw [← off 4 (by omega)]; exact hc 4 _ rfl
end Go.Proofs.YtbhijfbjdbjpbaaDoor.T
namespace Go.Proofs.YtbhijfbjdbjpbaaDoor.T
open Go.RowKit Go.Proofs.YtbhijfbjdbjpbaaDoorW.PrintWords Go.Proofs.YtbhijfbjdbjpbaaDoorW.PrintLast Go.Proofs.YtbhijfbjdbjpbaaDoor.H Go.Maps
set_option linter.unusedVariables false
set_option linter.unusedSimpArgs false
theorem rows_stop {ls : List Acc} {i k : Nat} {a : Acc} {q : Int} (h : ls[i]? = some a) (he : rowE ls i a = q) (hq : q ≠ 0) : rowsE ls (k + 1) i = q := by
  rw [rowsE, h]; simp only; rw [he, if_neg hq]
theorem rows_go {ls : List Acc} {i k : Nat} {a : Acc} (h : ls[i]? = some a) (he : rowE ls i a = 0) : rowsE ls (k + 1) i = rowsE ls k (i + 1) := by
  rw [rowsE, h]; simp only; rw [if_pos he]
theorem own_some {α : Type} {E : Enc α} {w : World} {base n c : Nat} {e : TypeId} {A : Option Addr} {xs : List α} (hl : xs.length = n) (h : w.ownsRow base e E.sz (.slice A n c) n (flat E xs)) (h0 : 0 < n) : ∃ g, A = some ⟨g, 0, none⟩ := by
  obtain ⟨ad, rfl, _⟩ := (own_rd hl h).2.2 h0
  exact ⟨ad.block, by rw [← (own_form h).2 ad rfl]⟩
theorem deps_go {ls : List Acc} {k i : Nat} (h : depE ls i = 0) : depsE ls (k + 1) i = depsE ls k (i + 1) := by rw [depsE, if_pos h]
theorem deps_stop {ls : List Acc} {k i : Nat} {q : Int} (h : depE ls i = q) (hq : q ≠ 0) : depsE ls (k + 1) i = q := by rw [depsE, if_neg (by rw [h]; exact hq)]; exact h
theorem there_zero (ls : List Acc) (s : ByteArray) : thereB (ls.map zeroU) s = thereB ls s := by
  unfold thereB; rw [List.any_map]; rfl
/-- Accounts as memory holds them. -/
def AccOk (ls : List Acc) : Prop := ∀ a ∈ ls, a.nm.size ≤ maxLen ∧ (Lit.int .i64 a.par).wf = true
def LoadI (w : World) (ls : List Acc) (e : Ending) (w' : World) : Prop := (∃ o, e = .returned (.tuple #[.pointer o, .int .i64 (loadE ls)])) ∧ w.grownBy w' none
set_option maxHeartbeats 8000000 in
set_option maxRecDepth 100000 in
theorem load_nil (w : World) (A : Option Addr) (c : Nat) : Calls Tryd.prog 33 #[.slice A 0 c] w (LoadI w []) := by
  go_enter Tryd.func33, Tryd.ntmps33
  go_wp2
  go_ret2
  exact ⟨⟨_, rfl⟩, gb_refl _ _⟩
set_option maxHeartbeats 8000000 in
set_option maxRecDepth 100000 in
theorem load_calls (w : World) (ad : Addr) (n c : Nat) (x : Acc) (r : List Acc) (hr : Rd Ec w (some ad) n (x :: r)) (hc : n ≤ c) (hok : AccOk (x :: r)) :
    Calls Tryd.prog 33 #[.slice (some ad) n c] w (LoadI w (x :: r)) := by
  have hn : (x :: r).length = n := hr.1
  have hn0 : 0 < n := by rw [← hn]; simp
  have hz0 : ((n : Int) == 0) = false := by simp; omega
  have hz1 : (n == 0) = false := by simp; omega
  have hcells := acc_cells (i := 0) hr rfl
  have e0 : ad.add (0 * 5) = ad := by simp [Addr.add]
  rw [e0] at hcells
  obtain ⟨h0, h1, h2, h3, h4⟩ := hcells
  have HR := Aside0.mk hr
  have HN := Aside0.mk hn
  have HOK := Aside0.mk hok
  have hlen : n ≤ 9223372036854775807 := hr.2.1
  clear hr hn hok e0
  go_enter Tryd.func33, Tryd.ntmps33
  go_upto_region 5 with (fail)
  obtain ⟨bx, hbx⟩ : ∃ bx, bx = w.heap.size := ⟨_, rfl⟩
  have HX1 := Aside0.mk (heap_alloc_new w (.cells #[.string x.nm, .int .i64 x.par, .int .i64 x.sh, .bool x.cl, .int .u64 0] 37))
  have HG1 := Aside0.mk (World.grownBy_alloc w (.cells #[.string x.nm, .int .i64 x.par, .int .i64 x.sh, .bool x.cl, .int .u64 0] 37) none)
  rw [← hbx] at HX1 ⊢
  generalize w.alloc (.cells #[.string x.nm, .int .i64 x.par, .int .i64 x.sh, .bool x.cl, .int .u64 0] 37) = W1 at HX1 HG1 ⊢
  clear hbx h0 h1 h2 h3 h4
  have HXd := Aside0.mk (show W1.drew.heap[bx]? = some (.cells #[.string x.nm, .int .i64 x.par, .int .i64 x.sh, .bool x.cl, .int .u64 0] 37 (0, 0)) from HX1.out)
  have HGd := Aside0.mk (World.grownBy.trans HG1.out (gb_drew W1 none))
  have hneq : ∀ W : World, (binOp .neq 37 (.agg #[.string x.nm, .int .i64 x.par, .int .i64 x.sh, .bool x.cl, .int .u64 0]) (.agg (accV rootA))).run Tryd.prog W = .ok (.bool (!accEq (zeroU x) rootA)) W := fun W => acc_neq (zeroU x) rootA W
  refine start_ (n := 3) (S := fun w' => w'.cell? ⟨bx, 0, none⟩ = some (.string x.nm) ∧ w'.cell? ⟨bx, 1, none⟩ = some (.int .i64 x.par) ∧ w'.cell? ⟨bx, 2, none⟩ = some (.int .i64 x.sh) ∧ w'.cell? ⟨bx, 3, none⟩ = some (.bool x.cl) ∧ w'.cell? ⟨bx, 4, none⟩ = some (.int .u64 0)) (ds := []) #[false, false, false] (by kernel_rfl) rfl rfl ⟨cell_of (j := 0) HXd.out rfl, cell_of (j := 1) HXd.out rfl, cell_of (j := 2) HXd.out rfl, cell_of (j := 3) HXd.out rfl, cell_of (j := 4) HXd.out rfl⟩ (fun hHeld => ?_)
  refine take_ (i := 0) (N := some 19) (v := ?_) (a' := ?_) #[true, false, false] rfl rfl (by kernel_rfl) (fun _ _ _ h => h) (Or.inl ⟨by rfl, ?_⟩) hHeld ?_ ?_
  rotate_left
  · rintro w' ⟨s0, s1, s2, s3, s4⟩
    go_simp
    with_reducible rfl
  rotate_left
  · simp only [Act.put, List.setIfInBounds_toArray, List.set_cons_zero, List.set_cons_succ, i64_w, i32_w]
    rfl
  refine one_ (i := 1) (N := some 20) #[true, true, false] rfl rfl (by kernel_rfl) (by decide) (fun K hK => ?_)
  refine goes_ Tryd.func56 (by kernel_rfl) rfl #[] (by rfl) rfl rfl (by simp only [List.map_toArray, List.map_cons, List.map_nil]; try rfl) ?_
  with_reducible refine ((root_calls W1.drew)).mono ?_
  rintro e W2 ⟨rfl, hg⟩
  refine ⟨_, rfl, ?_⟩
  have HX2 := Aside0.mk (blk_kept HXd.out hg (by simp)); have HG2 := Aside0.mk (World.grownBy.trans HGd.out hg); clear hg HXd HGd
  refine hK.out _ _ ⟨cell_of (j := 0) HX2.out rfl, cell_of (j := 1) HX2.out rfl, cell_of (j := 2) HX2.out rfl, cell_of (j := 3) HX2.out rfl, cell_of (j := 4) HX2.out rfl⟩ (fun hHeld => ?_)
  clear hK K
  refine norm_ (a' := ?_) ?_ ?_
  rotate_left
  · show Act.put _ (some 20) _ = _
    simp only [Act.put, List.setIfInBounds_toArray, List.set_cons_zero, List.set_cons_succ, i64_w, i32_w]
    rfl
  refine pure_ (i := 2) (N := some 21) (v := ?_) (a' := ?_) #[true, true, true] rfl rfl (by kernel_rfl) (fun _ _ _ h => h) (Or.inl ⟨by rfl, ?_⟩) ?_ ?_
  rotate_left
  · intro w'
    go_simp
    with_reducible rfl
  rotate_left
  · simp only [Act.put, List.setIfInBounds_toArray, List.set_cons_zero, List.set_cons_succ, i64_w, i32_w]
    rfl
  refine done_ (by kernel_rfl) ?_
  clear hneq
  by_cases hf : accEq (zeroU x) rootA = true
  · have hzx := accEq_iff hf
    have HZX := Aside0.mk hzx
    have HLE := Aside0.mk (show loadE (x :: r) = if 64 < n then 65 else if rowsE (x :: r) r.length 1 = 0 then depsE (x :: r) n 0 else rowsE (x :: r) r.length 1 by unfold loadE; simp only; rw [if_neg (by rw [hf]; decide), HN.out])
    rw [hf]
    clear hf hzx
    by_cases hbig : 64 < n
    · have hb : decide ((64 : Int) < (n : Int)) = true := decide_eq_true (by omega)
      have hb2 : decide (64 < n) = true := decide_eq_true hbig
      have HE := Aside0.mk (show loadE (x :: r) = 65 by rw [HLE.out, if_pos hbig])
      clear hbig
      go_wp2
      go_ret2
      exact ⟨⟨_, by rw [HE.out]; rfl⟩, HG2.out⟩
    · have hb : decide ((64 : Int) < (n : Int)) = false := decide_eq_false (by omega)
      have hb2 : decide (64 < n) = false := decide_eq_false hbig
      have hn64 : n ≤ 64 := by omega
      rw [if_neg hbig] at HLE
      clear hbig
      go_wp2_with fail
      refine (new_calls W2).mono ?_
      rintro e W3 ⟨g, A, c1, mb, kb, Dn, Dk, f, rfl, ht, hlow, hg⟩
      have HT3 := Aside0.mk ht
      have HLOW := Aside0.mk hlow
      have HG3 := Aside0.mk (World.grownBy.trans HG2.out hg)
      have HZ := Aside0.mk HG2.out.size
      clear ht hlow hg hb hb2
      obtain ⟨i0, hi0, hsz0⟩ := Option.map_eq_some_iff.1 (show (Tryd.prog.info? 37).map (·.size) = some 5 by kernel_rfl)
      obtain ⟨A', hcut, hrd, -⟩ := cut_at (P := Tryd.prog) Ec 24 37 .i64 Tryd.underlying24 hi0 hsz0 (some ad) n c 1 hn0
      have HRT := Aside0.mk (hrd w (x :: r) hc HR.out)
      have hcut2 : ∀ W : World, (Instr.slice 24 (.slice (some ad) n c) (some (.int .i64 1)) none none).run Tryd.prog W = .ok (.slice A' (n - 1) (c - 1)) W := hcut
      go_wp2_with fail
      obtain ⟨m, hm⟩ : ∃ m, m = n - 1 := ⟨_, rfl⟩
      rw [← hm] at HRT ⊢
      have HNM : Aside0 (n = m + 1 ∧ r.length = m) := ⟨by have := HN.out; simp at this; omega⟩
      have HRL := Aside0.mk HRT.out
      have hm64 : m ≤ 63 := by omega
      have HG2' := Aside0.mk HG2.out
      have HT0 := Aside0.mk (show TreeAt W3 W2.heap.size f g ((((x :: r).take (0 + 1)).map zeroU)) A c1 mb kb (2 + 2 * 0) Dn Dk by
        have := HT3.out
        rw [← HZX.out] at this
        simpa using this)
      clear hm hcut hrd hcut2 hi0 hsz0 HX2 HX1 HG1
      go_loopg [29] m (fun k v29 wr => ∃ (j : Nat) (f : Nat → Int) (A : Option Addr) (c1 : Nat) (Dn Dk : DataW Value), v29 = .int .i64 j ∧ Aside0 (j + k = m) ∧ j ≤ m ∧ Aside0 (TreeAt wr W2.heap.size f g ((((x :: r).take (j + 1)).map zeroU)) A c1 mb kb (2 + 2 * j) Dn Dk) ∧ Aside0 (∀ i, i < W2.heap.size → f i = -1000) ∧ Aside0 (w.grownBy wr none) ∧ Aside0 (rowsE (x :: r) k (j + 1) = rowsE (x :: r) m 1))
      case atStart => exact ⟨0, f, A, c1, Dn, Dk, rfl, ⟨by omega⟩, by omega, HT0, HLOW, HG3, ⟨rfl⟩⟩
      case round =>
        clear HT3 HLOW HT0
        obtain ⟨j, f, A, c1, Dn, Dk, rfl, HD, hj, HT, HLOW, HGw, HE⟩ := hrel
        have HRr := Aside0.mk (HRT.out.gb HGw.out)
        cases gk with
        | zero =>
          obtain rfl : j = m := by have := HD.out; omega
          have hnj : n = j + 1 := HNM.out.1
          have htk : (x :: r).take (j + 1) = x :: r := List.take_of_length_le (by rw [HN.out]; omega)
          have hrows : rowsE (x :: r) j 1 = 0 := HE.out.symm
          have hLE : loadE (x :: r) = depsE (x :: r) n 0 := by
            have h1 := HLE.out
            rw [HNM.out.2, if_pos hrows] at h1
            exact h1
          have hT := HT.out
          rw [htk] at hT
          have hlz : ((x :: r).map zeroU).length = n := by rw [List.length_map]; exact HN.out
          have hPars : Pars ((x :: r).map zeroU) := fun q h1 h2 => by
            rw [parV_zero, List.length_map]
            rw [List.length_map] at h2
            exact load_pars (by rw [HN.out, show n - 1 = j by omega]; exact hrows) (by rw [HN.out]; omega) q h1 h2
          obtain ⟨lb, hlb⟩ := own_some rfl hT.own (by rw [hlz]; omega)
          subst hlb
          have hblk := hT.blk
          have hown := hT.own
          rw [hlz] at hblk hown
          have kt := cell_of (j := 0) (v := .slice (some ⟨lb, 0, none⟩) n c1) hblk rfl
          have HTE := Aside0.mk hLE
          have HRZ := Aside0.mk (show Rd Ec wr (some ⟨lb, 0, none⟩) n ((x :: r).map zeroU) from own_rd hlz hown)
          have HPZ := Aside0.mk hPars
          clear hnj htk hrows hLE hT hlz hPars hblk hown
          obtain ⟨wo, rfl⟩ : ∃ wo, wo = wr := ⟨wr, rfl⟩
          go_wp2_with fail
          go_loopg [75] n (fun k v75 wr => ∃ (i : Nat), v75 = .int .i64 i ∧ Aside0 (i + k = n) ∧ i ≤ n ∧ Aside0 (depsE (x :: r) k i = depsE (x :: r) n 0) ∧ wo = wr)
          case atStart => exact ⟨0, rfl, ⟨by omega⟩, by omega, ⟨rfl⟩, rfl⟩
          case round =>
            clear HE HD
            obtain ⟨i, rfl, HD, hi, HE, rfl⟩ := hrel
            cases gk with
            | zero =>
              obtain rfl : i = n := by have := HD.out; omega
              have HEx := Aside0.mk (show loadE (x :: r) = 0 by rw [HTE.out, ← HE.out]; rfl)
              go_wp2
              go_ret2
              exact ⟨⟨_, by rw [HEx.out]; rfl⟩, HGw.out⟩
            | succ d =>
              have hlt : i < n := by have := HD.out; omega
              have hlt1 : decide ((i : Int) < (n : Int)) = true := decide_eq_true (by omega)
              go_wp2_with fail
              refine (depth_calls wo g lb n c1 ((x :: r).map zeroU) (i : Int) kt HRZ.out hn64 HPZ.out ⟨by omega, by omega⟩).mono ?_
              rintro e W9 ⟨rfl, rfl⟩
              rw [depV_zero]
              obtain ⟨dv, hdv⟩ : ∃ dv, dv = depV (x :: r) (i : Int) := ⟨_, rfl⟩
              have HDV := Aside0.mk (show depE (x :: r) i = if dv < 0 then 67 else if 4 < dv then 64 else 0 by unfold depE; rw [hdv])
              rw [← hdv]
              clear hdv
              by_cases h0 : dv < 0
              · have b1 : decide (dv < 0) = true := decide_eq_true h0
                rw [if_pos h0] at HDV
                have HEx := Aside0.mk (show loadE (x :: r) = 67 by
                  have h1 := HE.out
                  rw [deps_stop HDV.out (by decide)] at h1
                  rw [HTE.out, ← h1])
                clear h0
                go_wp2
                go_ret2
                exact ⟨⟨_, by rw [HEx.out]; rfl⟩, HGw.out⟩
              · have b1 : decide (dv < 0) = false := decide_eq_false h0
                rw [if_neg h0] at HDV
                by_cases h4 : 4 < dv
                · have b2 : decide (4 < dv) = true := decide_eq_true h4
                  rw [if_pos h4] at HDV
                  have HEx := Aside0.mk (show loadE (x :: r) = 64 by
                    have h1 := HE.out
                    rw [deps_stop HDV.out (by decide)] at h1
                    rw [HTE.out, ← h1])
                  clear h0 h4
                  go_wp2
                  go_ret2
                  exact ⟨⟨_, by rw [HEx.out]; rfl⟩, HGw.out⟩
                · have b2 : decide (4 < dv) = false := decide_eq_false h4
                  rw [if_neg h4] at HDV
                  clear h0 h4
                  go_wp2_with fail
                  go_roundg d
                  case measure => omega
                  case rel => exact ⟨i + 1, by go_num, ⟨by have := HD.out; omega⟩, by omega, ⟨by rw [← HE.out, deps_go HDV.out]⟩, rfl⟩
        | succ d =>
          have hlt : j < m := by have := HD.out; omega
          have hlt1 : decide ((j : Int) < (m : Int)) = true := decide_eq_true (by omega)
          have hji : (j : Int) < (m : Int) := by omega
          have hrl : r.length = m := HNM.out.2
          obtain ⟨a, ha⟩ : ∃ a, r[j]? = some a := ⟨_, List.getElem?_eq_getElem (by rw [hrl]; exact hlt)⟩
          have ha1 : (x :: r)[j + 1]? = some a := by simpa using ha
          obtain ⟨ad2, hA2, -⟩ := HRr.out.2.2 (by omega)
          subst hA2
          obtain ⟨h0, h1, h2, h3, h4⟩ := acc_cells HRr.out ha
          obtain ⟨hsz, hpw⟩ := HOK.out a (List.mem_of_getElem? ha1)
          have HA1 := Aside0.mk ha1
          have HSZ := Aside0.mk hsz
          have HPW := Aside0.mk hpw
          obtain ⟨b7, hb7⟩ : ∃ b7, b7 = wr.heap.size := ⟨_, rfl⟩
          have HB7 := Aside0.mk (heap_alloc_new wr (.cells #[.string a.nm, .int .i64 a.par, .int .i64 a.sh, .bool a.cl, .int .u64 a.us] 37))
          have HTb := Aside0.mk (HT.out.gb (World.grownBy_alloc wr (.cells #[.string a.nm, .int .i64 a.par, .int .i64 a.sh, .bool a.cl, .int .u64 a.us] 37) none))
          have HGb := Aside0.mk (World.grownBy.trans HGw.out (World.grownBy_alloc wr (.cells #[.string a.nm, .int .i64 a.par, .int .i64 a.sh, .bool a.cl, .int .u64 a.us] 37) none))
          have HZb := Aside0.mk hb7
          rw [← hb7] at HB7
          clear ha ha1 hsz hpw hrl
          go_upto_region 13 with (fail)
          rw [← hb7]
          generalize wr.alloc (.cells #[.string a.nm, .int .i64 a.par, .int .i64 a.sh, .bool a.cl, .int .u64 a.us] 37) = Wb at HB7 HTb HGb ⊢
          clear h0 h1 h2 h3 h4 hb7 HT HGw
          have HHas := Aside0.mk (show Maps.has Dn (strL a.nm) = thereB ((x :: r).take (j + 1)) a.nm by
            have h1 := HTb.out.has a.nm HSZ.out
            rw [← there_iff, there_zero] at h1
            exact Bool.eq_iff_iff.2 h1)
          have HTbd := Aside0.mk (HTb.out.gb (gb_drew Wb none))
          have HB7d := Aside0.mk (show Wb.drew.heap[b7]? = some (.cells #[.string a.nm, .int .i64 a.par, .int .i64 a.sh, .bool a.cl, .int .u64 a.us] 37 (0, 0)) from HB7.out)
          have HGbd := Aside0.mk (World.grownBy.trans HGb.out (gb_drew Wb none))
          obtain ⟨v8, ps, hlk, -⟩ := HTbd.out.nm.look_ok (string_keyed Tryd.underlying9) Tryd.underlying95 (z := .int .i64 0) (by kernel_rfl) (zd := .lit (.int .i64 0)) (zp := []) (plainElem_int Tryd.underlying3 (by decide)) (WideMaps.keyOf_string_mk Tryd.underlying9 HSZ.out)
          have hlk2 : (Instr.lookup 95 (.map (some mb)) (.string a.nm) true).run Tryd.prog Wb.drew = .ok (.tuple #[v8, .bool (thereB ((x :: r).take (j + 1)) a.nm)]) Wb.drew := by rw [← HHas.out]; exact hlk
          obtain ⟨th, hth⟩ : ∃ th, th = thereB ((x :: r).take (j + 1)) a.nm := ⟨_, rfl⟩
          have HTH := Aside0.mk hth
          rw [← hth] at hlk2
          clear hlk hth
          refine start_ (n := 12) (S := fun w' => w'.cell? ⟨g, 1, none⟩ = some (.map (some mb)) ∧ w'.cell? ⟨b7, 0, none⟩ = some (.string a.nm)) (ds := []) #[false, false, false, false, false, false, false, false, false, false, false, false] (by kernel_rfl) rfl rfl ⟨cell_of (j := 1) HTbd.out.blk rfl, cell_of (j := 0) HB7d.out rfl⟩ (fun hHeld => ?_)
          refine pure_ (i := 0) (N := some 34) (v := ?_) (a' := ?_) #[true, false, false, false, false, false, false, false, false, false, false, false] rfl rfl (by kernel_rfl) (fun _ _ _ h => h) (Or.inl ⟨by rfl, ?_⟩) ?_ ?_
          rotate_left
          · intro w'
            go_simp
            with_reducible rfl
          rotate_left
          · simp only [Act.put, List.setIfInBounds_toArray, List.set_cons_zero, List.set_cons_succ, i64_w, i32_w]
            rfl
          refine pure_ (i := 1) (N := some 35) (v := ?_) (a' := ?_) #[true, true, false, false, false, false, false, false, false, false, false, false] rfl rfl (by kernel_rfl) (fun _ _ _ h => h) (Or.inl ⟨by rfl, ?_⟩) ?_ ?_
          rotate_left
          · intro w'
            go_simp
            with_reducible rfl
          rotate_left
          · simp only [Act.put, List.setIfInBounds_toArray, List.set_cons_zero, List.set_cons_succ, i64_w, i32_w]
            rfl
          refine pure_ (i := 2) (N := some 36) (v := ?_) (a' := ?_) #[true, true, true, false, false, false, false, false, false, false, false, false] rfl rfl (by kernel_rfl) (fun _ _ _ h => h) (Or.inl ⟨by rfl, ?_⟩) ?_ ?_
          rotate_left
          · intro w'
            go_simp
            with_reducible rfl
          rotate_left
          · simp only [Act.put, List.setIfInBounds_toArray, List.set_cons_zero, List.set_cons_succ, i64_w, i32_w]
            rfl
          refine pure_ (i := 4) (N := some 38) (v := ?_) (a' := ?_) #[true, true, true, false, true, false, false, false, false, false, false, false] rfl rfl (by kernel_rfl) (fun _ _ _ h => h) (Or.inl ⟨by rfl, ?_⟩) ?_ ?_
          rotate_left
          · intro w'
            go_simp
            with_reducible rfl
          rotate_left
          · simp only [Act.put, List.setIfInBounds_toArray, List.set_cons_zero, List.set_cons_succ, i64_w, i32_w]
            rfl
          refine take_ (i := 3) (N := some 37) (v := ?_) (a' := ?_) #[true, true, true, true, true, false, false, false, false, false, false, false] rfl rfl (by kernel_rfl) (fun _ _ _ h => h) (Or.inl ⟨by rfl, ?_⟩) hHeld ?_ ?_
          rotate_left
          · rintro w' ⟨s0, s1⟩
            go_simp
            with_reducible rfl
          rotate_left
          · simp only [Act.put, List.setIfInBounds_toArray, List.set_cons_zero, List.set_cons_succ, i64_w, i32_w]
            rfl
          refine take_ (i := 5) (N := some 39) (v := ?_) (a' := ?_) #[true, true, true, true, true, true, false, false, false, false, false, false] rfl rfl (by kernel_rfl) (fun _ _ _ h => h) (Or.inl ⟨by rfl, ?_⟩) hHeld ?_ ?_
          rotate_left
          · rintro w' ⟨s0, s1⟩
            go_simp
            with_reducible rfl
          rotate_left
          · simp only [Act.put, List.setIfInBounds_toArray, List.set_cons_zero, List.set_cons_succ, i64_w, i32_w]
            rfl
          refine one_ (i := 6) (N := some 40) #[true, true, true, true, true, true, true, false, false, false, false, false] rfl rfl (by kernel_rfl) (by decide) (fun K hK => ?_)
          refine value_ (w1 := ?_) (v := ?_) (by rfl) rfl ?_ ?_
          rotate_left 2
          · go_simp
            constructor
            · rfl
            · rfl
          refine hK.out _ _ ⟨cell_of (j := 1) HTbd.out.blk rfl, cell_of (j := 0) HB7d.out rfl⟩ (fun hHeld => ?_)
          clear hK K
          refine norm_ (a' := ?_) ?_ ?_
          rotate_left
          · show Act.put _ (some 40) _ = _
            simp only [Act.put, List.setIfInBounds_toArray, List.set_cons_zero, List.set_cons_succ, i64_w, i32_w]
            rfl
          refine pure_ (i := 7) (N := some 33) (v := ?_) (a' := ?_) #[true, true, true, true, true, true, true, true, false, false, false, false] rfl rfl (by kernel_rfl) (fun _ _ _ h => h) (Or.inl ⟨by rfl, ?_⟩) ?_ ?_
          rotate_left
          · intro w'
            go_simp
            with_reducible rfl
          rotate_left
          · simp only [Act.put, List.setIfInBounds_toArray, List.set_cons_zero, List.set_cons_succ, i64_w, i32_w]
            rfl
          refine pure_ (i := 8) (N := some 41) (v := ?_) (a' := ?_) #[true, true, true, true, true, true, true, true, true, false, false, false] rfl rfl (by kernel_rfl) (fun _ _ _ h => h) (Or.inl ⟨by rfl, ?_⟩) ?_ ?_
          rotate_left
          · intro w'
            go_simp
            with_reducible rfl
          rotate_left
          · simp only [Act.put, List.setIfInBounds_toArray, List.set_cons_zero, List.set_cons_succ, i64_w, i32_w]
            rfl
          refine pure_ (i := 9) (N := some 42) (v := ?_) (a' := ?_) #[true, true, true, true, true, true, true, true, true, true, false, false] rfl rfl (by kernel_rfl) (fun _ _ _ h => h) (Or.inl ⟨by rfl, ?_⟩) ?_ ?_
          rotate_left
          · intro w'
            go_simp
            with_reducible rfl
          rotate_left
          · simp only [Act.put, List.setIfInBounds_toArray, List.set_cons_zero, List.set_cons_succ, i64_w, i32_w]
            rfl
          refine pure_ (i := 10) (N := some 8) (v := ?_) (a' := ?_) #[true, true, true, true, true, true, true, true, true, true, true, false] rfl rfl (by kernel_rfl) (fun _ _ _ h => h) (Or.inl ⟨by rfl, ?_⟩) ?_ ?_
          rotate_left
          · intro w'
            go_simp
            with_reducible rfl
          rotate_left
          · simp only [Act.put, List.setIfInBounds_toArray, List.set_cons_zero, List.set_cons_succ, i64_w, i32_w]
            rfl
          refine pure_ (i := 11) (N := some 9) (v := ?_) (a' := ?_) #[true, true, true, true, true, true, true, true, true, true, true, true] rfl rfl (by kernel_rfl) (fun _ _ _ h => h) (Or.inl ⟨by rfl, ?_⟩) ?_ ?_
          rotate_left
          · intro w'
            go_simp
            with_reducible rfl
          rotate_left
          · simp only [Act.put, List.setIfInBounds_toArray, List.set_cons_zero, List.set_cons_succ, i64_w, i32_w]
            rfl
          refine done_ (by kernel_rfl) ?_
          have k0 := cell_of (j := 0) (v := .string a.nm) HB7d.out rfl
          have k1 := cell_of (j := 1) (v := .int .i64 a.par) HB7d.out rfl
          have k2 := cell_of (j := 2) (v := .int .i64 a.sh) HB7d.out rfl
          have k3 := cell_of (j := 3) (v := .bool a.cl) HB7d.out rfl
          have k4 := cell_of (j := 4) (v := .int .u64 a.us) HB7d.out rfl
          have hsz2 : a.nm.size ≤ 9223372036854775807 := by have := HSZ.out; simpa only [maxLen] using this
          go_wp2_with fail
          refine (name_calls Wb.drew a.nm hsz2).mono ?_
          rintro e Wd ⟨rfl, hg⟩
          have HTd := Aside0.mk (HTbd.out.gb hg)
          have HB7e := Aside0.mk (blk_kept HB7d.out hg (by simp))
          have HGd := Aside0.mk (World.grownBy.trans HGbd.out hg)
          clear hg k0 k1 k2 k3 k4 hsz2 HTbd HB7d HGbd HTb HB7 HGb
          have k0 := cell_of (j := 0) (v := .string a.nm) HB7e.out rfl
          have k1 := cell_of (j := 1) (v := .int .i64 a.par) HB7e.out rfl
          have k2 := cell_of (j := 2) (v := .int .i64 a.sh) HB7e.out rfl
          have k3 := cell_of (j := 3) (v := .bool a.cl) HB7e.out rfl
          have k4 := cell_of (j := 4) (v := .int .u64 a.us) HB7e.out rfl
          by_cases hnb : nameB a.nm = true
          · rw [hnb]
            cases th with
            | true =>
              have HR1 := Aside0.mk (show rowE (x :: r) (j + 1) a = 61 by unfold rowE; rw [if_neg (by rw [hnb]; decide), if_pos HTH.out.symm])
              clear hnb
              have HEx := Aside0.mk (show loadE (x :: r) = 61 by
                have h1 := HE.out
                rw [rows_stop HA1.out HR1.out (by decide)] at h1
                rw [HLE.out, HNM.out.2, ← h1]; rfl)
              go_wp2
              go_ret2
              exact ⟨⟨_, by rw [HEx.out]; rfl⟩, HGd.out⟩
            | false =>
              by_cases hp0 : a.par < 0
              · have b1 : decide (a.par < 0) = true := decide_eq_true hp0
                have HR1 := Aside0.mk (show rowE (x :: r) (j + 1) a = 62 by unfold rowE; rw [if_neg (by rw [hnb]; decide), if_neg (by rw [← HTH.out]; decide), if_pos (.inl hp0)])
                clear hnb hp0
                have HEx := Aside0.mk (show loadE (x :: r) = 62 by
                  have h1 := HE.out
                  rw [rows_stop HA1.out HR1.out (by decide)] at h1
                  rw [HLE.out, HNM.out.2, ← h1]; rfl)
                go_wp2
                go_ret2
                exact ⟨⟨_, by rw [HEx.out]; rfl⟩, HGd.out⟩
              have b1 : decide (a.par < 0) = false := decide_eq_false hp0
              by_cases hp1 : (n : Int) ≤ a.par
              · have b2 : decide ((n : Int) ≤ a.par) = true := decide_eq_true hp1
                have HR1 := Aside0.mk (show rowE (x :: r) (j + 1) a = 62 by unfold rowE; rw [if_neg (by rw [hnb]; decide), if_neg (by rw [← HTH.out]; decide), if_pos (.inr (by rw [HN.out]; exact hp1))])
                clear hnb hp0 hp1
                have HEx := Aside0.mk (show loadE (x :: r) = 62 by
                  have h1 := HE.out
                  rw [rows_stop HA1.out HR1.out (by decide)] at h1
                  rw [HLE.out, HNM.out.2, ← h1]; rfl)
                go_wp2
                go_ret2
                exact ⟨⟨_, by rw [HEx.out]; rfl⟩, HGd.out⟩
              have b2 : decide ((n : Int) ≤ a.par) = false := decide_eq_false hp1
              have HR0 := Aside0.mk (show rowE (x :: r) (j + 1) a = if shB a.sh = false then 63 else 0 by unfold rowE; rw [if_neg (by rw [hnb]; decide), if_neg (by rw [← HTH.out]; decide), if_neg (by rw [HN.out]; omega)])
              clear hnb hp0 hp1
              go_wp2_with fail
              refine (shares_calls Wd a.sh).mono ?_
              rintro e We ⟨rfl, rfl⟩
              by_cases hs : shB a.sh = true
              · rw [hs]
                have HR1 := Aside0.mk (show rowE (x :: r) (j + 1) a = 0 by rw [HR0.out, if_neg (by rw [hs]; decide)])
                clear hs
                go_wp2_with fail
                refine (lay_calls Wd W2.heap.size f g _ A c1 mb kb (2 + 2 * j) Dn Dk a HTd.out (by omega) (by rw [List.length_map, List.length_take]; omega) HPW.out HSZ.out).mono ?_
                rintro e Wf ⟨rfl, A5, c5, Dn5, Dk5, f5, ht5, hl5⟩
                have HT5 := Aside0.mk ht5
                have HL5 := Aside0.mk hl5
                clear ht5 hl5
                go_wp2_with fail
                go_roundg d
                case measure => omega
                case rel =>
                  have hz2 : W2.heap.size ≤ Wd.heap.size := by have h1 := HTd.out.nm.lt; have h2 := HGd.out.size; have h3 := HTd.out.base; have h4 := blk_lt' HTd.out.blk; omega
                  refine ⟨j + 1, f5, A5, c5, Dn5, Dk5, by go_num, ⟨by have := HD.out; omega⟩, by omega, ⟨?_⟩, ⟨fun i hi => by rw [HL5.out.lab i (by omega)]; exact HLOW.out i hi⟩, ⟨?_⟩, ⟨?_⟩⟩
                  · have h1 := HT5.out
                    have e1 : ((x :: r).take (j + 1)).map zeroU ++ [(⟨a.nm, a.par, a.sh, a.cl, 0⟩ : Acc)] = ((x :: r).take (j + 1 + 1)).map zeroU := by
                      rw [List.take_add_one (i := j + 1), HA1.out, List.map_append]; rfl
                    rw [e1] at h1
                    exact h1
                  · have hz1 : w.heap.size ≤ W2.heap.size := HZ.out
                    refine ⟨HL5.out.tn.os.trans HGd.out.os, HL5.out.tn.tape.trans HGd.out.tape, HL5.out.tn.output.trans HGd.out.output, Nat.le_trans HGd.out.size HL5.out.tn.size, fun q hq _ => ?_⟩
                    rw [HL5.out.tn.block q (by omega) (by rw [HLOW.out q (by omega)]; unfold K15; omega)]
                    exact HGd.out.block q hq (by simp)
                  · have h1 := HE.out
                    rw [rows_go HA1.out HR1.out] at h1
                    exact h1
              · have hs' : shB a.sh = false := by simpa using hs
                rw [hs']
                have HR1 := Aside0.mk (show rowE (x :: r) (j + 1) a = 63 by rw [HR0.out, if_pos hs'])
                clear hs hs'
                have HEx := Aside0.mk (show loadE (x :: r) = 63 by
                  have h1 := HE.out
                  rw [rows_stop HA1.out HR1.out (by decide)] at h1
                  rw [HLE.out, HNM.out.2, ← h1]; rfl)
                go_wp2
                go_ret2
                exact ⟨⟨_, by rw [HEx.out]; rfl⟩, HGd.out⟩
          · have hnb' : nameB a.nm = false := by simpa using hnb
            rw [hnb']
            have HR1 := Aside0.mk (show rowE (x :: r) (j + 1) a = 60 by unfold rowE; rw [if_pos hnb'])
            clear hnb hnb'
            have HEx := Aside0.mk (show loadE (x :: r) = 60 by
              have h1 := HE.out
              rw [rows_stop HA1.out HR1.out (by decide)] at h1
              rw [HLE.out, HNM.out.2, ← h1]; rfl)
            go_wp2
            go_ret2
            exact ⟨⟨_, by rw [HEx.out]; rfl⟩, HGd.out⟩
  · have hf' : accEq (zeroU x) rootA = false := by simpa using hf
    have HE := Aside0.mk (show loadE (x :: r) = 66 by unfold loadE; simp only; rw [if_pos hf'])
    rw [hf']
    clear hf
    go_wp2
    go_ret2
    exact ⟨⟨_, by rw [HE.out]; rfl⟩, HG2.out⟩
end Go.Proofs.YtbhijfbjdbjpbaaDoor.T
namespace Go.Proofs.YtbhijfbjdbjpbaaDoor.T
open Go.RowKit Go.Proofs.YtbhijfbjdbjpbaaDoorW.PrintWords Go.Proofs.YtbhijfbjdbjpbaaDoorW.PrintLast Go.Proofs.YtbhijfbjdbjpbaaDoor.H Go.Maps
set_option linter.unusedVariables false
set_option linter.unusedSimpArgs false
def findL : List Acc → Nat → ByteArray → Int
  | [], _, _ => -1
  | a :: r, i, s => if a.nm.toList == s.toList then (i : Int) else findL r (i + 1) s
theorem find_drop {ls : List Acc} {i : Nat} {a : Acc} {s : ByteArray} (h : ls[i]? = some a) (k : Nat) : findL (ls.drop i) k s = if a.nm.toList == s.toList then (k : Int) else findL (ls.drop (i + 1)) (k + 1) s := by
  have hl := (List.getElem?_eq_some_iff.1 h).1
  rw [List.drop_eq_getElem_cons hl]
  have : ls[i] = a := (List.getElem?_eq_some_iff.1 h).2
  rw [this, findL]
theorem find_there : ∀ (ls : List Acc) (i k : Nat) (a : Acc), ls[i]? = some a → (findL ls k a.nm = ((k + i : Nat) : Int) ↔ thereB (ls.take i) a.nm = false)
  | [], _, _, _, h => by simp at h
  | b :: r, 0, k, a, h => by
    have : b = a := by simpa using h
    subst this
    simp [findL, thereB]
  | b :: r, i + 1, k, a, h => by
    have h' : r[i]? = some a := by simpa using h
    have ih := find_there r i (k + 1) a h'
    rw [findL, List.take_succ_cons]
    by_cases e : (b.nm.toList == a.nm.toList) = true
    · rw [if_pos e]
      constructor
      · intro h2; omega
      · intro h2; simp [thereB, e] at h2
    · rw [if_neg e]
      have e' : (b.nm.toList == a.nm.toList) = false := by simpa using e
      have : thereB (b :: r.take i) a.nm = thereB (r.take i) a.nm := by simp only [thereB, List.any_cons, e', Bool.false_or]
      rw [this, ← ih, show k + (i + 1) = k + 1 + i by omega]
set_option maxHeartbeats 8000000 in
set_option maxRecDepth 100000 in
theorem find_calls (w : World) (A : Option Addr) (n c : Nat) (ls : List Acc) (s : ByteArray) (hr : Rd Ec w A n ls) :
    Calls Tryd.prog 48 #[.slice A n c, .string s] w fun e w' => e = .returned (.int .i64 (findL ls 0 s)) ∧ w.grownBy w' none := by
  have hlen := hr.2.1
  have HR := Aside0.mk hr
  have HN := Aside0.mk hr.1
  clear hr
  go_enter Tryd.func48, Tryd.ntmps48
  go_wp2_with fail
  go_loopg [9] n (fun k v9 wr => ∃ (j : Nat), v9 = .int .i64 j ∧ Aside0 (j + k = n) ∧ j ≤ n ∧ Aside0 (findL (ls.drop j) j s = findL ls 0 s) ∧ Aside0 (w.grownBy wr none))
  case atStart => exact ⟨0, rfl, ⟨by omega⟩, by omega, ⟨rfl⟩, ⟨gb_refl _ _⟩⟩
  case round =>
    obtain ⟨j, rfl, HD, hj, HE, HG⟩ := hrel
    cases gk with
    | zero =>
      obtain rfl : j = n := by have := HD.out; omega
      have HF := Aside0.mk (show findL ls 0 s = -1 by rw [← HE.out, List.drop_of_length_le (by rw [HN.out]; exact Nat.le_refl _)]; rfl)
      go_wp2
      go_ret
      exact ⟨by rw [HF.out]; rfl, HG.out⟩
    | succ d =>
      have hlt : j < n := by have := HD.out; omega
      have hlt1 : decide ((j : Int) < (n : Int)) = true := decide_eq_true (by omega)
      have hji : (j : Int) < (n : Int) := by omega
      obtain ⟨a, ha⟩ : ∃ a, ls[j]? = some a := ⟨_, List.getElem?_eq_getElem (by rw [HN.out]; exact hlt)⟩
      have HR1 := Aside0.mk (HR.out.gb HG.out)
      obtain ⟨ad, rfl, -⟩ := HR1.out.2.2 (by omega)
      obtain ⟨h0, h1, h2, h3, h4⟩ := acc_cells HR1.out ha
      have hz := HE.out
      rw [find_drop ha] at hz
      by_cases e : (a.nm.toList == s.toList) = true
      · rw [if_pos e] at hz
        have HF := Aside0.mk hz.symm
        clear hz ha HE
        go_wp2
        go_ret
        exact ⟨by rw [HF.out]; rfl, World.grownBy.trans HG.out (World.grownBy_alloc _ _ none)⟩
      · have e' : (a.nm.toList == s.toList) = false := by simpa using e
        rw [if_neg e] at hz
        have HF := Aside0.mk hz
        clear hz ha HE e
        go_wp2
        go_roundg d
        case measure => omega
        case rel => exact ⟨j + 1, by go_num, ⟨by have := HD.out; omega⟩, by omega, HF, ⟨World.grownBy.trans HG.out (World.grownBy_alloc _ _ none)⟩⟩
theorem acc_cell_at {w : World} {ad : Addr} {n : Nat} {ls : List Acc} (h : Rd Ec w (some ad) n ls) {i : Nat} (hi : i < n) : w.cell? ⟨(ad.add (i * 5)).block, (ad.add (i * 5)).off + 1, none⟩ = some (.int .i64 (parV ls (i : Int))) := by
  obtain ⟨a, ha⟩ : ∃ a, ls[i]? = some a := ⟨_, List.getElem?_eq_getElem (by rw [h.1]; exact hi)⟩
  have e2 : parV ls (i : Int) = a.par := by
    unfold parV
    rw [Int.toNat_natCast, List.getD_eq_getElem?_getD, List.getElem?_map, ha]; rfl
  rw [e2]
  exact (acc_cells h ha).2.1
set_option maxHeartbeats 8000000 in
set_option maxRecDepth 100000 in
theorem rdepth_calls (w : World) (ad : Addr) (n c : Nat) (ls : List Acc) (v : Int) (hr : Rd Ec w (some ad) n ls) (hn : n ≤ 64) (hp : Pars ls) (hv : 0 ≤ v ∧ v < n) :
    Calls Tryd.prog 26 #[.slice (some ad) n c, .int .i64 v] w fun e w' => e = .returned (.int .i64 (depV ls v)) ∧ w = w' := by
  have HR := Aside0.mk hr
  have HN := Aside0.mk hr.1
  have HP := Aside0.mk hp
  have HV := Aside0.mk hv
  clear hr hp hv
  go_enter Tryd.func26, Tryd.ntmps26
  go_wp2_with fail
  go_loopg [1, 5] (n + 1) (fun k v1 v5 wr => ∃ (d : Nat) (m : Int), v1 = .int .i64 m ∧ v5 = .int .i64 d ∧ Aside0 (d + k = n + 1) ∧ d ≤ n + 1 ∧ Aside0 (0 ≤ m ∧ m < n) ∧ Aside0 (depL ls k (d : Int) m = depV ls v) ∧ w = wr)
  case atStart => exact ⟨0, v, rfl, rfl, ⟨by omega⟩, by omega, HV, ⟨by unfold depV; rw [HN.out]; rfl⟩, rfl⟩
  case round =>
    obtain ⟨d, m, rfl, rfl, HD, hd, HM, HE, rfl⟩ := hrel
    cases gk with
    | zero =>
      obtain rfl : d = n + 1 := by have := HD.out; omega
      have HF := Aside0.mk (show depV ls v = -1 from HE.out.symm)
      have hb : decide ((n : Int) + 1 ≤ (n : Int)) = false := decide_eq_false (by omega)
      go_wp2
      go_ret
      exact ⟨by rw [HF.out]; rfl, rfl⟩
    | succ k =>
      have hdn : d ≤ n := by have := HD.out; omega
      have hb : decide ((d : Int) ≤ (n : Int)) = true := decide_eq_true (by omega)
      have hb2 : decide (d ≤ n) = true := decide_eq_true hdn
      by_cases h0 : m = 0
      · have hb3 : (m == 0) = true := by simp [h0]
        have HF := Aside0.mk (show depV ls v = (d : Int) by rw [← HE.out, depL, if_pos h0])
        clear h0
        go_wp2
        go_ret
        exact ⟨by rw [HF.out]; rfl, rfl⟩
      · have hb3 : (m == 0) = false := by simp [h0]
        obtain ⟨q, hq⟩ : ∃ q : Nat, m = q := ⟨m.toNat, by have := HM.out; omega⟩
        have HF := Aside0.mk (show depL ls k ((d : Int) + 1) (parV ls m) = depV ls v by rw [← HE.out, depL, if_neg h0])
        have HM2 := Aside0.mk (show 0 ≤ parV ls m ∧ parV ls m < n from by have h1 := HP.out m (by have := HM.out; omega) (by have := HM.out; have := HN.out; omega); have := HN.out; omega)
        subst hq
        have hqn : q < n := by have := HM.out; omega
        have hqn2 : (q : Int) < (n : Int) := by omega
        have hcq := acc_cell_at HR.out hqn
        clear h0 HE HM
        go_wp2
        go_roundg k
        case measure => omega
        case rel => exact ⟨d + 1, _, rfl, by go_num, ⟨by have := HD.out; omega⟩, by omega, HM2, ⟨by have := HF.out; simpa using this⟩, rfl⟩
set_option maxHeartbeats 8000000 in
set_option maxRecDepth 100000 in
theorem rname_calls (w : World) (s : ByteArray) (hs : s.size ≤ 9223372036854775807) :
    Calls Tryd.prog 47 #[.string s] w fun e w' => e = .returned (.bool (nameB s)) ∧ w = w' := by
  by_cases h1 : s.size < 1
  · have b1 : decide (s.size < 1) = true := decide_eq_true h1
    have b2 : decide ((s.size : Int) < 1) = true := decide_eq_true (by omega)
    have HE := Aside0.mk (show nameB s = false by unfold nameB; rw [decide_eq_false (show ¬ 1 ≤ s.size by omega)]; simp)
    clear h1
    go_enter Tryd.func47, Tryd.ntmps47
    go_wp2
    go_ret
    exact ⟨by rw [HE.out]; rfl, rfl⟩
  have b1 : decide (s.size < 1) = false := decide_eq_false h1
  have b2 : decide ((s.size : Int) < 1) = false := decide_eq_false (by omega)
  by_cases h2 : 32 < s.size
  · have b3 : decide (32 < s.size) = true := decide_eq_true h2
    have b4 : decide (32 < (s.size : Int)) = true := decide_eq_true (by omega)
    have HE := Aside0.mk (show nameB s = false by unfold nameB; rw [decide_eq_false (show ¬ s.size ≤ 32 by omega)]; simp)
    clear h1 h2
    go_enter Tryd.func47, Tryd.ntmps47
    go_wp2
    go_ret
    exact ⟨by rw [HE.out]; rfl, rfl⟩
  have b3 : decide (32 < s.size) = false := decide_eq_false h2
  have b4 : decide (32 < (s.size : Int)) = false := decide_eq_false (by omega)
  have HSz := Aside0.mk (show (decide (1 ≤ s.size) && decide (s.size ≤ 32)) = true by simp; omega)
  have HL := Aside0.mk (bytesOf_length s)
  obtain ⟨xs, hxs⟩ : ∃ xs, xs = bytesOf s := ⟨_, rfl⟩
  have HXS := Aside0.mk hxs
  rw [← hxs] at HL
  clear hxs h1 h2
  go_enter Tryd.func47, Tryd.ntmps47
  go_wp2_with fail
  go_loopg [15] s.size (fun k v15 wr => ∃ (j : Nat), v15 = .int .i64 j ∧ Aside0 (j + k = s.size) ∧ j ≤ s.size ∧ Aside0 ((xs.drop j).all chI = xs.all chI) ∧ w = wr)
  case atStart => exact ⟨0, rfl, ⟨by omega⟩, by omega, ⟨rfl⟩, rfl⟩
  case round =>
    obtain ⟨j, rfl, HD, hj, HE, rfl⟩ := hrel
    cases gk with
    | zero =>
      obtain rfl : j = s.size := by have := HD.out; omega
      have HF := Aside0.mk (show nameB s = true by
        unfold nameB
        rw [← HXS.out, ← HE.out, List.drop_of_length_le (by rw [HL.out]; exact Nat.le_refl _), HSz.out]; rfl)
      go_wp2
      go_ret
      exact ⟨by rw [HF.out]; rfl, rfl⟩
    | succ d =>
      have hlt : j < s.size := by have := HD.out; omega
      have hjl : j < xs.length := by rw [HL.out]; exact hlt
      have hlt1 : decide ((j : Int) < s.size) = true := decide_eq_true (by omega)
      have hlt2 : (j : Int) < (s.size : Int) := by omega
      go_upto_region 7 with (fail)
      have hx0 : ((s[j]'hlt).toNat : Int) = rd xs (j : Int) := by
        have h1 : j < s.data.toList.length := by rw [data_length]; exact hlt
        rw [HXS.out]
        simp only [rd, bytesOf, Int.toNat_natCast, List.getD_eq_getElem?_getD, List.getElem?_map, List.getElem?_eq_getElem h1]
        rfl
      generalize hc0 : ((s[j]'hlt).toNat : Int) = c at hx0 ⊢
      have HX := Aside0.mk hx0
      clear hx0 hc0
      rcases (show c < 45 ∨ c = 45 ∨ (c = 46 ∨ c = 47) ∨ (48 ≤ c ∧ c ≤ 57) ∨ (58 ≤ c ∧ c ≤ 64) ∨ (65 ≤ c ∧ c ≤ 90) ∨ (91 ≤ c ∧ c ≤ 94) ∨ c = 95 ∨ c = 96 ∨ (97 ≤ c ∧ c ≤ 122) ∨ 122 < c by omega) with hc | hc | hc | hc | hc | hc | hc | hc | hc | hc | hc
      · have b1 : decide (97 ≤ c) = false := decide_eq_false (by omega)
        have b2 : decide (c ≤ 122) = true := decide_eq_true (by omega)
        have b3 : decide (65 ≤ c) = false := decide_eq_false (by omega)
        have b4 : decide (c ≤ 90) = true := decide_eq_true (by omega)
        have b5 : decide (48 ≤ c) = false := decide_eq_false (by omega)
        have b6 : decide (c ≤ 57) = true := decide_eq_true (by omega)
        have b7 : (c == 45) = false := by simp; omega
        have b8 : (c == 95) = false := by simp; omega
        have HCc := Aside0.mk (show chI c = false by unfold chI; simp only [b1, b2, b3, b4]; first | (simp; done) | (simp; omega))
        clear hc
        go_wp2
        go_ret
        exact ⟨by unfold nameB; rw [← HXS.out, ← HE.out, drop_rd_ hjl, List.all_cons, ← HX.out, HCc.out]; rfl, rfl⟩
      · have b1 : decide (97 ≤ c) = false := decide_eq_false (by omega)
        have b2 : decide (c ≤ 122) = true := decide_eq_true (by omega)
        have b3 : decide (65 ≤ c) = false := decide_eq_false (by omega)
        have b4 : decide (c ≤ 90) = true := decide_eq_true (by omega)
        have b5 : decide (48 ≤ c) = false := decide_eq_false (by omega)
        have b6 : decide (c ≤ 57) = true := decide_eq_true (by omega)
        have b7 : (c == 45) = true := by simp; omega
        have b8 : (c == 95) = false := by simp; omega
        have HCc := Aside0.mk (show chI c = true by unfold chI; simp only [b1, b2, b3, b4]; first | (simp; done) | (simp; omega))
        clear hc
        go_wp2
        go_roundg d
        case measure => omega
        case rel => exact ⟨j + 1, by go_num, ⟨by have := HD.out; omega⟩, by omega, ⟨by rw [← HE.out, drop_rd_ hjl, List.all_cons, ← HX.out, HCc.out]; rfl⟩, rfl⟩
      · have b1 : decide (97 ≤ c) = false := decide_eq_false (by omega)
        have b2 : decide (c ≤ 122) = true := decide_eq_true (by omega)
        have b3 : decide (65 ≤ c) = false := decide_eq_false (by omega)
        have b4 : decide (c ≤ 90) = true := decide_eq_true (by omega)
        have b5 : decide (48 ≤ c) = false := decide_eq_false (by omega)
        have b6 : decide (c ≤ 57) = true := decide_eq_true (by omega)
        have b7 : (c == 45) = false := by simp; omega
        have b8 : (c == 95) = false := by simp; omega
        have HCc := Aside0.mk (show chI c = false by unfold chI; simp only [b1, b2, b3, b4]; first | (simp; done) | (simp; omega))
        clear hc
        go_wp2
        go_ret
        exact ⟨by unfold nameB; rw [← HXS.out, ← HE.out, drop_rd_ hjl, List.all_cons, ← HX.out, HCc.out]; rfl, rfl⟩
      · have b1 : decide (97 ≤ c) = false := decide_eq_false (by omega)
        have b2 : decide (c ≤ 122) = true := decide_eq_true (by omega)
        have b3 : decide (65 ≤ c) = false := decide_eq_false (by omega)
        have b4 : decide (c ≤ 90) = true := decide_eq_true (by omega)
        have b5 : decide (48 ≤ c) = true := decide_eq_true (by omega)
        have b6 : decide (c ≤ 57) = true := decide_eq_true (by omega)
        have b7 : (c == 45) = false := by simp; omega
        have b8 : (c == 95) = false := by simp; omega
        have HCc := Aside0.mk (show chI c = true by unfold chI; simp only [b1, b2, b3, b4]; first | (simp; done) | (simp; omega))
        clear hc
        go_wp2
        go_roundg d
        case measure => omega
        case rel => exact ⟨j + 1, by go_num, ⟨by have := HD.out; omega⟩, by omega, ⟨by rw [← HE.out, drop_rd_ hjl, List.all_cons, ← HX.out, HCc.out]; rfl⟩, rfl⟩
      · have b1 : decide (97 ≤ c) = false := decide_eq_false (by omega)
        have b2 : decide (c ≤ 122) = true := decide_eq_true (by omega)
        have b3 : decide (65 ≤ c) = false := decide_eq_false (by omega)
        have b4 : decide (c ≤ 90) = true := decide_eq_true (by omega)
        have b5 : decide (48 ≤ c) = true := decide_eq_true (by omega)
        have b6 : decide (c ≤ 57) = false := decide_eq_false (by omega)
        have b7 : (c == 45) = false := by simp; omega
        have b8 : (c == 95) = false := by simp; omega
        have HCc := Aside0.mk (show chI c = false by unfold chI; simp only [b1, b2, b3, b4]; first | (simp; done) | (simp; omega))
        clear hc
        go_wp2
        go_ret
        exact ⟨by unfold nameB; rw [← HXS.out, ← HE.out, drop_rd_ hjl, List.all_cons, ← HX.out, HCc.out]; rfl, rfl⟩
      · have b1 : decide (97 ≤ c) = false := decide_eq_false (by omega)
        have b2 : decide (c ≤ 122) = true := decide_eq_true (by omega)
        have b3 : decide (65 ≤ c) = true := decide_eq_true (by omega)
        have b4 : decide (c ≤ 90) = true := decide_eq_true (by omega)
        have b5 : decide (48 ≤ c) = true := decide_eq_true (by omega)
        have b6 : decide (c ≤ 57) = false := decide_eq_false (by omega)
        have b7 : (c == 45) = false := by simp; omega
        have b8 : (c == 95) = false := by simp; omega
        have HCc := Aside0.mk (show chI c = true by unfold chI; simp only [b1, b2, b3, b4]; first | (simp; done) | (simp; omega))
        clear hc
        go_wp2
        go_roundg d
        case measure => omega
        case rel => exact ⟨j + 1, by go_num, ⟨by have := HD.out; omega⟩, by omega, ⟨by rw [← HE.out, drop_rd_ hjl, List.all_cons, ← HX.out, HCc.out]; rfl⟩, rfl⟩
      · have b1 : decide (97 ≤ c) = false := decide_eq_false (by omega)
        have b2 : decide (c ≤ 122) = true := decide_eq_true (by omega)
        have b3 : decide (65 ≤ c) = true := decide_eq_true (by omega)
        have b4 : decide (c ≤ 90) = false := decide_eq_false (by omega)
        have b5 : decide (48 ≤ c) = true := decide_eq_true (by omega)
        have b6 : decide (c ≤ 57) = false := decide_eq_false (by omega)
        have b7 : (c == 45) = false := by simp; omega
        have b8 : (c == 95) = false := by simp; omega
        have HCc := Aside0.mk (show chI c = false by unfold chI; simp only [b1, b2, b3, b4]; first | (simp; done) | (simp; omega))
        clear hc
        go_wp2
        go_ret
        exact ⟨by unfold nameB; rw [← HXS.out, ← HE.out, drop_rd_ hjl, List.all_cons, ← HX.out, HCc.out]; rfl, rfl⟩
      · have b1 : decide (97 ≤ c) = false := decide_eq_false (by omega)
        have b2 : decide (c ≤ 122) = true := decide_eq_true (by omega)
        have b3 : decide (65 ≤ c) = true := decide_eq_true (by omega)
        have b4 : decide (c ≤ 90) = false := decide_eq_false (by omega)
        have b5 : decide (48 ≤ c) = true := decide_eq_true (by omega)
        have b6 : decide (c ≤ 57) = false := decide_eq_false (by omega)
        have b7 : (c == 45) = false := by simp; omega
        have b8 : (c == 95) = true := by simp; omega
        have HCc := Aside0.mk (show chI c = true by unfold chI; simp only [b1, b2, b3, b4]; first | (simp; done) | (simp; omega))
        clear hc
        go_wp2
        go_roundg d
        case measure => omega
        case rel => exact ⟨j + 1, by go_num, ⟨by have := HD.out; omega⟩, by omega, ⟨by rw [← HE.out, drop_rd_ hjl, List.all_cons, ← HX.out, HCc.out]; rfl⟩, rfl⟩
      · have b1 : decide (97 ≤ c) = false := decide_eq_false (by omega)
        have b2 : decide (c ≤ 122) = true := decide_eq_true (by omega)
        have b3 : decide (65 ≤ c) = true := decide_eq_true (by omega)
        have b4 : decide (c ≤ 90) = false := decide_eq_false (by omega)
        have b5 : decide (48 ≤ c) = true := decide_eq_true (by omega)
        have b6 : decide (c ≤ 57) = false := decide_eq_false (by omega)
        have b7 : (c == 45) = false := by simp; omega
        have b8 : (c == 95) = false := by simp; omega
        have HCc := Aside0.mk (show chI c = false by unfold chI; simp only [b1, b2, b3, b4]; first | (simp; done) | (simp; omega))
        clear hc
        go_wp2
        go_ret
        exact ⟨by unfold nameB; rw [← HXS.out, ← HE.out, drop_rd_ hjl, List.all_cons, ← HX.out, HCc.out]; rfl, rfl⟩
      · have b1 : decide (97 ≤ c) = true := decide_eq_true (by omega)
        have b2 : decide (c ≤ 122) = true := decide_eq_true (by omega)
        have b3 : decide (65 ≤ c) = true := decide_eq_true (by omega)
        have b4 : decide (c ≤ 90) = false := decide_eq_false (by omega)
        have b5 : decide (48 ≤ c) = true := decide_eq_true (by omega)
        have b6 : decide (c ≤ 57) = false := decide_eq_false (by omega)
        have b7 : (c == 45) = false := by simp; omega
        have b8 : (c == 95) = false := by simp; omega
        have HCc := Aside0.mk (show chI c = true by unfold chI; simp only [b1, b2, b3, b4]; first | (simp; done) | (simp; omega))
        clear hc
        go_wp2
        go_roundg d
        case measure => omega
        case rel => exact ⟨j + 1, by go_num, ⟨by have := HD.out; omega⟩, by omega, ⟨by rw [← HE.out, drop_rd_ hjl, List.all_cons, ← HX.out, HCc.out]; rfl⟩, rfl⟩
      · have b1 : decide (97 ≤ c) = true := decide_eq_true (by omega)
        have b2 : decide (c ≤ 122) = false := decide_eq_false (by omega)
        have b3 : decide (65 ≤ c) = true := decide_eq_true (by omega)
        have b4 : decide (c ≤ 90) = false := decide_eq_false (by omega)
        have b5 : decide (48 ≤ c) = true := decide_eq_true (by omega)
        have b6 : decide (c ≤ 57) = false := decide_eq_false (by omega)
        have b7 : (c == 45) = false := by simp; omega
        have b8 : (c == 95) = false := by simp; omega
        have HCc := Aside0.mk (show chI c = false by unfold chI; simp only [b1, b2, b3, b4]; first | (simp; done) | (simp; omega))
        clear hc
        go_wp2
        go_ret
        exact ⟨by unfold nameB; rw [← HXS.out, ← HE.out, drop_rd_ hjl, List.all_cons, ← HX.out, HCc.out]; rfl, rfl⟩
end Go.Proofs.YtbhijfbjdbjpbaaDoor.T
namespace Go.Proofs.YtbhijfbjdbjpbaaDoor.T
open Go.RowKit Go.Proofs.YtbhijfbjdbjpbaaDoorW.PrintWords Go.Proofs.YtbhijfbjdbjpbaaDoorW.PrintLast Go.Proofs.YtbhijfbjdbjpbaaDoor.H Go.Maps
set_option linter.unusedVariables false
set_option linter.unusedSimpArgs false
set_option maxHeartbeats 8000000 in
set_option maxRecDepth 100000 in
theorem row_calls (w : World) (ad : Addr) (n c : Nat) (ls : List Acc) (i : Nat) (a : Acc) (hr : Rd Ec w (some ad) n ls) (ha : ls[i]? = some a) (hs : a.nm.size ≤ maxLen) :
    Calls Tryd.prog 25 #[.slice (some ad) n c, .int .i64 i] w fun e w' => e = .returned (.int .i64 (rowE ls i a)) ∧ w.grownBy w' none := by
  have hlen := hr.2.1
  have hin : i < n := by have := (List.getElem?_eq_some_iff.1 ha).1; rw [hr.1] at this; exact this
  have hin2 : (i : Int) < (n : Int) := by omega
  obtain ⟨h0, h1, h2, h3, h4⟩ := acc_cells hr ha
  have HR := Aside0.mk hr
  have HN := Aside0.mk hr.1
  have HA := Aside0.mk ha
  have hsz : a.nm.size ≤ 9223372036854775807 := by simpa only [maxLen] using hs
  have HSZ := Aside0.mk hsz
  have HX1 := Aside0.mk (heap_alloc_new w (.cells #[.string a.nm, .int .i64 a.par, .int .i64 a.sh, .bool a.cl, .int .u64 a.us] 37))
  have HG1 := Aside0.mk (World.grownBy_alloc w (.cells #[.string a.nm, .int .i64 a.par, .int .i64 a.sh, .bool a.cl, .int .u64 a.us] 37) none)
  obtain ⟨bx, hbx⟩ : ∃ bx, bx = w.heap.size := ⟨_, rfl⟩
  rw [← hbx] at HX1
  clear hr ha hs hsz
  go_enter Tryd.func25, Tryd.ntmps25
  go_upto_region 2 with (fail)
  rw [← hbx]
  generalize w.alloc (.cells #[.string a.nm, .int .i64 a.par, .int .i64 a.sh, .bool a.cl, .int .u64 a.us] 37) = W1 at HX1 HG1 ⊢
  clear hbx h0 h1 h2 h3 h4
  have k0 := cell_of (j := 0) (v := .string a.nm) HX1.out rfl
  have k1 := cell_of (j := 1) (v := .int .i64 a.par) HX1.out rfl
  have k2 := cell_of (j := 2) (v := .int .i64 a.sh) HX1.out rfl
  go_wp2_with fail
  refine (rname_calls W1 a.nm HSZ.out).mono ?_
  rintro e W2 ⟨rfl, rfl⟩
  by_cases hnb : nameB a.nm = true
  · rw [hnb]
    have HNB := Aside0.mk hnb
    clear hnb
    go_wp2_with fail
    refine (find_calls W1 (some ad) n c ls a.nm (HR.out.gb HG1.out)).mono ?_
    rintro e W3 ⟨rfl, hg⟩
    have HX3 := Aside0.mk (blk_kept HX1.out hg (by simp))
    have HG3 := Aside0.mk (World.grownBy.trans HG1.out hg)
    clear hg k0 k1 k2 HX1 HG1
    have k0 := cell_of (j := 0) (v := .string a.nm) HX3.out rfl
    have k1 := cell_of (j := 1) (v := .int .i64 a.par) HX3.out rfl
    have k2 := cell_of (j := 2) (v := .int .i64 a.sh) HX3.out rfl
    obtain ⟨fv, hfv⟩ : ∃ fv, fv = findL ls 0 a.nm := ⟨_, rfl⟩
    have HFT := find_there ls i 0 a HA.out
    rw [← hfv] at HFT ⊢
    clear hfv
    by_cases hf : fv = (i : Int)
    · have b0 : (fv != (i : Int)) = false := by simp [hf]
      have HT0 := Aside0.mk (HFT.1 (by rw [hf]; simp))
      clear HFT hf
      by_cases hp0 : a.par < 0
      · have b1 : decide (a.par < 0) = true := decide_eq_true hp0
        have HE := Aside0.mk (show rowE ls i a = 62 by unfold rowE; rw [if_neg (by rw [HNB.out]; decide), if_neg (by rw [HT0.out]; decide), if_pos (.inl hp0)])
        clear hp0
        go_wp2
        go_ret
        exact ⟨by rw [HE.out]; rfl, HG3.out⟩
      have b1 : decide (a.par < 0) = false := decide_eq_false hp0
      by_cases hp1 : (n : Int) ≤ a.par
      · have b2 : decide ((n : Int) ≤ a.par) = true := decide_eq_true hp1
        have HE := Aside0.mk (show rowE ls i a = 62 by unfold rowE; rw [if_neg (by rw [HNB.out]; decide), if_neg (by rw [HT0.out]; decide), if_pos (.inr (by rw [HN.out]; exact hp1))])
        clear hp0 hp1
        go_wp2
        go_ret
        exact ⟨by rw [HE.out]; rfl, HG3.out⟩
      have b2 : decide ((n : Int) ≤ a.par) = false := decide_eq_false hp1
      have HR0 := Aside0.mk (show rowE ls i a = if shB a.sh = false then 63 else 0 by unfold rowE; rw [if_neg (by rw [HNB.out]; decide), if_neg (by rw [HT0.out]; decide), if_neg (by rw [HN.out]; omega)])
      clear hp0 hp1
      by_cases hs0 : a.sh < 1
      · have b3 : decide (a.sh < 1) = true := decide_eq_true hs0
        have HE := Aside0.mk (show rowE ls i a = 63 by rw [HR0.out, if_pos (by unfold shB; rw [decide_eq_false (by omega)]; rfl)])
        clear hs0
        go_wp2
        go_ret
        exact ⟨by rw [HE.out]; rfl, HG3.out⟩
      have b3 : decide (a.sh < 1) = false := decide_eq_false hs0
      by_cases hs1 : 4096 < a.sh
      · have b4 : decide (4096 < a.sh) = true := decide_eq_true hs1
        have HE := Aside0.mk (show rowE ls i a = 63 by rw [HR0.out, if_pos (by unfold shB; rw [decide_eq_false (show ¬ a.sh ≤ 4096 by omega), Bool.and_false])])
        clear hs0 hs1
        go_wp2
        go_ret
        exact ⟨by rw [HE.out]; rfl, HG3.out⟩
      · have b4 : decide (4096 < a.sh) = false := decide_eq_false hs1
        have HE := Aside0.mk (show rowE ls i a = 0 by rw [HR0.out, if_neg (by unfold shB; rw [decide_eq_true (by omega), decide_eq_true (by omega)]; decide)])
        clear hs0 hs1
        go_wp2
        go_ret
        exact ⟨by rw [HE.out]; rfl, HG3.out⟩
    · have b0 : (fv != (i : Int)) = true := by simp [hf]
      have HT0 := Aside0.mk (show thereB (ls.take i) a.nm = true by
        cases h : thereB (ls.take i) a.nm with
        | true => rfl
        | false => exact absurd (by have := HFT.2 h; simpa using this) hf)
      have HE := Aside0.mk (show rowE ls i a = 61 by unfold rowE; rw [if_neg (by rw [HNB.out]; decide), if_pos HT0.out])
      clear HFT hf
      go_wp2
      go_ret
      exact ⟨by rw [HE.out]; rfl, HG3.out⟩
  · have hnb' : nameB a.nm = false := by simpa using hnb
    rw [hnb']
    have HE := Aside0.mk (show rowE ls i a = 60 by unfold rowE; rw [if_pos hnb'])
    clear hnb hnb'
    go_wp2
    go_ret
    exact ⟨by rw [HE.out]; rfl, HG1.out⟩
end Go.Proofs.YtbhijfbjdbjpbaaDoor.T
namespace Go.Proofs.YtbhijfbjdbjpbaaDoor.T
open Go.RowKit Go.Proofs.YtbhijfbjdbjpbaaDoorW.PrintWords Go.Proofs.YtbhijfbjdbjpbaaDoorW.PrintLast Go.Proofs.YtbhijfbjdbjpbaaDoor.H Go.Maps
set_option linter.unusedVariables false
set_option linter.unusedSimpArgs false
set_option maxHeartbeats 8000000 in
set_option maxRecDepth 100000 in
theorem rload_nil (w : World) (A : Option Addr) (c : Nat) : Calls Tryd.prog 9 #[.slice A 0 c] w (LoadI w []) := by
  go_enter Tryd.func9, Tryd.ntmps9
  go_wp2
  go_ret2
  exact ⟨⟨_, rfl⟩, gb_refl _ _⟩
theorem root_list : rootS.toList = [114, 111, 111, 116] := by rw [ByteArray.toList_eq]; rfl
/-- The first account is the root. -/
theorem first_iff (x : Acc) : accEq (zeroU x) rootA = ((x.nm.toList == rootS.toList) && ((x.par == -1) && ((x.sh == 1) && !x.cl))) := by
  unfold accEq zeroU rootA
  simp only
  cases x.cl <;> simp
set_option maxHeartbeats 8000000 in
set_option maxRecDepth 100000 in
theorem rload_first (w : World) (ad : Addr) (n c : Nat) (x : Acc) (r : List Acc) (hr : Rd Ec w (some ad) n (x :: r)) (hf : accEq (zeroU x) rootA = false) :
    Calls Tryd.prog 9 #[.slice (some ad) n c] w (LoadI w (x :: r)) := by
  have hn : (x :: r).length = n := hr.1
  have hn0 : 0 < n := by rw [← hn]; simp
  have hz0 : ((n : Int) == 0) = false := by simp; omega
  have hz1 : (n == 0) = false := by simp; omega
  have hcells := acc_cells (i := 0) hr rfl
  have e0 : ad.add (0 * 5) = ad := by simp [Addr.add]
  rw [e0] at hcells
  obtain ⟨h0, h1, h2, h3, h4⟩ := hcells
  have HE := Aside0.mk (show loadE (x :: r) = 66 by unfold loadE; simp only; rw [if_pos hf])
  rw [first_iff] at hf
  clear hr hn e0
  by_cases q1 : (x.nm.toList == rootS.toList) = true
  · have p1 : (x.nm.toList == [114, 111, 111, 116]) = true := by rw [← root_list]; exact q1
    by_cases q2 : (x.par == -1) = true
    · have p2 : (x.par != -1) = false := by rw [bne, q2]; rfl
      by_cases q3 : (x.sh == 1) = true
      · have p3 : (x.sh != 1) = false := by rw [bne, q3]; rfl
        have q4 : x.cl = true := by rw [q1, q2, q3] at hf; simpa using hf
        rw [q4] at h3
        clear q1 q4 hf
        go_enter Tryd.func9, Tryd.ntmps9
        go_wp2
        go_ret2
        exact ⟨⟨_, by rw [HE.out]; rfl⟩, gb_refl _ _⟩
      · have q3' : (x.sh == 1) = false := by simpa using q3
        have p3 : (x.sh != 1) = true := by rw [bne, q3']; rfl
        clear q1 q3 hf
        go_enter Tryd.func9, Tryd.ntmps9
        go_wp2
        go_ret2
        exact ⟨⟨_, by rw [HE.out]; rfl⟩, gb_refl _ _⟩
    · have q2' : (x.par == -1) = false := by simpa using q2
      have p2 : (x.par != -1) = true := by rw [bne, q2']; rfl
      clear q1 q2 hf
      go_enter Tryd.func9, Tryd.ntmps9
      go_wp2
      go_ret2
      exact ⟨⟨_, by rw [HE.out]; rfl⟩, gb_refl _ _⟩
  · have q1' : (x.nm.toList == rootS.toList) = false := by simpa using q1
    have p1 : (x.nm.toList == [114, 111, 111, 116]) = false := by rw [← root_list]; exact q1'
    clear q1 q1' hf
    go_enter Tryd.func9, Tryd.ntmps9
    go_wp2
    go_ret2
    exact ⟨⟨_, by rw [HE.out]; rfl⟩, gb_refl _ _⟩
theorem deps_one (ls : List Acc) (n : Nat) : depsE ls (n + 1) 0 = depsE ls n 1 := by
  have h : depE ls 0 = 0 := by
    have h0 : depV ls ((0 : Nat) : Int) = 0 := by unfold depV; rw [depL, if_pos (show ((0 : Nat) : Int) = 0 from rfl)]
    unfold depE
    rw [h0]; rfl
  rw [depsE, if_pos h]
set_option maxHeartbeats 8000000 in
set_option maxRecDepth 100000 in
theorem rload_calls (w : World) (ad : Addr) (n c : Nat) (x : Acc) (r : List Acc) (hr : Rd Ec w (some ad) n (x :: r)) (hok : AccOk (x :: r)) (hf : accEq (zeroU x) rootA = true) :
    Calls Tryd.prog 9 #[.slice (some ad) n c] w (LoadI w (x :: r)) := by
  have hn : (x :: r).length = n := hr.1
  have hn0 : 0 < n := by rw [← hn]; simp
  have hz0 : ((n : Int) == 0) = false := by simp; omega
  have hz1 : (n == 0) = false := by simp; omega
  have hcells := acc_cells (i := 0) hr rfl
  have e0 : ad.add (0 * 5) = ad := by simp [Addr.add]
  rw [e0] at hcells
  obtain ⟨h0, h1, h2, h3, h4⟩ := hcells
  have hlen := hr.2.1
  have HR := Aside0.mk hr
  have HN := Aside0.mk hn
  have HOK := Aside0.mk hok
  have HLE := Aside0.mk (show loadE (x :: r) = if 64 < n then 65 else if rowsE (x :: r) r.length 1 = 0 then depsE (x :: r) n 0 else rowsE (x :: r) r.length 1 by unfold loadE; simp only; rw [if_neg (by rw [hf]; decide), hn])
  rw [first_iff] at hf
  simp only [Bool.and_eq_true] at hf
  obtain ⟨q1, q2, q3, q4⟩ := hf
  have p1 : (x.nm.toList == [114, 111, 111, 116]) = true := by rw [← root_list]; exact q1
  have p2 : (x.par != -1) = false := by rw [bne, q2]; rfl
  have p3 : (x.sh != 1) = false := by rw [bne, q3]; rfl
  have p4 : x.cl = false := by simpa using q4
  rw [p4] at h3
  clear hr hn hok e0 q1 q2 q3 q4 p4
  by_cases hbig : 64 < n
  · have hb : decide ((64 : Int) < (n : Int)) = true := decide_eq_true (by omega)
    have hb2 : decide (64 < n) = true := decide_eq_true hbig
    have HE := Aside0.mk (show loadE (x :: r) = 65 by rw [HLE.out, if_pos hbig])
    clear hbig
    go_enter Tryd.func9, Tryd.ntmps9
    go_wp2
    go_ret2
    exact ⟨⟨_, by rw [HE.out]; rfl⟩, gb_refl _ _⟩
  have hb : decide ((64 : Int) < (n : Int)) = false := decide_eq_false (by omega)
  have hb2 : decide (64 < n) = false := decide_eq_false hbig
  have hn64 : n ≤ 64 := by omega
  rw [if_neg hbig] at HLE
  clear hbig
  obtain ⟨m, hm⟩ : ∃ m, n = m + 1 := ⟨n - 1, by omega⟩
  have HNM : Aside0 (n = m + 1 ∧ r.length = m) := ⟨by have := HN.out; simp at this; omega⟩
  rw [HNM.out.2] at HLE
  clear hm
  go_enter Tryd.func9, Tryd.ntmps9
  go_wp2_with fail
  clear h0 h1 h2 h3 h4 hz0 hz1 p1 p2 p3 hb hb2
  go_loopg [4] m (fun k v4 wr => ∃ (i : Nat), v4 = .int .i64 i ∧ Aside0 (i + k = n) ∧ 1 ≤ i ∧ i ≤ n ∧ Aside0 (rowsE (x :: r) k i = rowsE (x :: r) m 1) ∧ Aside0 (w.grownBy wr none))
  case atStart => exact ⟨1, rfl, ⟨by have := HNM.out.1; omega⟩, by omega, by omega, ⟨rfl⟩, ⟨gb_refl _ _⟩⟩
  case round =>
    obtain ⟨i, rfl, HD, hi1, hi, HE, HG⟩ := hrel
    cases gk with
    | zero =>
      obtain rfl : i = n := by have := HD.out; omega
      have HRW := Aside0.mk (show rowsE (x :: r) m 1 = 0 from HE.out.symm)
      have HL2 := Aside0.mk (show loadE (x :: r) = depsE (x :: r) m 1 by
        rw [HLE.out, if_pos HRW.out, HNM.out.1, deps_one])
      have HPZ := Aside0.mk (show Pars (x :: r) from load_pars (by rw [HN.out, HNM.out.1]; exact HRW.out) (by rw [HN.out]; omega))
      obtain ⟨wo, rfl⟩ : ∃ wo, wo = wr := ⟨wr, rfl⟩
      have HRo := Aside0.mk (HR.out.gb HG.out)
      go_wp2_with fail
      clear HE HD
      go_loopg [6] m (fun k v6 wr => ∃ (j : Nat), v6 = .int .i64 j ∧ Aside0 (j + k = i) ∧ 1 ≤ j ∧ j ≤ i ∧ Aside0 (depsE (x :: r) k j = depsE (x :: r) m 1) ∧ wo = wr)
      case atStart => exact ⟨1, rfl, ⟨by have := HNM.out.1; omega⟩, by omega, by omega, ⟨rfl⟩, rfl⟩
      case round =>
        obtain ⟨j, rfl, HD, hj1, hj, HE, rfl⟩ := hrel
        cases gk with
        | zero =>
          obtain rfl : j = i := by have := HD.out; omega
          have HEx := Aside0.mk (show loadE (x :: r) = 0 by rw [HL2.out, ← HE.out]; rfl)
          have HGW := Aside0.mk HG.out.size
          have HB0 := Aside0.mk (heap_alloc_new wo (.cells #[.slice none 0 0] 57))
          have HGb := Aside0.mk (World.grownBy.trans HG.out (World.grownBy_alloc wo (.cells #[.slice none 0 0] 57) none))
          obtain ⟨g, hg⟩ : ∃ g, g = wo.heap.size := ⟨_, rfl⟩
          rw [← hg] at HB0 HGW
          clear HE HD
          go_upto_region 20 with (fail)
          rw [← hg]
          generalize wo.alloc (.cells #[.slice none 0 0] 57) = Wt at HB0 HGb ⊢
          clear hg
          go_wp2_with fail
          have HO0 := Aside0.mk (show Wt.ownsRow (g + 1) 37 Ec.sz (.slice none 0 0) 0 (flat Ec (((x :: r).take 0).map zeroU)) from own_nil _ _ _ _)
          go_loopg [73] j (fun k v73 wr => ∃ (q : Nat) (A : Option Addr) (cc : Nat), v73 = .int .i64 q ∧ Aside0 (q + k = j) ∧ q ≤ j ∧ Aside0 (wr.heap[g]? = some (.cells #[.slice A q cc] 57 (0, 0))) ∧ Aside0 (wr.ownsRow (g + 1) 37 Ec.sz (.slice A q cc) q (flat Ec (((x :: r).take q).map zeroU))) ∧ Aside0 (w.grownBy wr none))
          case atStart => exact ⟨0, none, 0, rfl, ⟨by omega⟩, by omega, HB0, HO0, HGb⟩
          case round =>
            clear HB0 HO0 HGb
            obtain ⟨q, A, cc, rfl, HD, hq, HK, HO, HGr⟩ := hrel
            cases gk with
            | zero =>
              obtain rfl : q = j := by have := HD.out; omega
              go_wp2
              go_ret2
              exact ⟨⟨_, by rw [HEx.out]; rfl⟩, HGr.out⟩
            | succ d =>
              have hlt : q < j := by have := HD.out; omega
              have hlt1 : decide ((q : Int) < (j : Int)) = true := decide_eq_true (by omega)
              have hlt2 : (q : Int) < (j : Int) := by omega
              obtain ⟨a, ha⟩ : ∃ a, (x :: r)[q]? = some a := ⟨_, List.getElem?_eq_getElem (by rw [HN.out]; exact hlt)⟩
              have HA := Aside0.mk ha
              obtain ⟨h0, h1, h2, h3, h4⟩ := acc_cells (HR.out.gb HGr.out) ha
              have HXd := Aside0.mk (show (wr.alloc (.cells #[.string a.nm, .int .i64 a.par, .int .i64 a.sh, .bool a.cl, .int .u64 0] 37)).drew.heap[wr.heap.size]? = some (.cells #[.string a.nm, .int .i64 a.par, .int .i64 a.sh, .bool a.cl, .int .u64 0] 37) from heap_alloc_new wr (.cells #[.string a.nm, .int .i64 a.par, .int .i64 a.sh, .bool a.cl, .int .u64 0] 37))
              have HKd := Aside0.mk (show (wr.alloc (.cells #[.string a.nm, .int .i64 a.par, .int .i64 a.sh, .bool a.cl, .int .u64 0] 37)).drew.heap[g]? = some (.cells #[.slice A q cc] 57 (0, 0)) from blk_kept HK.out (World.grownBy.trans (World.grownBy_alloc wr (.cells #[.string a.nm, .int .i64 a.par, .int .i64 a.sh, .bool a.cl, .int .u64 0] 37) none) (gb_drew _ none)) (by simp))
              have HOd := Aside0.mk (own_kept (own_kept HO.out (World.grownBy_alloc wr (.cells #[.string a.nm, .int .i64 a.par, .int .i64 a.sh, .bool a.cl, .int .u64 0] 37) none) (by simp)) (gb_drew _ none) (by simp))
              have HGd := Aside0.mk (World.grownBy.trans (World.grownBy.trans HGr.out (World.grownBy_alloc wr (.cells #[.string a.nm, .int .i64 a.par, .int .i64 a.sh, .bool a.cl, .int .u64 0] 37) none)) (gb_drew _ none))
              have HLN := Aside0.mk (show (((x :: r).take q).map zeroU ++ [zeroU a]).length = q + 1 by rw [List.length_append, List.length_map, List.length_take, HN.out]; simp; omega)
              obtain ⟨bx, hbx⟩ : ∃ bx, bx = wr.heap.size := ⟨_, rfl⟩
              rw [← hbx] at HXd
              clear ha HK HO HGr
              go_upto_region 24 with (fail)
              rw [← hbx]
              generalize wr.alloc (.cells #[.string a.nm, .int .i64 a.par, .int .i64 a.sh, .bool a.cl, .int .u64 0] 37) = W1 at HXd HKd HOd HGd ⊢
              clear h0 h1 h2 h3 h4 hbx
              refine start_ (n := 11) (S := fun w' => w'.cell? ⟨g, 0, none⟩ = some (.slice A q cc) ∧ w'.cell? ⟨bx, 0, none⟩ = some (.string a.nm) ∧ w'.cell? ⟨bx, 1, none⟩ = some (.int .i64 a.par) ∧ w'.cell? ⟨bx, 2, none⟩ = some (.int .i64 a.sh) ∧ w'.cell? ⟨bx, 3, none⟩ = some (.bool a.cl) ∧ w'.cell? ⟨bx, 4, none⟩ = some (.int .u64 0)) (ds := [7, 10]) #[false, false, false, false, false, false, false, false, false, false, false] (by kernel_rfl) rfl rfl ⟨cell_of (j := 0) HKd.out rfl, cell_of (j := 0) HXd.out rfl, cell_of (j := 1) HXd.out rfl, cell_of (j := 2) HXd.out rfl, cell_of (j := 3) HXd.out rfl, cell_of (j := 4) HXd.out rfl⟩ (fun hHeld => ?_)
              refine pure_ (i := 0) (N := some 78) (v := ?_) (a' := ?_) #[true, false, false, false, false, false, false, false, false, false, false] rfl rfl (by kernel_rfl) (fun _ _ _ h => h) (Or.inl ⟨by rfl, ?_⟩) ?_ ?_
              rotate_left
              · intro w'
                go_simp
                with_reducible rfl
              rotate_left
              · simp only [Act.put, List.setIfInBounds_toArray, List.set_cons_zero, List.set_cons_succ, i64_w, i32_w]
                rfl
              refine pure_ (i := 1) (N := some 79) (v := ?_) (a' := ?_) #[true, true, false, false, false, false, false, false, false, false, false] rfl rfl (by kernel_rfl) (fun _ _ _ h => h) (Or.inl ⟨by rfl, ?_⟩) ?_ ?_
              rotate_left
              · intro w'
                go_simp
                with_reducible rfl
              rotate_left
              · simp only [Act.put, List.setIfInBounds_toArray, List.set_cons_zero, List.set_cons_succ, i64_w, i32_w]
                rfl
              refine pure_ (i := 2) (N := some 80) (v := ?_) (a' := ?_) #[true, true, true, false, false, false, false, false, false, false, false] rfl rfl (by kernel_rfl) (fun _ _ _ h => h) (Or.inl ⟨by rfl, ?_⟩) ?_ ?_
              rotate_left
              · intro w'
                go_simp
                with_reducible rfl
              rotate_left
              · simp only [Act.put, List.setIfInBounds_toArray, List.set_cons_zero, List.set_cons_succ, i64_w, i32_w]
                rfl
              refine pure_ (i := 3) (N := some 81) (v := ?_) (a' := ?_) #[true, true, true, true, false, false, false, false, false, false, false] rfl rfl (by kernel_rfl) (fun _ _ _ h => h) (Or.inl ⟨by rfl, ?_⟩) ?_ ?_
              rotate_left
              · intro w'
                go_simp
                with_reducible rfl
              rotate_left
              · simp only [Act.put, List.setIfInBounds_toArray, List.set_cons_zero, List.set_cons_succ, i64_w, i32_w]
                rfl
              refine take_ (i := 4) (N := some 82) (v := ?_) (a' := ?_) #[true, true, true, true, true, false, false, false, false, false, false] rfl rfl (by kernel_rfl) (fun _ _ _ h => h) (Or.inl ⟨by rfl, ?_⟩) hHeld ?_ ?_
              rotate_left
              · rintro w' ⟨s0, s1, s2, s3, s4, s5⟩
                go_simp
                with_reducible rfl
              rotate_left
              · simp only [Act.put, List.setIfInBounds_toArray, List.set_cons_zero, List.set_cons_succ, i64_w, i32_w]
                rfl
              refine take_ (i := 5) (N := some 83) (v := ?_) (a' := ?_) #[true, true, true, true, true, true, false, false, false, false, false] rfl rfl (by kernel_rfl) (fun _ _ _ h => h) (Or.inl ⟨by rfl, ?_⟩) hHeld ?_ ?_
              rotate_left
              · rintro w' ⟨s0, s1, s2, s3, s4, s5⟩
                go_simp
                with_reducible rfl
              rotate_left
              · simp only [Act.put, List.setIfInBounds_toArray, List.set_cons_zero, List.set_cons_succ, i64_w, i32_w]
                rfl
              refine one_ (i := 6) (N := some 84) #[true, true, true, true, true, true, true, false, false, false, false] rfl rfl (by kernel_rfl) (by decide) (fun K hK => ?_)
              refine value_ (w1 := ?_) (v := ?_) (by rfl) rfl ?_ ?_
              rotate_left 2
              · go_simp
                constructor
                · rfl
                · rfl
              have HK6 := Aside0.mk (blk_kept HKd.out (World.grownBy_alloc _ (.cells #[.string a.nm, .int .i64 a.par, .int .i64 a.sh, .bool a.cl, .int .u64 0] 37) none) (by simp)); have HO6 := Aside0.mk (own_kept HOd.out (World.grownBy_alloc _ (.cells #[.string a.nm, .int .i64 a.par, .int .i64 a.sh, .bool a.cl, .int .u64 0] 37) none) (by simp)); have HX6 := Aside0.mk (blk_kept HXd.out (World.grownBy_alloc _ (.cells #[.string a.nm, .int .i64 a.par, .int .i64 a.sh, .bool a.cl, .int .u64 0] 37) none) (by simp)); have HR6 := Aside0.mk (show Rd Ec (W1.drew.alloc (.cells #[.string a.nm, .int .i64 a.par, .int .i64 a.sh, .bool a.cl, .int .u64 0] 37)) (some ⟨W1.drew.heap.size, 0, none⟩) 1 [zeroU a] from rd_lit Ec W1.drew 37 [zeroU a] (by simp)); have HG6 := Aside0.mk (World.grownBy.trans HGd.out (World.grownBy_alloc _ (.cells #[.string a.nm, .int .i64 a.par, .int .i64 a.sh, .bool a.cl, .int .u64 0] 37) none)); have HZ6 : Aside0 (g + 1 ≤ (W1.drew.alloc (.cells #[.string a.nm, .int .i64 a.par, .int .i64 a.sh, .bool a.cl, .int .u64 0] 37)).heap.size) := ⟨by have h2 := blk_lt' HKd.out; simp at h2 ⊢; omega⟩
              refine hK.out _ _ ⟨cell_of (j := 0) HK6.out rfl, cell_of (j := 0) HX6.out rfl, cell_of (j := 1) HX6.out rfl, cell_of (j := 2) HX6.out rfl, cell_of (j := 3) HX6.out rfl, cell_of (j := 4) HX6.out rfl⟩ (fun hHeld => ?_)
              clear hK K
              refine norm_ (a' := ?_) ?_ ?_
              rotate_left
              · show Act.put _ (some 84) _ = _
                simp only [Act.put, List.setIfInBounds_toArray, List.set_cons_zero, List.set_cons_succ, i64_w, i32_w]
                rfl
              refine last_ (i := 7) (N := some 85) #[true, true, true, true, true, true, true, true, false, false, false] rfl rfl (by kernel_rfl) (by decide) (fun K hK => ?_)
              refine app_at_step Ec (by rfl) rfl (g + 1) (.tmp 82) (.tmp 84) 24 37 (.agg #[.string ByteArray.empty, .int .i64 0, .int .i64 0, .bool false, .int .u64 0]) 48 rfl Tryd.underlying24 (by kernel_rfl) rfl (by decide) (.slice A q cc) q (((x :: r).take q).map zeroU) [zeroU a] _ 1 1 rfl rfl HO6.out HR6.out HZ6.out (by omega) ?_
              intro v7 w7 ho hg hat
              obtain ⟨A7, c7, rfl, -, -, -⟩ := own_open HLN.out ho
              have HO7 := Aside0.mk ho; have hrow : ∀ z, (Value.slice A q cc).ownBlock = some z → g + 1 ≤ z := fun z hz => (HO6.out.lt z hz).1; have HK7 := Aside0.mk (blk_kept HK6.out hg (fun e => by have := hrow g e.symm; omega)); have HG7 := Aside0.mk (show w.grownBy w7 none from by cases hv : (Value.slice A q cc).ownBlock with | none => (rw [hv] at hg; exact World.grownBy.trans HG6.out hg) | some z => (rw [hv] at hg; exact gb_new HG6.out hg (by have h1 := hrow z hv; have h2 := HGW.out; omega))); clear ho hg hat hrow; have q7 := cell_of (j := 0) (v := .slice A q cc) HK7.out rfl; have q8 := frozen_of (j := 0) HK7.out
              refine hK.out _ _ ?_
              clear hK K
              refine norm_ (a' := ?_) ?_ ?_
              rotate_left
              · show Act.put _ (some 85) _ = _
                simp only [Act.put, List.setIfInBounds_toArray, List.set_cons_zero, List.set_cons_succ, i64_w, i32_w]
                rfl
              refine pure_ (i := 8) (N := some 86) (v := ?_) (a' := ?_) #[true, true, true, true, true, true, true, true, true, false, false] rfl rfl (by kernel_rfl) (fun _ _ _ h => h) (Or.inl ⟨by rfl, ?_⟩) ?_ ?_
              rotate_left
              · intro w'
                go_simp
                with_reducible rfl
              rotate_left
              · simp only [Act.put, List.setIfInBounds_toArray, List.set_cons_zero, List.set_cons_succ, i64_w, i32_w]
                rfl
              refine pure_ (i := 9) (N := some 87) (v := ?_) (a' := ?_) #[true, true, true, true, true, true, true, true, true, true, false] rfl rfl (by kernel_rfl) (fun _ _ _ h => h) (Or.inl ⟨by rfl, ?_⟩) ?_ ?_
              rotate_left
              · intro w'
                go_simp
                with_reducible rfl
              rotate_left
              · simp only [Act.put, List.setIfInBounds_toArray, List.set_cons_zero, List.set_cons_succ, i64_w, i32_w]
                rfl
              refine last_ (i := 10) (N := none) #[true, true, true, true, true, true, true, true, true, true, true] rfl rfl (by kernel_rfl) (by decide) (fun K hK => ?_)
              refine skip_ (w1 := ?_) (by rfl) rfl ?_ ?_
              rotate_left
              · go_simp
                rfl
              refine hK.out _ _ ?_
              clear hK K
              refine done_ (by kernel_rfl) ?_
              go_wp2_with fail
              go_roundg d
              case measure => omega
              case rel =>
                refine ⟨q + 1, A7, c7, by go_num, ⟨by have := HD.out; omega⟩, by omega, ⟨?_⟩, ⟨?_⟩, ⟨?_⟩⟩
                · have := blk_set 0 (.slice A7 (q + 1 : Nat) c7) HK7.out
                  simpa using this
                · have e1 : ((x :: r).take q).map zeroU ++ [zeroU a] = ((x :: r).take (q + 1)).map zeroU := by
                    rw [List.take_add_one, HA.out, List.map_append]; rfl
                  have h1 := HO7.out
                  rw [e1] at h1
                  exact own_tn h1 (Tn.set g 0 _ (F := fun z => z = g) rfl) (fun z hz e => by have h2 := (HO7.out.lt z hz).1; omega)
                · exact gb_new HG7.out (gb_setCell w7 g 0 _) HGW.out
        | succ d =>
          have hlt : j < i := by have := HD.out; omega
          have hlt1 : decide ((j : Int) < (i : Int)) = true := decide_eq_true (by omega)
          have hlt2 : decide (j < i) = true := decide_eq_true hlt
          go_wp2_with fail
          refine (rdepth_calls wo ad i c (x :: r) (j : Int) HRo.out hn64 HPZ.out ⟨by omega, by omega⟩).mono ?_
          rintro e W9 ⟨rfl, rfl⟩
          obtain ⟨dv, hdv⟩ : ∃ dv, dv = depV (x :: r) (j : Int) := ⟨_, rfl⟩
          have HDV := Aside0.mk (show depE (x :: r) j = if dv < 0 then 67 else if 4 < dv then 64 else 0 by unfold depE; rw [hdv])
          rw [← hdv]
          clear hdv
          by_cases h0 : dv < 0
          · have b1 : decide (dv < 0) = true := decide_eq_true h0
            rw [if_pos h0] at HDV
            have HEx := Aside0.mk (show loadE (x :: r) = 67 by
              have h1 := HE.out
              rw [deps_stop HDV.out (by decide)] at h1
              rw [HL2.out, ← h1])
            clear h0
            go_wp2
            go_ret2
            exact ⟨⟨_, by rw [HEx.out]; rfl⟩, HG.out⟩
          · have b1 : decide (dv < 0) = false := decide_eq_false h0
            rw [if_neg h0] at HDV
            by_cases h4 : 4 < dv
            · have b2 : decide (4 < dv) = true := decide_eq_true h4
              rw [if_pos h4] at HDV
              have HEx := Aside0.mk (show loadE (x :: r) = 64 by
                have h1 := HE.out
                rw [deps_stop HDV.out (by decide)] at h1
                rw [HL2.out, ← h1])
              clear h0 h4
              go_wp2
              go_ret2
              exact ⟨⟨_, by rw [HEx.out]; rfl⟩, HG.out⟩
            · have b2 : decide (4 < dv) = false := decide_eq_false h4
              rw [if_neg h4] at HDV
              clear h0 h4
              go_wp2_with fail
              go_roundg d
              case measure => omega
              case rel => exact ⟨j + 1, by go_num, ⟨by have := HD.out; omega⟩, by omega, by omega, ⟨by rw [← HE.out, deps_go HDV.out]⟩, rfl⟩
    | succ d =>
      have hlt : i < n := by have := HD.out; omega
      have hlt1 : decide ((i : Int) < (n : Int)) = true := decide_eq_true (by omega)
      have hlt2 : decide (i < n) = true := decide_eq_true hlt
      obtain ⟨a, ha⟩ : ∃ a, (x :: r)[i]? = some a := ⟨_, List.getElem?_eq_getElem (by rw [HN.out]; exact hlt)⟩
      have HRC := Aside0.mk (row_calls wr ad n c (x :: r) i a (HR.out.gb HG.out) ha (HOK.out a (List.mem_of_getElem? ha)).1)
      have HA := Aside0.mk ha
      clear ha
      go_wp2_with fail
      refine (HRC.out).mono ?_
      rintro e W9 ⟨rfl, hg⟩
      obtain ⟨rv, hrv⟩ : ∃ rv, rv = rowE (x :: r) i a := ⟨_, rfl⟩
      have HRV := Aside0.mk hrv.symm
      have HG9 := Aside0.mk (World.grownBy.trans HG.out hg)
      rw [← hrv]
      clear hrv hg HRC
      by_cases h0 : rv = 0
      · have b1 : (rv != 0) = false := by simp [h0]
        have HR0 := Aside0.mk (show rowE (x :: r) i a = 0 by rw [HRV.out, h0])
        clear h0
        go_wp2_with fail
        go_roundg d
        case measure => omega
        case rel => exact ⟨i + 1, by go_num, ⟨by have := HD.out; omega⟩, by omega, by omega, ⟨by rw [← HE.out, rows_go HA.out HR0.out]⟩, HG9⟩
      · have b1 : (rv != 0) = true := by simp [h0]
        have HEx := Aside0.mk (show loadE (x :: r) = rv by
          have h1 := HE.out
          rw [rows_stop HA.out HRV.out h0] at h1
          rw [HLE.out, ← h1, if_neg h0])
        clear h0
        go_wp2
        go_ret2
        exact ⟨⟨_, by rw [HEx.out]; rfl⟩, HG9.out⟩
end Go.Proofs.YtbhijfbjdbjpbaaDoor.T
