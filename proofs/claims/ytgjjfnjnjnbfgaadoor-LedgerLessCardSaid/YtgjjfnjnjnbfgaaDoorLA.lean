/- LedgerApart, walked. Conditions: each theorem's own. -/
import Derived.Test.YtgjjfnjnjnbfgaaDoorLK
namespace Go.Proofs.YtgjjfnjnjnbfgaaDoor.L
open Go.RowKit Go.Proofs.YtgjjfnjnjnbfgaaDoorW.PrintWords Go.Proofs.YtgjjfnjnjnbfgaaDoorW.PrintLast Go.Proofs.YtgjjfnjnjnbfgaaDoor.H Go.Proofs.YtgjjfnjnjnbfgaaDoor.Q Go.Proofs.YtgjjfnjnjnbfgaaDoor.GLG
set_option linter.unusedVariables false
set_option linter.unusedSimpArgs false

/-- Two blocks that were made, in whatever order. -/
structure TwoNew (w w' : World) (o : Obj) (p q : Nat) : Prop where
  b1 : w'.heap[p]? = some o
  b2 : w'.heap[q]? = some o
  ne : p ≠ q
  n1 : w.heap.size ≤ p
  n2 : w.heap.size ≤ q
  gb : w.grownBy w' none
theorem two_new (w : World) (o : Obj) : TwoNew w ((w.drew.alloc o).alloc o) o w.heap.size (w.heap.size + 1) := by
  refine ⟨?_, ?_, by omega, by omega, by omega, World.grownBy.trans (gb_drew w none) (World.grownBy.trans (World.grownBy_alloc w.drew o none) (World.grownBy_alloc _ o none))⟩
  · exact blk_kept (heap_alloc_new w.drew o) (World.grownBy_alloc (w.drew.alloc o) o none) (by simp)
  · have := heap_alloc_new (w.drew.alloc o) o
    simpa using this
theorem two_new' (w : World) (o : Obj) : TwoNew w ((w.drew.alloc o).alloc o) o (w.heap.size + 1) w.heap.size := by
  obtain ⟨a, b, c, d, e, f⟩ := two_new w o
  exact ⟨b, a, c.symm, e, d, f⟩
/-- A struct of four cells, stored. -/
theorem st4_tn (w : World) (p : Nat) (v0 v1 v2 v3 : Value) : Tn w ((((w.setCell ⟨p, 0, none⟩ v0).setCell ⟨p, 1, none⟩ v1).setCell ⟨p, 2, none⟩ v2).setCell ⟨p, 3, none⟩ v3) (fun k => k = p) :=
  (((Tn.set (F := fun k => k = p) p 0 v0 rfl).trans' (Tn.set p 1 v1 rfl)).trans' (Tn.set p 2 v2 rfl)).trans' (Tn.set p 3 v3 rfl)
theorem st4_cell {w : World} {p : Nat} {v0 v1 v2 v3 v : Value} {a : Addr} (h : w.cell? a = some v) (hne : a.block ≠ p) : ((((w.setCell ⟨p, 0, none⟩ v0).setCell ⟨p, 1, none⟩ v1).setCell ⟨p, 2, none⟩ v2).setCell ⟨p, 3, none⟩ v3).cell? a = some v := cell_tn h (st4_tn w p v0 v1 v2 v3) hne
theorem st4_blk {w : World} {p : Nat} {a b c d : Value} {t : TypeId} {fr : Nat × Nat} (v0 v1 v2 v3 : Value) (h : w.heap[p]? = some (.cells #[a, b, c, d] t fr)) : ((((w.setCell ⟨p, 0, none⟩ v0).setCell ⟨p, 1, none⟩ v1).setCell ⟨p, 2, none⟩ v2).setCell ⟨p, 3, none⟩ v3).heap[p]? = some (.cells #[v0, v1, v2, v3] t fr) := by
  have h0 := blk_set 0 v0 h
  have h1 := blk_set 1 v1 h0
  have h2 := blk_set 2 v2 h1
  have h3 := blk_set 3 v3 h2
  simpa using h3
theorem take_rev {α β : Type} (f : α → β) {ls : List α} {j : Nat} {x : α} (h : ls[j]? = some x) : ((ls.take (j + 1)).map f).reverse = f x :: ((ls.take j).map f).reverse := by
  obtain ⟨hl, he⟩ := List.getElem?_eq_some_iff.1 h
  rw [List.take_succ_eq_append_getElem hl, List.map_append, List.reverse_append, he]; rfl
theorem drop_map {α β : Type} (f : α → β) {ls : List α} {n j : Nat} {x : α} (hn : j < n) (h : ls[n - 1 - j]? = some x) : (ls.drop (n - (j + 1))).map f = f x :: (ls.drop (n - j)).map f := by
  obtain ⟨hl, he⟩ := List.getElem?_eq_some_iff.1 h
  rw [show n - (j + 1) = n - 1 - j by omega, List.drop_eq_getElem_cons hl, List.map_cons, he, show n - 1 - j + 1 = n - j by omega]
theorem c_of_rd {k : IntKind} {w : World} {A : Option Addr} {n : Nat} {xs : List Int} (h : Rd (Ei k) w A n xs) : Kd.C (Kd.int k) w A n xs :=
  Kd.C_of_reads (d := 0) ⟨h.1, h.2.1, fun hn => by
    obtain ⟨ad, e, hc⟩ := h.2.2 hn
    refine ⟨ad, e, fun j hj => ?_⟩
    obtain ⟨ad', e', hc'⟩ := Rd.int h j hj
    rw [e] at e'; cases e'
    simpa [rd] using hc'⟩
theorem usages_calls (w : World) (A B : Option Addr) (n c d : Nat) (xs ys : List Int) (hx : Rd (Ei .u64) w A n xs) (hy : Rd (Ei .u64) w B n ys) (hc : n ≤ c) (hd : n ≤ d) :
    Calls Tryd.prog 11 #[.slice A n c, .slice B n d] w fun e w' => e = .returned (.bool (decide (xs = ys))) ∧ w.grownBy w' none := by
  have e1 := hx.1
  have e2 := hy.1
  have h := backfilllaw12_usages.calls (xs.length + 1) A c xs B d ys _ w (by rw [e1]; exact c_of_rd hx) (by omega) (by rw [e2]; exact c_of_rd hy) (by omega) (usages (by have := hx.2.1; omega))
  rw [e1, e2] at h
  exact h.mono fun e w' ⟨h1, h2⟩ => ⟨h1, gb_of_below h2.below none⟩
theorem usages3 (w : World) (A B : Option Addr) (c d : Nat) (xs : List Int) (hl : xs.length = 3) (hx : Rd (Ei .u64) w A 3 xs) (hy : Rd (Ei .u64) w B 3 xs) (hc : 3 ≤ c) (hd : 3 ≤ d) :
    Calls Tryd.prog 11 #[.slice A 3 c, .slice B 3 d] w fun e w' => e = .returned (.bool true) ∧ w.grownBy w' none := by
  have h := usages_calls w A B 3 c d xs xs hx hy hc hd
  rw [decide_eq_true (rfl : xs = xs)] at h
  exact h
/-- Three ledgers, apart. -/
structure Sep (s0 gc ga gq go : Nat) (Aa Ab Ao : Option Addr) (Ba Bb Bo : Nat) : Prop where
  h0 : s0 ≤ gc
  h1 : gc < Ba
  ha : ∀ k, Foot ga Aa k → Ba ≤ k ∧ k < Bb
  hb : ∀ k, Foot gq Ab k → Bb ≤ k ∧ k < Bo
  ho : ∀ k, Foot go Ao k → Bo ≤ k
structure Three (s0 : Nat) (w0 w : World) (gc ga gq go : Nat) (Aa Ab Ao : Option Addr) (Ba Bb Bo ca cb co : Nat) (nodes factor : Int) (xa xb xo : List Int) : Prop where
  a : LedAt w Ba ga Aa 3 ca nodes factor xa
  b : LedAt w Bb gq Ab 3 cb nodes factor xb
  o : LedAt w Bo go Ao 3 co nodes factor xo
  cfg : w.cell? ⟨gc, 0, none⟩ = some (.int .i64 nodes)
  bel : Below s0 w0 w
  big : s0 ≤ w.heap.size
section
variable {s0 : Nat} {w0 w w1 : World} {gc ga gq go : Nat} {Aa Ab Ao : Option Addr} {Ba Bb Bo ca cb co : Nat} {nodes factor : Int} {xa xb xo xs : List Int}
theorem Sep.le (S : Sep s0 gc ga gq go Aa Ab Ao Ba Bb Bo) : Ba ≤ Bb ∧ Bb ≤ Bo := ⟨by have := S.ha ga (.inl rfl); omega, by have := S.hb gq (.inl rfl); omega⟩
theorem Three.gb (h : Three s0 w0 w gc ga gq go Aa Ab Ao Ba Bb Bo ca cb co nodes factor xa xb xo) (hg : w.grownBy w1 none) : Three s0 w0 w1 gc ga gq go Aa Ab Ao Ba Bb Bo ca cb co nodes factor xa xb xo :=
  ⟨h.a.gb hg, h.b.gb hg, h.o.gb hg, hg.cell h.cfg (by simp), below_gb h.bel hg h.big (by simp), Nat.le_trans h.big hg.size⟩
/-- Blocks beyond all of these are written. -/
theorem Three.far {F : Nat → Prop} (S : Sep s0 gc ga gq go Aa Ab Ao Ba Bb Bo) (h : Three s0 w0 w gc ga gq go Aa Ab Ao Ba Bb Bo ca cb co nodes factor xa xb xo) {wr : World} (hr : Three s0 w0 wr gc ga gq go Aa Ab Ao Ba Bb Bo ca cb co nodes factor xa xb xo) (hg : Tn w w1 F) (hF : ∀ k, F k → wr.heap.size ≤ k) : Three s0 w0 w1 gc ga gq go Aa Ab Ao Ba Bb Bo ca cb co nodes factor xa xb xo := by
  have l := S.le
  refine ⟨h.a.tn hg fun k hk hf => ?_, h.b.tn hg fun k hk hf => ?_, h.o.tn hg fun k hk hf => ?_, cell_tn h.cfg hg fun hf => ?_, h.bel.trans (hg.below h.big fun i hi => Nat.le_trans hr.big (hF i hi)), Nat.le_trans h.big hg.size⟩
  · have := hr.a.foot k hk; have := hF k hf; omega
  · have := hr.b.foot k hk; have := hF k hf; omega
  · have := hr.o.foot k hk; have := hF k hf; omega
  · have h1 := hF gc hf; have h2 := hr.a.foot ga (.inl rfl); have := S.h1; omega
theorem Three.sa (S : Sep s0 gc ga gq go Aa Ab Ao Ba Bb Bo) (h : Three s0 w0 w gc ga gq go Aa Ab Ao Ba Bb Bo ca cb co nodes factor xa xb xo) (hl : LedAt w1 Ba ga Aa 3 ca nodes factor xs) (hg : Tn w w1 (Foot ga Aa)) : Three s0 w0 w1 gc ga gq go Aa Ab Ao Ba Bb Bo ca cb co nodes factor xs xb xo := by
  have l := S.le
  refine ⟨hl, h.b.tn hg fun k hk hf => ?_, h.o.tn hg fun k hk hf => ?_, cell_tn h.cfg hg fun hf => ?_, h.bel.trans (hg.below h.big fun i hi => ?_), Nat.le_trans h.big hg.size⟩
  · have := S.ha k hf; have := S.hb k hk; omega
  · have := S.ha k hf; have := S.ho k hk; omega
  · have := S.ha gc hf; have := S.h1; omega
  · have := S.ha i hi; have := S.h1; have := S.h0; omega
theorem Three.sb (S : Sep s0 gc ga gq go Aa Ab Ao Ba Bb Bo) (h : Three s0 w0 w gc ga gq go Aa Ab Ao Ba Bb Bo ca cb co nodes factor xa xb xo) (hl : LedAt w1 Bb gq Ab 3 cb nodes factor xs) (hg : Tn w w1 (Foot gq Ab)) : Three s0 w0 w1 gc ga gq go Aa Ab Ao Ba Bb Bo ca cb co nodes factor xa xs xo := by
  have l := S.le
  refine ⟨h.a.tn hg fun k hk hf => ?_, hl, h.o.tn hg fun k hk hf => ?_, cell_tn h.cfg hg fun hf => ?_, h.bel.trans (hg.below h.big fun i hi => ?_), Nat.le_trans h.big hg.size⟩
  · have := S.hb k hf; have := S.ha k hk; omega
  · have := S.hb k hf; have := S.ho k hk; omega
  · have := S.hb gc hf; have := S.h1; omega
  · have := S.hb i hi; have := S.h1; have := S.h0; omega
theorem Three.so (S : Sep s0 gc ga gq go Aa Ab Ao Ba Bb Bo) (h : Three s0 w0 w gc ga gq go Aa Ab Ao Ba Bb Bo ca cb co nodes factor xa xb xo) (hl : LedAt w1 Bo go Ao 3 co nodes factor xs) (hg : Tn w w1 (Foot go Ao)) : Three s0 w0 w1 gc ga gq go Aa Ab Ao Ba Bb Bo ca cb co nodes factor xa xb xs := by
  have l := S.le
  refine ⟨h.a.tn hg fun k hk hf => ?_, h.b.tn hg fun k hk hf => ?_, hl, cell_tn h.cfg hg fun hf => ?_, h.bel.trans (hg.below h.big fun i hi => ?_), Nat.le_trans h.big hg.size⟩
  · have := S.ho k hf; have := S.ha k hk; omega
  · have := S.ho k hf; have := S.hb k hk; omega
  · have := S.ho gc hf; have := S.h1; omega
  · have := S.ho i hi; have := S.h1; have := S.h0; omega
end
/-! ### what they come to -/
def tot (k : Int) : List (Int × Int) → Int
  | [] => 0
  | p :: r => (if p.1 = k then p.2 * 4294967296 else 0) + tot k r
theorem tot_nonneg (k : Int) : ∀ l : List (Int × Int), (∀ p ∈ l, 0 ≤ p.2) → 0 ≤ tot k l
  | [], _ => by simp [tot]
  | p :: r, h => by
    have h1 := tot_nonneg k r (fun q hq => h q (List.mem_cons_of_mem _ hq))
    have h2 := h p List.mem_cons_self
    unfold tot
    split <;> omega
theorem tot_append (k : Int) (a b : List (Int × Int)) : tot k (a ++ b) = tot k a + tot k b := by
  induction a with
  | nil => simp [tot]
  | cons p r ih => simp only [List.cons_append, tot, ih]; omega
theorem tot_reverse (k : Int) (a : List (Int × Int)) : tot k a.reverse = tot k a := by
  induction a with
  | nil => rfl
  | cons p r ih => rw [List.reverse_cons, tot_append, ih]; simp only [tot]; omega
def satL (l : List (Int × Int)) : List Int := [(capV (tot 0 l)).1, (capV (tot 1 l)).1, (capV (tot 2 l)).1]
def oneL (l : List (Int × Int)) : List Int := [0, (capV (tot 1 l)).1, 0]
theorem there3 {a : Int} (h0 : 0 ≤ a) (h1 : a < 3) : thereB 3 a = true := by
  unfold thereB
  rw [decide_eq_true h0, decide_eq_true (by omega : a < ((3 : Nat) : Int))]; rfl
theorem charge_c0 {nodes a m : Int} (h0 : 0 ≤ a) (h1 : a < 3) (m0 : 0 ≤ m) (m1 : m ≤ nodes) : chargeC nodes 3 a m = 0 := by
  unfold chargeC
  rw [there3 h0 h1, if_pos rfl, if_neg (by omega), if_neg (by omega)]
theorem satL_step {nodes a m : Int} {l : List (Int × Int)} (h0 : 0 ≤ a) (h1 : a < 3) (m0 : 0 ≤ m) (m1 : m ≤ nodes) (hn : nodes ≤ 256) (hl : ∀ p ∈ l, 0 ≤ p.2) : chargeL nodes 3 (satL l) a m = satL ((a, m) :: l) := by
  unfold chargeL
  rw [if_pos (charge_c0 h0 h1 m0 m1)]
  have t := fun k => tot_nonneg k l hl
  have : a = 0 ∨ a = 1 ∨ a = 2 := by omega
  rcases this with rfl | rfl | rfl
  · have e : rd (satL l) 0 = (capV (tot 0 l)).1 := rfl
    rw [e, charge_sat (t 0) m0 (by omega)]
    simp [satL, tot, Int.add_comm]
  · have e : rd (satL l) 1 = (capV (tot 1 l)).1 := rfl
    rw [e, charge_sat (t 1) m0 (by omega)]
    simp [satL, tot, Int.add_comm]
  · have e : rd (satL l) 2 = (capV (tot 2 l)).1 := rfl
    rw [e, charge_sat (t 2) m0 (by omega)]
    simp [satL, tot, Int.add_comm]
theorem oneL_step {nodes m : Int} {l : List (Int × Int)} (m0 : 0 ≤ m) (m1 : m ≤ nodes) (hn : nodes ≤ 256) (hl : ∀ p ∈ l, 0 ≤ p.2) : chargeL nodes 3 (oneL l) 1 m = oneL ((1, m) :: l) := by
  unfold chargeL
  rw [if_pos (charge_c0 (by omega) (by omega) m0 m1)]
  have e : rd (oneL l) 1 = (capV (tot 1 l)).1 := rfl
  rw [e, charge_sat (tot_nonneg 1 l hl) m0 (by omega)]
  simp [oneL, tot, Int.add_comm]
theorem oneL_other {a m : Int} {l : List (Int × Int)} (h : a ≠ 1) : oneL ((a, m) :: l) = oneL l := by
  unfold oneL
  simp [tot, h]
def prA (nodes : Int) (x : Int × Int × Int × Int) : Int × Int := (amongV x.2.2.1 3, amongV x.2.2.2 (nodes + 1))
theorem prA_nonneg {nodes : Int} (hn : 0 ≤ nodes) (l : List (Int × Int × Int × Int)) : ∀ p ∈ l.map (prA nodes), 0 ≤ p.2 := by
  intro p hp
  obtain ⟨x, _, rfl⟩ := List.mem_map.1 hp
  exact (among_bd _ _ (by omega)).1
set_option maxHeartbeats 8000000 in
set_option maxRecDepth 100000 in
theorem Apart_law (w : World) (hL : LaidW w) (a0 a1 a2 a3 a4 a5 a6 a7 : Int) (A : Option Addr) (n c : Nat) (ls : List (Int × Int × Int × Int)) (hr : Rd Ea w A n ls) (hc : n ≤ c) (hs : n * 32 ≤ 140737488351232) (hk : checkV a0 a1 a2 a3 a4 a5 a6 a7 = 0) :
    Calls Tryd.prog 5 #[.agg #[.int .i64 a0, .int .i64 a1, .int .i64 a2, .int .i64 a3, .int .i64 a4, .int .i64 a5, .int .i64 a6, .int .i64 a7], .slice A n c] w fun e w' => e = .returned (.bool true) ∧ Below w.heap.size w w' := by
  have HC := chk_cfg hk
  have hn0 : 1 ≤ a0 := HC.n0
  have hn1 : a0 ≤ 256 := HC.n1
  have HF2 := Aside0.mk (fact_ok HC)
  have HFU := Aside0.mk (factU a6 a7)
  have HR := Aside0.mk hr
  have HL := Aside0.mk hL
  have HK0 := Aside0.mk hk
  have HB0 := Aside0.mk (heap_alloc_new w (.cells #[.int .i64 a0, .int .i64 a1, .int .i64 a2, .int .i64 a3, .int .i64 a4, .int .i64 a5, .int .i64 a6, .int .i64 a7] 23))
  have HG0 := Aside0.mk (World.grownBy_alloc w (.cells #[.int .i64 a0, .int .i64 a1, .int .i64 a2, .int .i64 a3, .int .i64 a4, .int .i64 a5, .int .i64 a6, .int .i64 a7] 23) none)
  clear HC hr hL hk
  go_enter Tryd.func5, Tryd.ntmps5
  go_wp2_with fail
  refine (shown_calls _ (laid_below HL.out (below_of_gb HG0.out))).mono ?_
  rintro e w1 ⟨rfl, hb⟩
  have HB1 := Aside0.mk (blk_kept HB0.out (gb_of_below hb none) (by simp))
  have HG1 := Aside0.mk (World.grownBy.trans HG0.out (gb_of_below hb none))
  clear hb HB0 HG0
  have q0 : w1.cell? ⟨w.heap.size, 0, none⟩ = some (.int .i64 a0) := cell_of HB1.out rfl
  have q1 : w1.cell? ⟨w.heap.size, 1, none⟩ = some (.int .i64 a1) := cell_of HB1.out rfl
  have q2 : w1.cell? ⟨w.heap.size, 2, none⟩ = some (.int .i64 a2) := cell_of HB1.out rfl
  have q3 : w1.cell? ⟨w.heap.size, 3, none⟩ = some (.int .i64 a3) := cell_of HB1.out rfl
  have q4 : w1.cell? ⟨w.heap.size, 4, none⟩ = some (.int .i64 a4) := cell_of HB1.out rfl
  have q5 : w1.cell? ⟨w.heap.size, 5, none⟩ = some (.int .i64 a5) := cell_of HB1.out rfl
  have q6 : w1.cell? ⟨w.heap.size, 6, none⟩ = some (.int .i64 a6) := cell_of HB1.out rfl
  have q7 : w1.cell? ⟨w.heap.size, 7, none⟩ = some (.int .i64 a7) := cell_of HB1.out rfl
  have HCk := Aside0.mk (check_calls w1 a0 a1 a2 a3 a4 a5 a6 a7)
  rw [HK0.out] at HCk
  go_wp2_with fail
  refine (HCk.out).mono ?_
  rintro e w2 ⟨rfl, hb⟩
  have HB2 := Aside0.mk (blk_kept HB1.out (gb_of_below hb none) (by simp))
  have HG2 := Aside0.mk (World.grownBy.trans HG1.out (gb_of_below hb none))
  clear hb HB1 HG1 q0 q1 q2 q3 q4 q5 q6 q7 HCk
  have q0 : w2.cell? ⟨w.heap.size, 0, none⟩ = some (.int .i64 a0) := cell_of HB2.out rfl
  have q1 : w2.cell? ⟨w.heap.size, 1, none⟩ = some (.int .i64 a1) := cell_of HB2.out rfl
  have q2 : w2.cell? ⟨w.heap.size, 2, none⟩ = some (.int .i64 a2) := cell_of HB2.out rfl
  have q3 : w2.cell? ⟨w.heap.size, 3, none⟩ = some (.int .i64 a3) := cell_of HB2.out rfl
  have q4 : w2.cell? ⟨w.heap.size, 4, none⟩ = some (.int .i64 a4) := cell_of HB2.out rfl
  have q5 : w2.cell? ⟨w.heap.size, 5, none⟩ = some (.int .i64 a5) := cell_of HB2.out rfl
  have q6 : w2.cell? ⟨w.heap.size, 6, none⟩ = some (.int .i64 a6) := cell_of HB2.out rfl
  have q7 : w2.cell? ⟨w.heap.size, 7, none⟩ = some (.int .i64 a7) := cell_of HB2.out rfl
  have HZr := Aside0.mk (show Rd (Ei .u64) (w2.alloc (.cells #[.int .u64 0, .int .u64 0, .int .u64 0] 28)) (some ⟨w2.heap.size, 0, none⟩) 3 [0, 0, 0] from rd_lit (Ei .u64) w2 28 [0, 0, 0] (by simp))
  have HBz := Aside0.mk (blk_kept HB2.out (World.grownBy_alloc w2 (.cells #[.int .u64 0, .int .u64 0, .int .u64 0] 28) none) (by simp))
  have HGz := Aside0.mk (World.grownBy.trans HG2.out (World.grownBy_alloc w2 (.cells #[.int .u64 0, .int .u64 0, .int .u64 0] 28) none))
  have hl2 : w.heap.size < w2.heap.size := blk_lt' HB2.out
  have HU0 : Aside0 (∀ x ∈ [(0 : Int), 0, 0], U x) := ⟨by intro x hx; simp at hx; subst hx; exact ⟨by decide, by decide⟩⟩
  go_wp2_with fail
  refine (New_ok _ (laid_below HL.out (below_of_gb HGz.out)) a0 a1 a2 a3 a4 a5 a6 a7 _ 3 3 [0, 0, 0] HK0.out (by omega) HZr.out HU0.out (by omega) (by omega) HFU.out).mono ?_
  rintro e wA3 ⟨ga, Aa, ca, rfl, hla, hg⟩
  have HLa3 := Aside0.mk hla
  have HB3 := Aside0.mk (blk_kept HBz.out hg (by simp))
  have HG3 := Aside0.mk (World.grownBy.trans HGz.out hg)
  have HZ3 := Aside0.mk (HZr.out.gb hg)
  clear hla hg HB2 HG2 HBz HGz HZr q0 q1 q2 q3 q4 q5 q6 q7
  have q0 : wA3.cell? ⟨w.heap.size, 0, none⟩ = some (.int .i64 a0) := cell_of HB3.out rfl
  have q1 : wA3.cell? ⟨w.heap.size, 1, none⟩ = some (.int .i64 a1) := cell_of HB3.out rfl
  have q2 : wA3.cell? ⟨w.heap.size, 2, none⟩ = some (.int .i64 a2) := cell_of HB3.out rfl
  have q3 : wA3.cell? ⟨w.heap.size, 3, none⟩ = some (.int .i64 a3) := cell_of HB3.out rfl
  have q4 : wA3.cell? ⟨w.heap.size, 4, none⟩ = some (.int .i64 a4) := cell_of HB3.out rfl
  have q5 : wA3.cell? ⟨w.heap.size, 5, none⟩ = some (.int .i64 a5) := cell_of HB3.out rfl
  have q6 : wA3.cell? ⟨w.heap.size, 6, none⟩ = some (.int .i64 a6) := cell_of HB3.out rfl
  have q7 : wA3.cell? ⟨w.heap.size, 7, none⟩ = some (.int .i64 a7) := cell_of HB3.out rfl
  go_wp2_with fail
  refine (New_ok _ (laid_below HL.out (below_of_gb HG3.out)) a0 a1 a2 a3 a4 a5 a6 a7 _ 3 3 [0, 0, 0] HK0.out (by omega) HZ3.out HU0.out (by omega) (by omega) HFU.out).mono ?_
  rintro e w4 ⟨gq, Ab, cb, rfl, hlb, hg⟩
  have HLa4 := Aside0.mk (HLa3.out.gb hg)
  have HLb4 := Aside0.mk hlb
  have HFa := Aside0.mk HLa3.out.foot
  have HB4 := Aside0.mk (blk_kept HB3.out hg (by simp))
  have HG4 := Aside0.mk (World.grownBy.trans HG3.out hg)
  have HZ4 := Aside0.mk (HZ3.out.gb hg)
  clear hlb hg HLa3 HB3 HG3 HZ3 q0 q1 q2 q3 q4 q5 q6 q7
  have q0 : w4.cell? ⟨w.heap.size, 0, none⟩ = some (.int .i64 a0) := cell_of HB4.out rfl
  have q1 : w4.cell? ⟨w.heap.size, 1, none⟩ = some (.int .i64 a1) := cell_of HB4.out rfl
  have q2 : w4.cell? ⟨w.heap.size, 2, none⟩ = some (.int .i64 a2) := cell_of HB4.out rfl
  have q3 : w4.cell? ⟨w.heap.size, 3, none⟩ = some (.int .i64 a3) := cell_of HB4.out rfl
  have q4 : w4.cell? ⟨w.heap.size, 4, none⟩ = some (.int .i64 a4) := cell_of HB4.out rfl
  have q5 : w4.cell? ⟨w.heap.size, 5, none⟩ = some (.int .i64 a5) := cell_of HB4.out rfl
  have q6 : w4.cell? ⟨w.heap.size, 6, none⟩ = some (.int .i64 a6) := cell_of HB4.out rfl
  have q7 : w4.cell? ⟨w.heap.size, 7, none⟩ = some (.int .i64 a7) := cell_of HB4.out rfl
  go_wp2_with fail
  refine (New_ok _ (laid_below HL.out (below_of_gb HG4.out)) a0 a1 a2 a3 a4 a5 a6 a7 _ 3 3 [0, 0, 0] HK0.out (by omega) HZ4.out HU0.out (by omega) (by omega) HFU.out).mono ?_
  rintro e w5 ⟨go, Ao, co, rfl, hlo, hg⟩
  obtain ⟨F, hF⟩ : ∃ F, F = (factV a6 a7).1 := ⟨_, rfl⟩
  obtain ⟨Ba, hBa⟩ : ∃ B, B = (w2.alloc (.cells #[.int .u64 0, .int .u64 0, .int .u64 0] 28)).heap.size := ⟨_, rfl⟩
  have HS : Aside0 (Sep w.heap.size w.heap.size ga gq go Aa Ab Ao Ba wA3.heap.size w4.heap.size) := ⟨⟨Nat.le_refl _, by rw [hBa]; simp; omega, fun k hk => by rw [hBa]; exact HFa.out k hk, HLb4.out.foot, fun k hk => (hlo.foot k hk).1⟩⟩
  have HT : Aside0 (Three w.heap.size w w5 w.heap.size ga gq go Aa Ab Ao Ba wA3.heap.size w4.heap.size ca cb co a0 F (satL []) (satL []) (oneL [])) := ⟨by
    rw [hBa, hF]
    exact ⟨HLa4.out.gb hg, HLb4.out.gb hg, hlo, cell_of (blk_kept HB4.out hg (by simp)) rfl, below_of_gb (World.grownBy.trans HG4.out hg), (World.grownBy.trans HG4.out hg).size⟩⟩
  have HR5 := Aside0.mk (HR.out.gb (World.grownBy.trans HG4.out hg))
  clear hlo hg HLa4 HLb4 HFa HB4 HG4 HZ4 q0 q1 q2 q3 q4 q5 q6 q7 hF hBa HFU
  go_wp2_with fail
  go_loopg [51] n (fun k v51 wr => ∃ j : Nat, v51 = .int .i64 j ∧ Aside0 (j + k = n) ∧ j ≤ n ∧ Aside0 (Three w.heap.size w wr w.heap.size ga gq go Aa Ab Ao Ba wA3.heap.size w4.heap.size ca cb co a0 F (satL ((ls.take j).map (prA a0)).reverse) (satL ((ls.drop (n - j)).map (prA a0))) (oneL ((ls.take j).map (prA a0)).reverse)))
  case atStart => exact ⟨0, rfl, ⟨by omega⟩, by omega, ⟨by simpa [List.drop_of_length_le (Nat.le_of_eq HR.out.1)] using HT.out⟩⟩
  case round =>
    obtain ⟨j, rfl, HD, hj, HT⟩ := hrel
    cases gk with
    | zero =>
      obtain rfl : n = j := by have := HD.out; omega
      have HL0 := Aside0.mk HR.out.1
      have hE : satL ((ls.drop (n - n)).map (prA a0)) = satL ((ls.take n).map (prA a0)).reverse := by
        rw [Nat.sub_self, List.drop_zero, List.take_of_length_le (Nat.le_of_eq HL0.out)]
        unfold satL
        rw [tot_reverse, tot_reverse, tot_reverse]
      rw [hE] at HT
      obtain ⟨R, hR⟩ : ∃ R, R = ((ls.take n).map (prA a0)).reverse := ⟨_, rfl⟩
      rw [← hR] at HT
      have hFu : U F := HT.out.a.fac
      clear hE hR
      go_wp2_with fail
      refine (Fade_calls wr _ ga Aa 3 ca a0 F _ HT.out.a (by omega)).mono ?_
      rintro e w6 ⟨rfl, hl, ht⟩
      have HT6 := Aside0.mk (Three.sa HS.out HT.out hl ht)
      clear hl ht HT
      go_wp2_with fail
      refine (Fade_calls w6 _ gq Ab 3 cb a0 F _ HT6.out.b (by omega)).mono ?_
      rintro e w7 ⟨rfl, hl, ht⟩
      have HT7 := Aside0.mk (Three.sb HS.out HT6.out hl ht)
      clear hl ht HT6
      go_wp2_with fail
      refine (Fade_calls w7 _ go Ao 3 co a0 F _ HT7.out.o (by omega)).mono ?_
      rintro e w8 ⟨rfl, hl, ht⟩
      have HT8 := Aside0.mk (Three.so HS.out HT7.out hl ht)
      clear hl ht HT7
      obtain ⟨V, hV⟩ : ∃ V, V = partV (capV (tot 1 R)).1 F := ⟨_, rfl⟩
      have HO1 : Aside0 (ownV ((oneL R).map (fun x => partV x F)) 1 = V) := ⟨by rw [hV]; rfl⟩
      have HO2 : Aside0 (ownV ((satL R).map (fun x => partV x F)) 1 = V) := ⟨by rw [hV]; rfl⟩
      have HO3 : Aside0 (ownV ((oneL R).map (fun x => partV x F)) 0 = 0) := ⟨by
        show partV 0 F = 0
        unfold partV
        rw [Int.zero_mul]; rfl⟩
      obtain ⟨La, hLa⟩ : ∃ L, L = (satL R).map (fun x => partV x F) := ⟨_, rfl⟩
      obtain ⟨Lo, hLo⟩ : ∃ L, L = (oneL R).map (fun x => partV x F) := ⟨_, rfl⟩
      rw [← hLa, ← hLo] at HT8
      rw [← hLo] at HO1 HO3
      rw [← hLa] at HO2
      have HTd := Aside0.mk (HT8.out.gb (gb_drew w8 none))
      have hvb : (V == V) = true := by simp
      clear hV hLa hLo HT8
      go_wp2_with fail
      refine start_ (n := 28) (S := fun w' => True) (ds := []) #[false, false, false, false, false, false, false, false, false, false, false, false, false, false, false, false, false, false, false, false, false, false, false, false, false, false, false, false] (by kernel_rfl) rfl rfl trivial (fun hHeld => ?_)
      refine pure_ (i := 0) (N := some 107) (v := ?_) (a' := ?_) #[true, false, false, false, false, false, false, false, false, false, false, false, false, false, false, false, false, false, false, false, false, false, false, false, false, false, false, false] rfl rfl (by kernel_rfl) (fun _ _ _ h => h) (Or.inl ⟨by rfl, ?_⟩) ?_ ?_
      rotate_left
      · intro w'
        go_simp
        with_reducible rfl
      rotate_left
      · simp only [Act.put, List.setIfInBounds_toArray, List.set_cons_zero, List.set_cons_succ, i64_w, i32_w]
        rfl
      refine pure_ (i := 1) (N := some 108) (v := ?_) (a' := ?_) #[true, true, false, false, false, false, false, false, false, false, false, false, false, false, false, false, false, false, false, false, false, false, false, false, false, false, false, false] rfl rfl (by kernel_rfl) (fun _ _ _ h => h) (Or.inl ⟨by rfl, ?_⟩) ?_ ?_
      rotate_left
      · intro w'
        go_simp
        with_reducible rfl
      rotate_left
      · simp only [Act.put, List.setIfInBounds_toArray, List.set_cons_zero, List.set_cons_succ, i64_w, i32_w]
        rfl
      refine pure_ (i := 2) (N := some 109) (v := ?_) (a' := ?_) #[true, true, true, false, false, false, false, false, false, false, false, false, false, false, false, false, false, false, false, false, false, false, false, false, false, false, false, false] rfl rfl (by kernel_rfl) (fun _ _ _ h => h) (Or.inl ⟨by rfl, ?_⟩) ?_ ?_
      rotate_left
      · intro w'
        go_simp
        with_reducible rfl
      rotate_left
      · simp only [Act.put, List.setIfInBounds_toArray, List.set_cons_zero, List.set_cons_succ, i64_w, i32_w]
        rfl
      refine pure_ (i := 4) (N := some 111) (v := ?_) (a' := ?_) #[true, true, true, false, true, false, false, false, false, false, false, false, false, false, false, false, false, false, false, false, false, false, false, false, false, false, false, false] rfl rfl (by kernel_rfl) (fun _ _ _ h => h) (Or.inl ⟨by rfl, ?_⟩) ?_ ?_
      rotate_left
      · intro w'
        go_simp
        with_reducible rfl
      rotate_left
      · simp only [Act.put, List.setIfInBounds_toArray, List.set_cons_zero, List.set_cons_succ, i64_w, i32_w]
        rfl
      refine pure_ (i := 5) (N := some 112) (v := ?_) (a' := ?_) #[true, true, true, false, true, true, false, false, false, false, false, false, false, false, false, false, false, false, false, false, false, false, false, false, false, false, false, false] rfl rfl (by kernel_rfl) (fun _ _ _ h => h) (Or.inl ⟨by rfl, ?_⟩) ?_ ?_
      rotate_left
      · intro w'
        go_simp
        with_reducible rfl
      rotate_left
      · simp only [Act.put, List.setIfInBounds_toArray, List.set_cons_zero, List.set_cons_succ, i64_w, i32_w]
        rfl
      refine pure_ (i := 6) (N := some 113) (v := ?_) (a' := ?_) #[true, true, true, false, true, true, true, false, false, false, false, false, false, false, false, false, false, false, false, false, false, false, false, false, false, false, false, false] rfl rfl (by kernel_rfl) (fun _ _ _ h => h) (Or.inl ⟨by rfl, ?_⟩) ?_ ?_
      rotate_left
      · intro w'
        go_simp
        with_reducible rfl
      rotate_left
      · simp only [Act.put, List.setIfInBounds_toArray, List.set_cons_zero, List.set_cons_succ, i64_w, i32_w]
        rfl
      refine one_ (i := 3) (N := some 110) #[true, true, true, true, true, true, true, false, false, false, false, false, false, false, false, false, false, false, false, false, false, false, false, false, false, false, false, false] rfl rfl (by kernel_rfl) (by decide) (fun K hK => ?_)
      refine goes_ Tryd.func20 (by kernel_rfl) rfl #[.pointer (some ⟨ga, 0, none⟩)] (by rfl) rfl rfl (by simp only [List.map_toArray, List.map_cons, List.map_nil]; try rfl) ?_
      with_reducible refine ((List_calls _ _ ga Aa 3 ca _ _ _ HTd.out.a (by omega))).mono ?_
      rintro e w31 ⟨v31, rfl, ho, hg⟩
      rw [HTd.out.a.len] at ho
      obtain ⟨A31, c31, rfl, hr31, hc31, -⟩ := own_open HTd.out.a.len ho
      refine ⟨_, rfl, ?_⟩
      have HR31 := Aside0.mk hr31; have HT31 := Aside0.mk (HTd.out.gb hg); clear ho hg hr31
      refine hK.out _ _ trivial (fun hHeld => ?_)
      clear hK K
      refine norm_ (a' := ?_) ?_ ?_
      rotate_left
      · show Act.put _ (some 110) _ = _
        simp only [Act.put, List.setIfInBounds_toArray, List.set_cons_zero, List.set_cons_succ, i64_w, i32_w]
        rfl
      refine one_ (i := 7) (N := some 114) #[true, true, true, true, true, true, true, true, false, false, false, false, false, false, false, false, false, false, false, false, false, false, false, false, false, false, false, false] rfl rfl (by kernel_rfl) (by decide) (fun K hK => ?_)
      refine goes_ Tryd.func20 (by kernel_rfl) rfl #[.pointer (some ⟨gq, 0, none⟩)] (by rfl) rfl rfl (by simp only [List.map_toArray, List.map_cons, List.map_nil]; try rfl) ?_
      with_reducible refine ((List_calls _ _ gq Ab 3 cb _ _ _ HT31.out.b (by omega))).mono ?_
      rintro e w32 ⟨v32, rfl, ho, hg⟩
      rw [HT31.out.b.len] at ho
      obtain ⟨A32, c32, rfl, hr32, hc32, -⟩ := own_open HT31.out.b.len ho
      refine ⟨_, rfl, ?_⟩
      have HR32 := Aside0.mk hr32; have HR31b := Aside0.mk (HR31.out.gb hg); have HT32 := Aside0.mk (HT31.out.gb hg); clear ho hg hr32
      refine hK.out _ _ trivial (fun hHeld => ?_)
      clear hK K
      refine norm_ (a' := ?_) ?_ ?_
      rotate_left
      · show Act.put _ (some 114) _ = _
        simp only [Act.put, List.setIfInBounds_toArray, List.set_cons_zero, List.set_cons_succ, i64_w, i32_w]
        rfl
      refine one_ (i := 8) (N := some 115) #[true, true, true, true, true, true, true, true, true, false, false, false, false, false, false, false, false, false, false, false, false, false, false, false, false, false, false, false] rfl rfl (by kernel_rfl) (by decide) (fun K hK => ?_)
      have HUs := Aside0.mk (usages3 w32 A31 A32 c31 c32 _ HTd.out.a.len HR31b.out HR32.out hc31 hc32)
      refine goes_ Tryd.func11 (by kernel_rfl) rfl #[.slice A31 3 c31, .slice A32 3 c32] (by rfl) rfl rfl (by simp only [List.map_toArray, List.map_cons, List.map_nil]; try rfl) ?_
      with_reducible refine (HUs.out).mono ?_
      rintro e w33 ⟨rfl, hg⟩
      refine ⟨_, rfl, ?_⟩
      have HT33 := Aside0.mk (HT32.out.gb hg); clear hg
      refine hK.out _ _ trivial (fun hHeld => ?_)
      clear hK K
      refine norm_ (a' := ?_) ?_ ?_
      rotate_left
      · show Act.put _ (some 115) _ = _
        simp only [Act.put, List.setIfInBounds_toArray, List.set_cons_zero, List.set_cons_succ, i64_w, i32_w]
        rfl
      refine pure_ (i := 9) (N := some 116) (v := ?_) (a' := ?_) #[true, true, true, true, true, true, true, true, true, true, false, false, false, false, false, false, false, false, false, false, false, false, false, false, false, false, false, false] rfl rfl (by kernel_rfl) (fun _ _ _ h => h) (Or.inl ⟨by rfl, ?_⟩) ?_ ?_
      rotate_left
      · intro w'
        go_simp
        with_reducible rfl
      rotate_left
      · simp only [Act.put, List.setIfInBounds_toArray, List.set_cons_zero, List.set_cons_succ, i64_w, i32_w]
        rfl
      refine pure_ (i := 10) (N := some 117) (v := ?_) (a' := ?_) #[true, true, true, true, true, true, true, true, true, true, true, false, false, false, false, false, false, false, false, false, false, false, false, false, false, false, false, false] rfl rfl (by kernel_rfl) (fun _ _ _ h => h) (Or.inl ⟨by rfl, ?_⟩) ?_ ?_
      rotate_left
      · intro w'
        go_simp
        with_reducible rfl
      rotate_left
      · simp only [Act.put, List.setIfInBounds_toArray, List.set_cons_zero, List.set_cons_succ, i64_w, i32_w]
        rfl
      refine pure_ (i := 11) (N := some 118) (v := ?_) (a' := ?_) #[true, true, true, true, true, true, true, true, true, true, true, true, false, false, false, false, false, false, false, false, false, false, false, false, false, false, false, false] rfl rfl (by kernel_rfl) (fun _ _ _ h => h) (Or.inl ⟨by rfl, ?_⟩) ?_ ?_
      rotate_left
      · intro w'
        go_simp
        with_reducible rfl
      rotate_left
      · simp only [Act.put, List.setIfInBounds_toArray, List.set_cons_zero, List.set_cons_succ, i64_w, i32_w]
        rfl
      refine pure_ (i := 12) (N := some 119) (v := ?_) (a' := ?_) #[true, true, true, true, true, true, true, true, true, true, true, true, true, false, false, false, false, false, false, false, false, false, false, false, false, false, false, false] rfl rfl (by kernel_rfl) (fun _ _ _ h => h) (Or.inl ⟨by rfl, ?_⟩) ?_ ?_
      rotate_left
      · intro w'
        go_simp
        with_reducible rfl
      rotate_left
      · simp only [Act.put, List.setIfInBounds_toArray, List.set_cons_zero, List.set_cons_succ, i64_w, i32_w]
        rfl
      refine pure_ (i := 14) (N := some 121) (v := ?_) (a' := ?_) #[true, true, true, true, true, true, true, true, true, true, true, true, true, false, true, false, false, false, false, false, false, false, false, false, false, false, false, false] rfl rfl (by kernel_rfl) (fun _ _ _ h => h) (Or.inl ⟨by rfl, ?_⟩) ?_ ?_
      rotate_left
      · intro w'
        go_simp
        with_reducible rfl
      rotate_left
      · simp only [Act.put, List.setIfInBounds_toArray, List.set_cons_zero, List.set_cons_succ, i64_w, i32_w]
        rfl
      refine pure_ (i := 15) (N := some 122) (v := ?_) (a' := ?_) #[true, true, true, true, true, true, true, true, true, true, true, true, true, false, true, true, false, false, false, false, false, false, false, false, false, false, false, false] rfl rfl (by kernel_rfl) (fun _ _ _ h => h) (Or.inl ⟨by rfl, ?_⟩) ?_ ?_
      rotate_left
      · intro w'
        go_simp
        with_reducible rfl
      rotate_left
      · simp only [Act.put, List.setIfInBounds_toArray, List.set_cons_zero, List.set_cons_succ, i64_w, i32_w]
        rfl
      refine pure_ (i := 16) (N := some 123) (v := ?_) (a' := ?_) #[true, true, true, true, true, true, true, true, true, true, true, true, true, false, true, true, true, false, false, false, false, false, false, false, false, false, false, false] rfl rfl (by kernel_rfl) (fun _ _ _ h => h) (Or.inl ⟨by rfl, ?_⟩) ?_ ?_
      rotate_left
      · intro w'
        go_simp
        with_reducible rfl
      rotate_left
      · simp only [Act.put, List.setIfInBounds_toArray, List.set_cons_zero, List.set_cons_succ, i64_w, i32_w]
        rfl
      refine one_ (i := 13) (N := some 120) #[true, true, true, true, true, true, true, true, true, true, true, true, true, true, true, true, true, false, false, false, false, false, false, false, false, false, false, false] rfl rfl (by kernel_rfl) (by decide) (fun K hK => ?_)
      refine goes_ Tryd.func23 (by kernel_rfl) rfl #[.pointer (some ⟨go, 0, none⟩), .int .i64 1] (by rfl) rfl rfl (by simp only [List.map_toArray, List.map_cons, List.map_nil]; try rfl) ?_
      with_reducible refine ((Own_calls _ go Ao 3 co _ 1 HT33.out.o.c0 HT33.out.o.rd)).mono ?_
      rintro e w34 ⟨rfl, rfl⟩
      refine ⟨_, rfl, ?_⟩
      rw [HO1.out]
      refine hK.out _ _ trivial (fun hHeld => ?_)
      clear hK K
      refine norm_ (a' := ?_) ?_ ?_
      rotate_left
      · show Act.put _ (some 120) _ = _
        simp only [Act.put, List.setIfInBounds_toArray, List.set_cons_zero, List.set_cons_succ, i64_w, i32_w]
        rfl
      refine one_ (i := 17) (N := some 124) #[true, true, true, true, true, true, true, true, true, true, true, true, true, true, true, true, true, true, false, false, false, false, false, false, false, false, false, false] rfl rfl (by kernel_rfl) (by decide) (fun K hK => ?_)
      refine goes_ Tryd.func23 (by kernel_rfl) rfl #[.pointer (some ⟨ga, 0, none⟩), .int .i64 1] (by rfl) rfl rfl (by simp only [List.map_toArray, List.map_cons, List.map_nil]; try rfl) ?_
      with_reducible refine ((Own_calls _ ga Aa 3 ca _ 1 HT33.out.a.c0 HT33.out.a.rd)).mono ?_
      rintro e w34 ⟨rfl, rfl⟩
      refine ⟨_, rfl, ?_⟩
      rw [HO2.out]
      refine hK.out _ _ trivial (fun hHeld => ?_)
      clear hK K
      refine norm_ (a' := ?_) ?_ ?_
      rotate_left
      · show Act.put _ (some 124) _ = _
        simp only [Act.put, List.setIfInBounds_toArray, List.set_cons_zero, List.set_cons_succ, i64_w, i32_w]
        rfl
      refine pure_ (i := 18) (N := some 125) (v := ?_) (a' := ?_) #[true, true, true, true, true, true, true, true, true, true, true, true, true, true, true, true, true, true, true, false, false, false, false, false, false, false, false, false] rfl rfl (by kernel_rfl) (fun _ _ _ h => h) (Or.inl ⟨by rfl, ?_⟩) ?_ ?_
      rotate_left
      · intro w'
        go_simp
        with_reducible rfl
      rotate_left
      · simp only [Act.put, List.setIfInBounds_toArray, List.set_cons_zero, List.set_cons_succ, i64_w, i32_w]
        rfl
      refine pure_ (i := 19) (N := some 126) (v := ?_) (a' := ?_) #[true, true, true, true, true, true, true, true, true, true, true, true, true, true, true, true, true, true, true, true, false, false, false, false, false, false, false, false] rfl rfl (by kernel_rfl) (fun _ _ _ h => h) (Or.inl ⟨by rfl, ?_⟩) ?_ ?_
      rotate_left
      · intro w'
        go_simp
        with_reducible rfl
      rotate_left
      · simp only [Act.put, List.setIfInBounds_toArray, List.set_cons_zero, List.set_cons_succ, i64_w, i32_w]
        rfl
      refine pure_ (i := 20) (N := some 127) (v := ?_) (a' := ?_) #[true, true, true, true, true, true, true, true, true, true, true, true, true, true, true, true, true, true, true, true, true, false, false, false, false, false, false, false] rfl rfl (by kernel_rfl) (fun _ _ _ h => h) (Or.inl ⟨by rfl, ?_⟩) ?_ ?_
      rotate_left
      · intro w'
        go_simp
        with_reducible rfl
      rotate_left
      · simp only [Act.put, List.setIfInBounds_toArray, List.set_cons_zero, List.set_cons_succ, i64_w, i32_w]
        rfl
      refine pure_ (i := 21) (N := some 128) (v := ?_) (a' := ?_) #[true, true, true, true, true, true, true, true, true, true, true, true, true, true, true, true, true, true, true, true, true, true, false, false, false, false, false, false] rfl rfl (by kernel_rfl) (fun _ _ _ h => h) (Or.inl ⟨by rfl, ?_⟩) ?_ ?_
      rotate_left
      · intro w'
        go_simp
        with_reducible rfl
      rotate_left
      · simp only [Act.put, List.setIfInBounds_toArray, List.set_cons_zero, List.set_cons_succ, i64_w, i32_w]
        rfl
      refine pure_ (i := 22) (N := some 129) (v := ?_) (a' := ?_) #[true, true, true, true, true, true, true, true, true, true, true, true, true, true, true, true, true, true, true, true, true, true, true, false, false, false, false, false] rfl rfl (by kernel_rfl) (fun _ _ _ h => h) (Or.inl ⟨by rfl, ?_⟩) ?_ ?_
      rotate_left
      · intro w'
        go_simp
        with_reducible rfl
      rotate_left
      · simp only [Act.put, List.setIfInBounds_toArray, List.set_cons_zero, List.set_cons_succ, i64_w, i32_w]
        rfl
      refine pure_ (i := 23) (N := some 130) (v := ?_) (a' := ?_) #[true, true, true, true, true, true, true, true, true, true, true, true, true, true, true, true, true, true, true, true, true, true, true, true, false, false, false, false] rfl rfl (by kernel_rfl) (fun _ _ _ h => h) (Or.inl ⟨by rfl, ?_⟩) ?_ ?_
      rotate_left
      · intro w'
        go_simp
        with_reducible rfl
      rotate_left
      · simp only [Act.put, List.setIfInBounds_toArray, List.set_cons_zero, List.set_cons_succ, i64_w, i32_w]
        rfl
      refine one_ (i := 24) (N := some 131) #[true, true, true, true, true, true, true, true, true, true, true, true, true, true, true, true, true, true, true, true, true, true, true, true, true, false, false, false] rfl rfl (by kernel_rfl) (by decide) (fun K hK => ?_)
      refine goes_ Tryd.func23 (by kernel_rfl) rfl #[.pointer (some ⟨go, 0, none⟩), .int .i64 0] (by rfl) rfl rfl (by simp only [List.map_toArray, List.map_cons, List.map_nil]; try rfl) ?_
      with_reducible refine ((Own_calls _ go Ao 3 co _ 0 HT33.out.o.c0 HT33.out.o.rd)).mono ?_
      rintro e w34 ⟨rfl, rfl⟩
      refine ⟨_, rfl, ?_⟩
      rw [HO3.out]
      refine hK.out _ _ trivial (fun hHeld => ?_)
      clear hK K
      refine norm_ (a' := ?_) ?_ ?_
      rotate_left
      · show Act.put _ (some 131) _ = _
        simp only [Act.put, List.setIfInBounds_toArray, List.set_cons_zero, List.set_cons_succ, i64_w, i32_w]
        rfl
      refine pure_ (i := 25) (N := some 132) (v := ?_) (a' := ?_) #[true, true, true, true, true, true, true, true, true, true, true, true, true, true, true, true, true, true, true, true, true, true, true, true, true, true, false, false] rfl rfl (by kernel_rfl) (fun _ _ _ h => h) (Or.inl ⟨by rfl, ?_⟩) ?_ ?_
      rotate_left
      · intro w'
        go_simp
        with_reducible rfl
      rotate_left
      · simp only [Act.put, List.setIfInBounds_toArray, List.set_cons_zero, List.set_cons_succ, i64_w, i32_w]
        rfl
      refine pure_ (i := 26) (N := some 133) (v := ?_) (a' := ?_) #[true, true, true, true, true, true, true, true, true, true, true, true, true, true, true, true, true, true, true, true, true, true, true, true, true, true, true, false] rfl rfl (by kernel_rfl) (fun _ _ _ h => h) (Or.inl ⟨by rfl, ?_⟩) ?_ ?_
      rotate_left
      · intro w'
        go_simp
        with_reducible rfl
      rotate_left
      · simp only [Act.put, List.setIfInBounds_toArray, List.set_cons_zero, List.set_cons_succ, i64_w, i32_w]
        rfl
      refine pure_ (i := 27) (N := some 4) (v := ?_) (a' := ?_) #[true, true, true, true, true, true, true, true, true, true, true, true, true, true, true, true, true, true, true, true, true, true, true, true, true, true, true, true] rfl rfl (by kernel_rfl) (fun _ _ _ h => h) (Or.inl ⟨by rfl, ?_⟩) ?_ ?_
      rotate_left
      · intro w'
        go_simp
        with_reducible rfl
      rotate_left
      · simp only [Act.put, List.setIfInBounds_toArray, List.set_cons_zero, List.set_cons_succ, i64_w, i32_w]
        rfl
      refine done_ (by kernel_rfl) ?_
      go_wp2
      go_ret
      exact ⟨rfl, HT33.out.bel⟩
    | succ k =>
      have hlt : j < n := by have := HD.out; omega
      have hb1 : decide (j < n) = true := decide_eq_true hlt
      have HRw := Aside0.mk (HR.out.below (w' := wr) ⟨HT.out.bel.os, HT.out.bel.tape, HT.out.bel.output, HT.out.bel.size, HT.out.bel.block⟩)
      obtain ⟨ad, x, rfl, hx, e1, e2, e3, e4⟩ := act_at HRw.out j hlt
      obtain ⟨ad', y, he, hy, f1, f2, f3, f4⟩ := act_at HRw.out (n - 1 - j) (by omega)
      cases he
      obtain ⟨x1, x2, x3, x4⟩ := x
      obtain ⟨y1, y2, y3, y4⟩ := y
      have HX := Aside0.mk hx
      have HY := Aside0.mk hy
      have HK : Aside0 (wr.drew.cell? (ad.add (j * 4)) = some (.int .i64 x1) ∧ wr.drew.cell? ⟨(ad.add (j * 4)).block, (ad.add (j * 4)).off + 1, none⟩ = some (.int .i64 x2) ∧ wr.drew.cell? ⟨(ad.add (j * 4)).block, (ad.add (j * 4)).off + 2, none⟩ = some (.int .i64 x3) ∧ wr.drew.cell? ⟨(ad.add (j * 4)).block, (ad.add (j * 4)).off + 3, none⟩ = some (.int .i64 x4) ∧ wr.drew.cell? (ad.add ((n - 1 - j) * 4)) = some (.int .i64 y1) ∧ wr.drew.cell? ⟨(ad.add ((n - 1 - j) * 4)).block, (ad.add ((n - 1 - j) * 4)).off + 1, none⟩ = some (.int .i64 y2) ∧ wr.drew.cell? ⟨(ad.add ((n - 1 - j) * 4)).block, (ad.add ((n - 1 - j) * 4)).off + 2, none⟩ = some (.int .i64 y3) ∧ wr.drew.cell? ⟨(ad.add ((n - 1 - j) * 4)).block, (ad.add ((n - 1 - j) * 4)).off + 3, none⟩ = some (.int .i64 y4)) := ⟨e1, e2, e3, e4, f1, f2, f3, f4⟩
      have HW1 : Aside0 (wrap64 ((n : Int) - 1) = ((n - 1 : Nat) : Int)) := ⟨by rw [wrap64_in (by omega) (by omega)]; omega⟩
      have HW2 : Aside0 (wrap64 (((n - 1 : Nat) : Int) - (j : Int)) = ((n - 1 - j : Nat) : Int)) := ⟨by rw [wrap64_in (by omega) (by omega)]; omega⟩
      have hk0 : (0 : Int) ≤ (j : Int) := by omega
      have hk1 : (j : Int) < (n : Int) := by omega
      have hk2 : (0 : Int) ≤ ((n - 1 - j : Nat) : Int) := by omega
      have hk3 : ((n - 1 - j : Nat) : Int) < (n : Int) := by omega
      have HAD : Aside0 (ad.block < wr.heap.size) := ⟨by have := World.block_lt_of_cell? _ _ e1; rwa [H.add_block] at this⟩
      clear hx hy e1 e2 e3 e4 f1 f2 f3 f4 HRw
      go_wp2_with fail
      refine start_ (n := 16) (S := fun w' => w'.cell? (ad.add (j * 4)) = some (.int .i64 x1) ∧ w'.cell? ⟨(ad.add (j * 4)).block, (ad.add (j * 4)).off + 1, none⟩ = some (.int .i64 x2) ∧ w'.cell? ⟨(ad.add (j * 4)).block, (ad.add (j * 4)).off + 2, none⟩ = some (.int .i64 x3) ∧ w'.cell? ⟨(ad.add (j * 4)).block, (ad.add (j * 4)).off + 3, none⟩ = some (.int .i64 x4) ∧ w'.cell? (ad.add ((n - 1 - j) * 4)) = some (.int .i64 y1) ∧ w'.cell? ⟨(ad.add ((n - 1 - j) * 4)).block, (ad.add ((n - 1 - j) * 4)).off + 1, none⟩ = some (.int .i64 y2) ∧ w'.cell? ⟨(ad.add ((n - 1 - j) * 4)).block, (ad.add ((n - 1 - j) * 4)).off + 2, none⟩ = some (.int .i64 y3) ∧ w'.cell? ⟨(ad.add ((n - 1 - j) * 4)).block, (ad.add ((n - 1 - j) * 4)).off + 3, none⟩ = some (.int .i64 y4)) (ds := [15]) #[false, false, false, false, false, false, false, false, false, false, false, false, false, false, false, false] (by kernel_rfl) rfl rfl ⟨HK.out.1, HK.out.2.1, HK.out.2.2.1, HK.out.2.2.2.1, HK.out.2.2.2.2.1, HK.out.2.2.2.2.2.1, HK.out.2.2.2.2.2.2.1, HK.out.2.2.2.2.2.2.2⟩ (fun hHeld => ?_)
      refine pure_ (i := 0) (N := some 54) (v := ?_) (a' := ?_) #[true, false, false, false, false, false, false, false, false, false, false, false, false, false, false, false] rfl rfl (by kernel_rfl) (fun _ _ _ h => h) (Or.inl ⟨by rfl, ?_⟩) ?_ ?_
      rotate_left
      · intro w'
        go_simp
        with_reducible rfl
      rotate_left
      · simp only [Act.put, List.setIfInBounds_toArray, List.set_cons_zero, List.set_cons_succ, i64_w, i32_w, HW1.out, HW2.out]
        rfl
      refine pure_ (i := 1) (N := some 55) (v := ?_) (a' := ?_) #[true, true, false, false, false, false, false, false, false, false, false, false, false, false, false, false] rfl rfl (by kernel_rfl) (fun _ _ _ h => h) (Or.inl ⟨by rfl, ?_⟩) ?_ ?_
      rotate_left
      · intro w'
        go_simp
        with_reducible rfl
      rotate_left
      · simp only [Act.put, List.setIfInBounds_toArray, List.set_cons_zero, List.set_cons_succ, i64_w, i32_w, HW1.out, HW2.out]
        rfl
      refine pure_ (i := 2) (N := some 56) (v := ?_) (a' := ?_) #[true, true, true, false, false, false, false, false, false, false, false, false, false, false, false, false] rfl rfl (by kernel_rfl) (fun _ _ _ h => h) (Or.inl ⟨by rfl, ?_⟩) ?_ ?_
      rotate_left
      · intro w'
        go_simp
        with_reducible rfl
      rotate_left
      · simp only [Act.put, List.setIfInBounds_toArray, List.set_cons_zero, List.set_cons_succ, i64_w, i32_w, HW1.out, HW2.out]
        rfl
      refine pure_ (i := 4) (N := some 58) (v := ?_) (a' := ?_) #[true, true, true, false, true, false, false, false, false, false, false, false, false, false, false, false] rfl rfl (by kernel_rfl) (fun _ _ _ h => h) (Or.inl ⟨by rfl, ?_⟩) ?_ ?_
      rotate_left
      · intro w'
        go_simp
        with_reducible rfl
      rotate_left
      · simp only [Act.put, List.setIfInBounds_toArray, List.set_cons_zero, List.set_cons_succ, i64_w, i32_w, HW1.out, HW2.out]
        rfl
      refine pure_ (i := 5) (N := some 59) (v := ?_) (a' := ?_) #[true, true, true, false, true, true, false, false, false, false, false, false, false, false, false, false] rfl rfl (by kernel_rfl) (fun _ _ _ h => h) (Or.inl ⟨by rfl, ?_⟩) ?_ ?_
      rotate_left
      · intro w'
        go_simp
        with_reducible rfl
      rotate_left
      · simp only [Act.put, List.setIfInBounds_toArray, List.set_cons_zero, List.set_cons_succ, i64_w, i32_w, HW1.out, HW2.out]
        rfl
      refine pure_ (i := 6) (N := some 60) (v := ?_) (a' := ?_) #[true, true, true, false, true, true, true, false, false, false, false, false, false, false, false, false] rfl rfl (by kernel_rfl) (fun _ _ _ h => h) (Or.inl ⟨by rfl, ?_⟩) ?_ ?_
      rotate_left
      · intro w'
        go_simp
        with_reducible rfl
      rotate_left
      · simp only [Act.put, List.setIfInBounds_toArray, List.set_cons_zero, List.set_cons_succ, i64_w, i32_w, HW1.out, HW2.out]
        rfl
      refine pure_ (i := 7) (N := some 61) (v := ?_) (a' := ?_) #[true, true, true, false, true, true, true, true, false, false, false, false, false, false, false, false] rfl rfl (by kernel_rfl) (fun _ _ _ h => h) (Or.inl ⟨by rfl, ?_⟩) ?_ ?_
      rotate_left
      · intro w'
        go_simp
        with_reducible rfl
      rotate_left
      · simp only [Act.put, List.setIfInBounds_toArray, List.set_cons_zero, List.set_cons_succ, i64_w, i32_w, HW1.out, HW2.out]
        rfl
      refine pure_ (i := 8) (N := some 62) (v := ?_) (a' := ?_) #[true, true, true, false, true, true, true, true, true, false, false, false, false, false, false, false] rfl rfl (by kernel_rfl) (fun _ _ _ h => h) (Or.inl ⟨by rfl, ?_⟩) ?_ ?_
      rotate_left
      · intro w'
        go_simp
        with_reducible rfl
      rotate_left
      · simp only [Act.put, List.setIfInBounds_toArray, List.set_cons_zero, List.set_cons_succ, i64_w, i32_w, HW1.out, HW2.out]
        rfl
      refine pure_ (i := 9) (N := some 63) (v := ?_) (a' := ?_) #[true, true, true, false, true, true, true, true, true, true, false, false, false, false, false, false] rfl rfl (by kernel_rfl) (fun _ _ _ h => h) (Or.inl ⟨by rfl, ?_⟩) ?_ ?_
      rotate_left
      · intro w'
        go_simp
        with_reducible rfl
      rotate_left
      · simp only [Act.put, List.setIfInBounds_toArray, List.set_cons_zero, List.set_cons_succ, i64_w, i32_w, HW1.out, HW2.out]
        rfl
      refine pure_ (i := 10) (N := some 64) (v := ?_) (a' := ?_) #[true, true, true, false, true, true, true, true, true, true, true, false, false, false, false, false] rfl rfl (by kernel_rfl) (fun _ _ _ h => h) (Or.inl ⟨by rfl, ?_⟩) ?_ ?_
      rotate_left
      · intro w'
        go_simp
        with_reducible rfl
      rotate_left
      · simp only [Act.put, List.setIfInBounds_toArray, List.set_cons_zero, List.set_cons_succ, i64_w, i32_w, HW1.out, HW2.out]
        rfl
      refine take_ (i := 3) (N := some 57) (v := ?_) (a' := ?_) #[true, true, true, true, true, true, true, true, true, true, true, false, false, false, false, false] rfl rfl (by kernel_rfl) (fun _ _ _ h => h) (Or.inl ⟨by rfl, ?_⟩) hHeld ?_ ?_
      rotate_left
      · rintro w' ⟨s0, s1, s2, s3, s4, s5, s6, s7⟩
        go_simp
        with_reducible rfl
      rotate_left
      · simp only [Act.put, List.setIfInBounds_toArray, List.set_cons_zero, List.set_cons_succ, i64_w, i32_w, HW1.out, HW2.out]
        rfl
      refine take_ (i := 11) (N := some 65) (v := ?_) (a' := ?_) #[true, true, true, true, true, true, true, true, true, true, true, true, false, false, false, false] rfl rfl (by kernel_rfl) (fun _ _ _ h => h) (Or.inl ⟨by rfl, ?_⟩) hHeld ?_ ?_
      rotate_left
      · rintro w' ⟨s0, s1, s2, s3, s4, s5, s6, s7⟩
        go_simp
        with_reducible rfl
      rotate_left
      · simp only [Act.put, List.setIfInBounds_toArray, List.set_cons_zero, List.set_cons_succ, i64_w, i32_w, HW1.out, HW2.out]
        rfl
      refine join_ (σ := Nat × Nat) 2 #[true, true, true, true, true, true, true, true, true, true, true, true, true, true, false, false] (fun s => [(13, .pointer (some ⟨s.1, 0, none⟩)), (14, .pointer (some ⟨s.2, 0, none⟩))]) (fun s w' => TwoNew wr w' (.cells #[.int .i64 0, .int .i64 0, .int .i64 0, .int .i64 0] 40) s.1 s.2) ?_ ?_
      rotate_left
      · intro hCont
        refine two_ (i := 12) (j := 13) (Ni := some 13) (Nj := some 14) #[true, true, true, true, true, true, true, true, true, true, true, true, true, false, false, false] #[true, true, true, true, true, true, true, true, true, true, true, true, false, true, false, false] rfl rfl rfl rfl (by kernel_rfl) (by decide) (by decide) (fun K hK => ?_) (fun K hK => ?_)
        · skip
          refine value_ (w1 := ?_) (v := ?_) (by rfl) rfl ?_ ?_
          rotate_left 2
          · go_simp
            constructor
            · rfl
            · rfl
          refine hK.out _ _ ⟨(World.grownBy_alloc _ (.cells #[.int .i64 0, .int .i64 0, .int .i64 0, .int .i64 0] 40) none).cell hHeld.1 (by simp), (World.grownBy_alloc _ (.cells #[.int .i64 0, .int .i64 0, .int .i64 0, .int .i64 0] 40) none).cell hHeld.2.1 (by simp), (World.grownBy_alloc _ (.cells #[.int .i64 0, .int .i64 0, .int .i64 0, .int .i64 0] 40) none).cell hHeld.2.2.1 (by simp), (World.grownBy_alloc _ (.cells #[.int .i64 0, .int .i64 0, .int .i64 0, .int .i64 0] 40) none).cell hHeld.2.2.2.1 (by simp), (World.grownBy_alloc _ (.cells #[.int .i64 0, .int .i64 0, .int .i64 0, .int .i64 0] 40) none).cell hHeld.2.2.2.2.1 (by simp), (World.grownBy_alloc _ (.cells #[.int .i64 0, .int .i64 0, .int .i64 0, .int .i64 0] 40) none).cell hHeld.2.2.2.2.2.1 (by simp), (World.grownBy_alloc _ (.cells #[.int .i64 0, .int .i64 0, .int .i64 0, .int .i64 0] 40) none).cell hHeld.2.2.2.2.2.2.1 (by simp), (World.grownBy_alloc _ (.cells #[.int .i64 0, .int .i64 0, .int .i64 0, .int .i64 0] 40) none).cell hHeld.2.2.2.2.2.2.2 (by simp)⟩ (fun hHeld => ?_)
          clear hK K
          refine norm_ (a' := ?_) ?_ ?_
          rotate_left
          · show Act.put _ (some 13) _ = _
            simp only [Act.put, List.setIfInBounds_toArray, List.set_cons_zero, List.set_cons_succ, i64_w, i32_w, HW1.out, HW2.out]
            rfl
          refine one_ (i := 13) (N := some 14) #[true, true, true, true, true, true, true, true, true, true, true, true, true, true, false, false] rfl rfl (by kernel_rfl) (by decide) (fun K hK => ?_)
          refine value_ (w1 := ?_) (v := ?_) (by rfl) rfl ?_ ?_
          rotate_left 2
          · go_simp
            constructor
            · rfl
            · rfl
          refine hK.out _ _ ⟨(World.grownBy_alloc _ (.cells #[.int .i64 0, .int .i64 0, .int .i64 0, .int .i64 0] 40) none).cell hHeld.1 (by simp), (World.grownBy_alloc _ (.cells #[.int .i64 0, .int .i64 0, .int .i64 0, .int .i64 0] 40) none).cell hHeld.2.1 (by simp), (World.grownBy_alloc _ (.cells #[.int .i64 0, .int .i64 0, .int .i64 0, .int .i64 0] 40) none).cell hHeld.2.2.1 (by simp), (World.grownBy_alloc _ (.cells #[.int .i64 0, .int .i64 0, .int .i64 0, .int .i64 0] 40) none).cell hHeld.2.2.2.1 (by simp), (World.grownBy_alloc _ (.cells #[.int .i64 0, .int .i64 0, .int .i64 0, .int .i64 0] 40) none).cell hHeld.2.2.2.2.1 (by simp), (World.grownBy_alloc _ (.cells #[.int .i64 0, .int .i64 0, .int .i64 0, .int .i64 0] 40) none).cell hHeld.2.2.2.2.2.1 (by simp), (World.grownBy_alloc _ (.cells #[.int .i64 0, .int .i64 0, .int .i64 0, .int .i64 0] 40) none).cell hHeld.2.2.2.2.2.2.1 (by simp), (World.grownBy_alloc _ (.cells #[.int .i64 0, .int .i64 0, .int .i64 0, .int .i64 0] 40) none).cell hHeld.2.2.2.2.2.2.2 (by simp)⟩ (fun hHeld => ?_)
          clear hK K
          refine norm_ (a' := ?_) ?_ ?_
          rotate_left
          · show Act.put _ (some 14) _ = _
            simp only [Act.put, List.setIfInBounds_toArray, List.set_cons_zero, List.set_cons_succ, i64_w, i32_w, HW1.out, HW2.out]
            rfl
          exact norm_ (by simp only [putAll, Act.put, List.setIfInBounds_toArray, List.set_cons_zero, List.set_cons_succ]) (hCont (wr.heap.size, wr.heap.size + 1) _ (two_new wr (.cells #[.int .i64 0, .int .i64 0, .int .i64 0, .int .i64 0] 40)))
        · skip
          refine value_ (w1 := ?_) (v := ?_) (by rfl) rfl ?_ ?_
          rotate_left 2
          · go_simp
            constructor
            · rfl
            · rfl
          refine hK.out _ _ ⟨(World.grownBy_alloc _ (.cells #[.int .i64 0, .int .i64 0, .int .i64 0, .int .i64 0] 40) none).cell hHeld.1 (by simp), (World.grownBy_alloc _ (.cells #[.int .i64 0, .int .i64 0, .int .i64 0, .int .i64 0] 40) none).cell hHeld.2.1 (by simp), (World.grownBy_alloc _ (.cells #[.int .i64 0, .int .i64 0, .int .i64 0, .int .i64 0] 40) none).cell hHeld.2.2.1 (by simp), (World.grownBy_alloc _ (.cells #[.int .i64 0, .int .i64 0, .int .i64 0, .int .i64 0] 40) none).cell hHeld.2.2.2.1 (by simp), (World.grownBy_alloc _ (.cells #[.int .i64 0, .int .i64 0, .int .i64 0, .int .i64 0] 40) none).cell hHeld.2.2.2.2.1 (by simp), (World.grownBy_alloc _ (.cells #[.int .i64 0, .int .i64 0, .int .i64 0, .int .i64 0] 40) none).cell hHeld.2.2.2.2.2.1 (by simp), (World.grownBy_alloc _ (.cells #[.int .i64 0, .int .i64 0, .int .i64 0, .int .i64 0] 40) none).cell hHeld.2.2.2.2.2.2.1 (by simp), (World.grownBy_alloc _ (.cells #[.int .i64 0, .int .i64 0, .int .i64 0, .int .i64 0] 40) none).cell hHeld.2.2.2.2.2.2.2 (by simp)⟩ (fun hHeld => ?_)
          clear hK K
          refine norm_ (a' := ?_) ?_ ?_
          rotate_left
          · show Act.put _ (some 14) _ = _
            simp only [Act.put, List.setIfInBounds_toArray, List.set_cons_zero, List.set_cons_succ, i64_w, i32_w, HW1.out, HW2.out]
            rfl
          refine one_ (i := 12) (N := some 13) #[true, true, true, true, true, true, true, true, true, true, true, true, true, true, false, false] rfl rfl (by kernel_rfl) (by decide) (fun K hK => ?_)
          refine value_ (w1 := ?_) (v := ?_) (by rfl) rfl ?_ ?_
          rotate_left 2
          · go_simp
            constructor
            · rfl
            · rfl
          refine hK.out _ _ ⟨(World.grownBy_alloc _ (.cells #[.int .i64 0, .int .i64 0, .int .i64 0, .int .i64 0] 40) none).cell hHeld.1 (by simp), (World.grownBy_alloc _ (.cells #[.int .i64 0, .int .i64 0, .int .i64 0, .int .i64 0] 40) none).cell hHeld.2.1 (by simp), (World.grownBy_alloc _ (.cells #[.int .i64 0, .int .i64 0, .int .i64 0, .int .i64 0] 40) none).cell hHeld.2.2.1 (by simp), (World.grownBy_alloc _ (.cells #[.int .i64 0, .int .i64 0, .int .i64 0, .int .i64 0] 40) none).cell hHeld.2.2.2.1 (by simp), (World.grownBy_alloc _ (.cells #[.int .i64 0, .int .i64 0, .int .i64 0, .int .i64 0] 40) none).cell hHeld.2.2.2.2.1 (by simp), (World.grownBy_alloc _ (.cells #[.int .i64 0, .int .i64 0, .int .i64 0, .int .i64 0] 40) none).cell hHeld.2.2.2.2.2.1 (by simp), (World.grownBy_alloc _ (.cells #[.int .i64 0, .int .i64 0, .int .i64 0, .int .i64 0] 40) none).cell hHeld.2.2.2.2.2.2.1 (by simp), (World.grownBy_alloc _ (.cells #[.int .i64 0, .int .i64 0, .int .i64 0, .int .i64 0] 40) none).cell hHeld.2.2.2.2.2.2.2 (by simp)⟩ (fun hHeld => ?_)
          clear hK K
          refine norm_ (a' := ?_) ?_ ?_
          rotate_left
          · show Act.put _ (some 13) _ = _
            simp only [Act.put, List.setIfInBounds_toArray, List.set_cons_zero, List.set_cons_succ, i64_w, i32_w, HW1.out, HW2.out]
            rfl
          exact norm_ (by simp only [putAll, Act.put, List.setIfInBounds_toArray, List.set_cons_zero, List.set_cons_succ]) (hCont (wr.heap.size + 1, wr.heap.size) _ (two_new' wr (.cells #[.int .i64 0, .int .i64 0, .int .i64 0, .int .i64 0] 40)))
      rintro ⟨p, q⟩ w3 hF
      have HP3 := Aside0.mk hF.b1; have HQ3 := Aside0.mk hF.b2; have HN3 := Aside0.mk hF.ne; have HM3 := Aside0.mk (And.intro hF.n1 hF.n2); have HG3 := Aside0.mk hF.gb; have hHeld : w3.cell? (ad.add (j * 4)) = some (.int .i64 x1) ∧ w3.cell? ⟨(ad.add (j * 4)).block, (ad.add (j * 4)).off + 1, none⟩ = some (.int .i64 x2) ∧ w3.cell? ⟨(ad.add (j * 4)).block, (ad.add (j * 4)).off + 2, none⟩ = some (.int .i64 x3) ∧ w3.cell? ⟨(ad.add (j * 4)).block, (ad.add (j * 4)).off + 3, none⟩ = some (.int .i64 x4) ∧ w3.cell? (ad.add ((n - 1 - j) * 4)) = some (.int .i64 y1) ∧ w3.cell? ⟨(ad.add ((n - 1 - j) * 4)).block, (ad.add ((n - 1 - j) * 4)).off + 1, none⟩ = some (.int .i64 y2) ∧ w3.cell? ⟨(ad.add ((n - 1 - j) * 4)).block, (ad.add ((n - 1 - j) * 4)).off + 2, none⟩ = some (.int .i64 y3) ∧ w3.cell? ⟨(ad.add ((n - 1 - j) * 4)).block, (ad.add ((n - 1 - j) * 4)).off + 3, none⟩ = some (.int .i64 y4) := ⟨HG3.out.cell HK.out.1 (by simp), HG3.out.cell HK.out.2.1 (by simp), HG3.out.cell HK.out.2.2.1 (by simp), HG3.out.cell HK.out.2.2.2.1 (by simp), HG3.out.cell HK.out.2.2.2.2.1 (by simp), HG3.out.cell HK.out.2.2.2.2.2.1 (by simp), HG3.out.cell HK.out.2.2.2.2.2.2.1 (by simp), HG3.out.cell HK.out.2.2.2.2.2.2.2 (by simp)⟩
      clear hF
      have hadp : ∀ k, (ad.add k).block ≠ p := fun k => by rw [H.add_block]; have h1 := HAD.out; have h2 := HM3.out.1; omega
      have hpq : p ≠ q := HN3.out; have hqp : q ≠ p := HN3.out.symm; have hp0 := cell_of (j := 0) HP3.out rfl; have hfp0 := frozen_of (j := 0) HP3.out; have hq0 := cell_of (j := 0) HQ3.out rfl; have hfq0 := frozen_of (j := 0) HQ3.out; have hp1 := cell_of (j := 1) HP3.out rfl; have hfp1 := frozen_of (j := 1) HP3.out; have hq1 := cell_of (j := 1) HQ3.out rfl; have hfq1 := frozen_of (j := 1) HQ3.out; have hp2 := cell_of (j := 2) HP3.out rfl; have hfp2 := frozen_of (j := 2) HP3.out; have hq2 := cell_of (j := 2) HQ3.out rfl; have hfq2 := frozen_of (j := 2) HQ3.out; have hp3 := cell_of (j := 3) HP3.out rfl; have hfp3 := frozen_of (j := 3) HP3.out; have hq3 := cell_of (j := 3) HQ3.out rfl; have hfq3 := frozen_of (j := 3) HQ3.out
      refine norm_ (a' := ?_) ?_ ?_
      rotate_left
      · simp only [putAll, Act.put, List.setIfInBounds_toArray, List.set_cons_zero, List.set_cons_succ]
        rfl
      refine one_ (i := 14) (N := none) #[true, true, true, true, true, true, true, true, true, true, true, true, true, true, true, false] rfl rfl (by kernel_rfl) (by decide) (fun K hK => ?_)
      refine skip_ (w1 := ?_) (by rfl) rfl ?_ ?_
      rotate_left
      · go_simp
        rfl
      refine hK.out _ _ ⟨st4_cell hHeld.1 (hadp _), st4_cell hHeld.2.1 (hadp _), st4_cell hHeld.2.2.1 (hadp _), st4_cell hHeld.2.2.2.1 (hadp _), st4_cell hHeld.2.2.2.2.1 (hadp _), st4_cell hHeld.2.2.2.2.2.1 (hadp _), st4_cell hHeld.2.2.2.2.2.2.1 (hadp _), st4_cell hHeld.2.2.2.2.2.2.2 (hadp _)⟩ (fun hHeld => ?_)
      clear hK K
      refine last_ (i := 15) (N := none) #[true, true, true, true, true, true, true, true, true, true, true, true, true, true, true, true] rfl rfl (by kernel_rfl) (by decide) (fun K hK => ?_)
      refine skip_ (w1 := ?_) (by rfl) rfl ?_ ?_
      rotate_left
      · go_simp
        rfl
      refine hK.out _ _ ?_
      clear hK K
      refine done_ (by kernel_rfl) ?_
      obtain ⟨w7, hw7⟩ : ∃ w7, w7 = ((((((((w3.setCell ⟨p, 0, none⟩ (.int .i64 x1)).setCell ⟨p, 1, none⟩ (.int .i64 x2)).setCell ⟨p, 2, none⟩ (.int .i64 x3)).setCell ⟨p, 3, none⟩ (.int .i64 x4)).setCell ⟨q, 0, none⟩ (.int .i64 y1)).setCell ⟨q, 1, none⟩ (.int .i64 y2)).setCell ⟨q, 2, none⟩ (.int .i64 y3)).setCell ⟨q, 3, none⟩ (.int .i64 y4)) := ⟨_, rfl⟩
      rw [← hw7]
      have HP7 : Aside0 (w7.heap[p]? = some (.cells #[.int .i64 x1, .int .i64 x2, .int .i64 x3, .int .i64 x4] 40 (0, 0))) := ⟨by rw [hw7]; exact blk_tn (st4_blk _ _ _ _ HP3.out) (st4_tn _ _ _ _ _ _) HN3.out⟩
      have HQ7 : Aside0 (w7.heap[q]? = some (.cells #[.int .i64 y1, .int .i64 y2, .int .i64 y3, .int .i64 y4] 40 (0, 0))) := ⟨by rw [hw7]; exact st4_blk _ _ _ _ (blk_tn HQ3.out (st4_tn _ _ _ _ _ _) HN3.out.symm)⟩
      have HT7 : Aside0 (Three w.heap.size w w7 w.heap.size ga gq go Aa Ab Ao Ba wA3.heap.size w4.heap.size ca cb co a0 F (satL ((ls.take j).map (prA a0)).reverse) (satL ((ls.drop (n - j)).map (prA a0))) (oneL ((ls.take j).map (prA a0)).reverse)) := ⟨by
        rw [hw7]
        exact Three.far HS.out (Three.far HS.out (HT.out.gb HG3.out) HT.out (st4_tn _ _ _ _ _ _) (fun k hk => by rw [hk]; exact HM3.out.1)) HT.out (st4_tn _ _ _ _ _ _) (fun k hk => by rw [hk]; exact HM3.out.2)⟩
      have HFa := Aside0.mk HT.out.a.foot
      have HFb := Aside0.mk HT.out.b.foot
      clear hw7 HP3 HQ3 HG3 HT HK hHeld hadp hpq hqp hp0 hp1 hp2 hp3 hq0 hq1 hq2 hq3 hfp0 hfp1 hfp2 hfp3 hfq0 hfq1 hfq2 hfq3
      have HWn : Aside0 (wrap64 (a0 + 1) = a0 + 1) := ⟨wrap64_in (by omega) (by omega)⟩
      have hm1 := among_bd x3 3 (by omega)
      have hm2 := among_bd x4 (a0 + 1) (by omega)
      have hm3 := among_bd y3 3 (by omega)
      have hm4 := among_bd y4 (a0 + 1) (by omega)
      have HK : Aside0 (w7.drew.cell? ⟨p, 2, none⟩ = some (.int .i64 x3) ∧ w7.drew.cell? ⟨p, 3, none⟩ = some (.int .i64 x4) ∧ w7.drew.cell? ⟨w.heap.size, 0, none⟩ = some (.int .i64 a0)) := ⟨cell_of (j := 2) HP7.out rfl, cell_of (j := 3) HP7.out rfl, HT7.out.cfg⟩
      have HTd := Aside0.mk (HT7.out.gb (gb_drew w7 none))
      have HCh := Aside0.mk (Charge_calls w7.drew _ ga Aa 3 ca a0 F _ (amongV x3 3) (amongV x4 (a0 + 1)) HTd.out.a (by omega))
      go_wp2_with fail
      refine start_ (n := 11) (S := fun w' => w'.cell? ⟨p, 2, none⟩ = some (.int .i64 x3) ∧ w'.cell? ⟨p, 3, none⟩ = some (.int .i64 x4) ∧ w'.cell? ⟨w.heap.size, 0, none⟩ = some (.int .i64 a0)) (ds := [10]) #[false, false, false, false, false, false, false, false, false, false, false] (by kernel_rfl) rfl rfl ⟨HK.out.1, HK.out.2.1, HK.out.2.2⟩ (fun hHeld => ?_)
      refine pure_ (i := 0) (N := some 66) (v := ?_) (a' := ?_) #[true, false, false, false, false, false, false, false, false, false, false] rfl rfl (by kernel_rfl) (fun _ _ _ h => h) (Or.inl ⟨by rfl, ?_⟩) ?_ ?_
      rotate_left
      · intro w'
        go_simp
        with_reducible rfl
      rotate_left
      · simp only [Act.put, List.setIfInBounds_toArray, List.set_cons_zero, List.set_cons_succ, i64_w, i32_w, HWn.out]
        rfl
      refine pure_ (i := 1) (N := some 67) (v := ?_) (a' := ?_) #[true, true, false, false, false, false, false, false, false, false, false] rfl rfl (by kernel_rfl) (fun _ _ _ h => h) (Or.inl ⟨by rfl, ?_⟩) ?_ ?_
      rotate_left
      · intro w'
        go_simp
        with_reducible rfl
      rotate_left
      · simp only [Act.put, List.setIfInBounds_toArray, List.set_cons_zero, List.set_cons_succ, i64_w, i32_w, HWn.out]
        rfl
      refine pure_ (i := 4) (N := some 70) (v := ?_) (a' := ?_) #[true, true, false, false, true, false, false, false, false, false, false] rfl rfl (by kernel_rfl) (fun _ _ _ h => h) (Or.inl ⟨by rfl, ?_⟩) ?_ ?_
      rotate_left
      · intro w'
        go_simp
        with_reducible rfl
      rotate_left
      · simp only [Act.put, List.setIfInBounds_toArray, List.set_cons_zero, List.set_cons_succ, i64_w, i32_w, HWn.out]
        rfl
      refine pure_ (i := 6) (N := some 72) (v := ?_) (a' := ?_) #[true, true, false, false, true, false, true, false, false, false, false] rfl rfl (by kernel_rfl) (fun _ _ _ h => h) (Or.inl ⟨by rfl, ?_⟩) ?_ ?_
      rotate_left
      · intro w'
        go_simp
        with_reducible rfl
      rotate_left
      · simp only [Act.put, List.setIfInBounds_toArray, List.set_cons_zero, List.set_cons_succ, i64_w, i32_w, HWn.out]
        rfl
      refine take_ (i := 2) (N := some 68) (v := ?_) (a' := ?_) #[true, true, true, false, true, false, true, false, false, false, false] rfl rfl (by kernel_rfl) (fun _ _ _ h => h) (Or.inl ⟨by rfl, ?_⟩) hHeld ?_ ?_
      rotate_left
      · rintro w' ⟨s0, s1, s2⟩
        go_simp
        with_reducible rfl
      rotate_left
      · simp only [Act.put, List.setIfInBounds_toArray, List.set_cons_zero, List.set_cons_succ, i64_w, i32_w, HWn.out]
        rfl
      refine take_ (i := 5) (N := some 71) (v := ?_) (a' := ?_) #[true, true, true, false, true, true, true, false, false, false, false] rfl rfl (by kernel_rfl) (fun _ _ _ h => h) (Or.inl ⟨by rfl, ?_⟩) hHeld ?_ ?_
      rotate_left
      · rintro w' ⟨s0, s1, s2⟩
        go_simp
        with_reducible rfl
      rotate_left
      · simp only [Act.put, List.setIfInBounds_toArray, List.set_cons_zero, List.set_cons_succ, i64_w, i32_w, HWn.out]
        rfl
      refine take_ (i := 7) (N := some 73) (v := ?_) (a' := ?_) #[true, true, true, false, true, true, true, true, false, false, false] rfl rfl (by kernel_rfl) (fun _ _ _ h => h) (Or.inl ⟨by rfl, ?_⟩) hHeld ?_ ?_
      rotate_left
      · rintro w' ⟨s0, s1, s2⟩
        go_simp
        with_reducible rfl
      rotate_left
      · simp only [Act.put, List.setIfInBounds_toArray, List.set_cons_zero, List.set_cons_succ, i64_w, i32_w, HWn.out]
        rfl
      refine pure_ (i := 8) (N := some 74) (v := ?_) (a' := ?_) #[true, true, true, false, true, true, true, true, true, false, false] rfl rfl (by kernel_rfl) (fun _ _ _ h => h) (Or.inl ⟨by rfl, ?_⟩) ?_ ?_
      rotate_left
      · intro w'
        go_simp
        with_reducible rfl
      rotate_left
      · simp only [Act.put, List.setIfInBounds_toArray, List.set_cons_zero, List.set_cons_succ, i64_w, i32_w, HWn.out]
        rfl
      refine one_ (i := 3) (N := some 69) #[true, true, true, true, true, true, true, true, true, false, false] rfl rfl (by kernel_rfl) (by decide) (fun K hK => ?_)
      refine goes_ Tryd.func12 (by kernel_rfl) rfl #[.int .i64 x3, .int .i64 3] (by rfl) rfl rfl (by simp only [List.map_toArray, List.map_cons, List.map_nil]; try rfl) ?_
      with_reducible refine ((among_calls _ x3 3 (by omega))).mono ?_
      rintro e w41 ⟨rfl, rfl⟩
      refine ⟨_, rfl, ?_⟩
      refine hK.out _ _ ⟨hHeld.1, hHeld.2.1, hHeld.2.2⟩ (fun hHeld => ?_)
      clear hK K
      refine norm_ (a' := ?_) ?_ ?_
      rotate_left
      · show Act.put _ (some 69) _ = _
        simp only [Act.put, List.setIfInBounds_toArray, List.set_cons_zero, List.set_cons_succ, i64_w, i32_w, HWn.out]
        rfl
      refine one_ (i := 9) (N := some 75) #[true, true, true, true, true, true, true, true, true, true, false] rfl rfl (by kernel_rfl) (by decide) (fun K hK => ?_)
      refine goes_ Tryd.func12 (by kernel_rfl) rfl #[.int .i64 x4, .int .i64 (a0 + 1)] (by rfl) rfl rfl (by simp only [List.map_toArray, List.map_cons, List.map_nil]; try rfl) ?_
      with_reducible refine ((among_calls _ x4 (a0 + 1) (by omega))).mono ?_
      rintro e w41 ⟨rfl, rfl⟩
      refine ⟨_, rfl, ?_⟩
      refine hK.out _ _ ⟨hHeld.1, hHeld.2.1, hHeld.2.2⟩ (fun hHeld => ?_)
      clear hK K
      refine norm_ (a' := ?_) ?_ ?_
      rotate_left
      · show Act.put _ (some 75) _ = _
        simp only [Act.put, List.setIfInBounds_toArray, List.set_cons_zero, List.set_cons_succ, i64_w, i32_w, HWn.out]
        rfl
      refine last_ (i := 10) (N := some 76) #[true, true, true, true, true, true, true, true, true, true, true] rfl rfl (by kernel_rfl) (by decide) (fun K hK => ?_)
      refine goes_ Tryd.func22 (by kernel_rfl) rfl #[.pointer (some ⟨ga, 0, none⟩), .int .i64 (amongV x3 3), .int .i64 (amongV x4 (a0 + 1))] (by rfl) rfl rfl (by simp only [List.map_toArray, List.map_cons, List.map_nil]; try rfl) ?_
      with_reducible refine (HCh.out).mono ?_
      rintro e w8 ⟨rfl, hl, ht⟩
      refine ⟨_, rfl, ?_⟩
      have HLw8 := Aside0.mk hl; have HTw8 := Aside0.mk ht; clear hl ht HCh
      refine hK.out _ _ ?_
      clear hK K
      refine norm_ (a' := ?_) ?_ ?_
      rotate_left
      · show Act.put _ (some 76) _ = _
        simp only [Act.put, List.setIfInBounds_toArray, List.set_cons_zero, List.set_cons_succ, i64_w, i32_w, HWn.out]
        rfl
      refine done_ (by kernel_rfl) ?_
      have HT8 := Aside0.mk (Three.sa HS.out HTd.out HLw8.out HTw8.out)
      rw [satL_step hm1.1 hm1.2 hm2.1 (by omega) hn1 (by intro z hz; exact prA_nonneg (by omega) _ z (List.mem_reverse.1 hz)), show ((amongV x3 3, amongV x4 (a0 + 1)) :: ((ls.take j).map (prA a0)).reverse) = ((ls.take (j + 1)).map (prA a0)).reverse from (take_rev (prA a0) HX.out).symm] at HT8
      have hpa : ∀ k, p ≤ k → ¬ Foot ga Aa k := fun k hk hf => by have := (HFa.out k hf).2; have := HM3.out.1; omega
      have hqa : ¬ Foot ga Aa q := fun hf => by have := (HFa.out q hf).2; have := HM3.out.2; omega
      have HP8 := Aside0.mk (blk_tn (blk_kept HP7.out (gb_drew w7 none) (by simp)) HTw8.out (hpa p (Nat.le_refl _)))
      have HQ8 := Aside0.mk (blk_tn (blk_kept HQ7.out (gb_drew w7 none) (by simp)) HTw8.out hqa)
      clear hpa hqa HLw8 HTw8 HTd HT7 HK HP7 HQ7 hHeld
      have HK : Aside0 (w8.drew.cell? ⟨q, 2, none⟩ = some (.int .i64 y3) ∧ w8.drew.cell? ⟨q, 3, none⟩ = some (.int .i64 y4) ∧ w8.drew.cell? ⟨w.heap.size, 0, none⟩ = some (.int .i64 a0)) := ⟨cell_of (j := 2) HQ8.out rfl, cell_of (j := 3) HQ8.out rfl, HT8.out.cfg⟩
      have HTd := Aside0.mk (HT8.out.gb (gb_drew w8 none))
      have HCh := Aside0.mk (Charge_calls w8.drew _ gq Ab 3 cb a0 F _ (amongV y3 3) (amongV y4 (a0 + 1)) HTd.out.b (by omega))
      go_wp2_with fail
      refine start_ (n := 11) (S := fun w' => w'.cell? ⟨q, 2, none⟩ = some (.int .i64 y3) ∧ w'.cell? ⟨q, 3, none⟩ = some (.int .i64 y4) ∧ w'.cell? ⟨w.heap.size, 0, none⟩ = some (.int .i64 a0)) (ds := [10]) #[false, false, false, false, false, false, false, false, false, false, false] (by kernel_rfl) rfl rfl ⟨HK.out.1, HK.out.2.1, HK.out.2.2⟩ (fun hHeld => ?_)
      refine pure_ (i := 0) (N := some 77) (v := ?_) (a' := ?_) #[true, false, false, false, false, false, false, false, false, false, false] rfl rfl (by kernel_rfl) (fun _ _ _ h => h) (Or.inl ⟨by rfl, ?_⟩) ?_ ?_
      rotate_left
      · intro w'
        go_simp
        with_reducible rfl
      rotate_left
      · simp only [Act.put, List.setIfInBounds_toArray, List.set_cons_zero, List.set_cons_succ, i64_w, i32_w, HWn.out]
        rfl
      refine pure_ (i := 1) (N := some 78) (v := ?_) (a' := ?_) #[true, true, false, false, false, false, false, false, false, false, false] rfl rfl (by kernel_rfl) (fun _ _ _ h => h) (Or.inl ⟨by rfl, ?_⟩) ?_ ?_
      rotate_left
      · intro w'
        go_simp
        with_reducible rfl
      rotate_left
      · simp only [Act.put, List.setIfInBounds_toArray, List.set_cons_zero, List.set_cons_succ, i64_w, i32_w, HWn.out]
        rfl
      refine pure_ (i := 4) (N := some 81) (v := ?_) (a' := ?_) #[true, true, false, false, true, false, false, false, false, false, false] rfl rfl (by kernel_rfl) (fun _ _ _ h => h) (Or.inl ⟨by rfl, ?_⟩) ?_ ?_
      rotate_left
      · intro w'
        go_simp
        with_reducible rfl
      rotate_left
      · simp only [Act.put, List.setIfInBounds_toArray, List.set_cons_zero, List.set_cons_succ, i64_w, i32_w, HWn.out]
        rfl
      refine pure_ (i := 6) (N := some 83) (v := ?_) (a' := ?_) #[true, true, false, false, true, false, true, false, false, false, false] rfl rfl (by kernel_rfl) (fun _ _ _ h => h) (Or.inl ⟨by rfl, ?_⟩) ?_ ?_
      rotate_left
      · intro w'
        go_simp
        with_reducible rfl
      rotate_left
      · simp only [Act.put, List.setIfInBounds_toArray, List.set_cons_zero, List.set_cons_succ, i64_w, i32_w, HWn.out]
        rfl
      refine take_ (i := 2) (N := some 79) (v := ?_) (a' := ?_) #[true, true, true, false, true, false, true, false, false, false, false] rfl rfl (by kernel_rfl) (fun _ _ _ h => h) (Or.inl ⟨by rfl, ?_⟩) hHeld ?_ ?_
      rotate_left
      · rintro w' ⟨s0, s1, s2⟩
        go_simp
        with_reducible rfl
      rotate_left
      · simp only [Act.put, List.setIfInBounds_toArray, List.set_cons_zero, List.set_cons_succ, i64_w, i32_w, HWn.out]
        rfl
      refine take_ (i := 5) (N := some 82) (v := ?_) (a' := ?_) #[true, true, true, false, true, true, true, false, false, false, false] rfl rfl (by kernel_rfl) (fun _ _ _ h => h) (Or.inl ⟨by rfl, ?_⟩) hHeld ?_ ?_
      rotate_left
      · rintro w' ⟨s0, s1, s2⟩
        go_simp
        with_reducible rfl
      rotate_left
      · simp only [Act.put, List.setIfInBounds_toArray, List.set_cons_zero, List.set_cons_succ, i64_w, i32_w, HWn.out]
        rfl
      refine take_ (i := 7) (N := some 84) (v := ?_) (a' := ?_) #[true, true, true, false, true, true, true, true, false, false, false] rfl rfl (by kernel_rfl) (fun _ _ _ h => h) (Or.inl ⟨by rfl, ?_⟩) hHeld ?_ ?_
      rotate_left
      · rintro w' ⟨s0, s1, s2⟩
        go_simp
        with_reducible rfl
      rotate_left
      · simp only [Act.put, List.setIfInBounds_toArray, List.set_cons_zero, List.set_cons_succ, i64_w, i32_w, HWn.out]
        rfl
      refine pure_ (i := 8) (N := some 85) (v := ?_) (a' := ?_) #[true, true, true, false, true, true, true, true, true, false, false] rfl rfl (by kernel_rfl) (fun _ _ _ h => h) (Or.inl ⟨by rfl, ?_⟩) ?_ ?_
      rotate_left
      · intro w'
        go_simp
        with_reducible rfl
      rotate_left
      · simp only [Act.put, List.setIfInBounds_toArray, List.set_cons_zero, List.set_cons_succ, i64_w, i32_w, HWn.out]
        rfl
      refine one_ (i := 3) (N := some 80) #[true, true, true, true, true, true, true, true, true, false, false] rfl rfl (by kernel_rfl) (by decide) (fun K hK => ?_)
      refine goes_ Tryd.func12 (by kernel_rfl) rfl #[.int .i64 y3, .int .i64 3] (by rfl) rfl rfl (by simp only [List.map_toArray, List.map_cons, List.map_nil]; try rfl) ?_
      with_reducible refine ((among_calls _ y3 3 (by omega))).mono ?_
      rintro e w41 ⟨rfl, rfl⟩
      refine ⟨_, rfl, ?_⟩
      refine hK.out _ _ ⟨hHeld.1, hHeld.2.1, hHeld.2.2⟩ (fun hHeld => ?_)
      clear hK K
      refine norm_ (a' := ?_) ?_ ?_
      rotate_left
      · show Act.put _ (some 80) _ = _
        simp only [Act.put, List.setIfInBounds_toArray, List.set_cons_zero, List.set_cons_succ, i64_w, i32_w, HWn.out]
        rfl
      refine one_ (i := 9) (N := some 86) #[true, true, true, true, true, true, true, true, true, true, false] rfl rfl (by kernel_rfl) (by decide) (fun K hK => ?_)
      refine goes_ Tryd.func12 (by kernel_rfl) rfl #[.int .i64 y4, .int .i64 (a0 + 1)] (by rfl) rfl rfl (by simp only [List.map_toArray, List.map_cons, List.map_nil]; try rfl) ?_
      with_reducible refine ((among_calls _ y4 (a0 + 1) (by omega))).mono ?_
      rintro e w41 ⟨rfl, rfl⟩
      refine ⟨_, rfl, ?_⟩
      refine hK.out _ _ ⟨hHeld.1, hHeld.2.1, hHeld.2.2⟩ (fun hHeld => ?_)
      clear hK K
      refine norm_ (a' := ?_) ?_ ?_
      rotate_left
      · show Act.put _ (some 86) _ = _
        simp only [Act.put, List.setIfInBounds_toArray, List.set_cons_zero, List.set_cons_succ, i64_w, i32_w, HWn.out]
        rfl
      refine last_ (i := 10) (N := some 87) #[true, true, true, true, true, true, true, true, true, true, true] rfl rfl (by kernel_rfl) (by decide) (fun K hK => ?_)
      refine goes_ Tryd.func22 (by kernel_rfl) rfl #[.pointer (some ⟨gq, 0, none⟩), .int .i64 (amongV y3 3), .int .i64 (amongV y4 (a0 + 1))] (by rfl) rfl rfl (by simp only [List.map_toArray, List.map_cons, List.map_nil]; try rfl) ?_
      with_reducible refine (HCh.out).mono ?_
      rintro e w9 ⟨rfl, hl, ht⟩
      refine ⟨_, rfl, ?_⟩
      have HLw9 := Aside0.mk hl; have HTw9 := Aside0.mk ht; clear hl ht HCh
      refine hK.out _ _ ?_
      clear hK K
      refine norm_ (a' := ?_) ?_ ?_
      rotate_left
      · show Act.put _ (some 87) _ = _
        simp only [Act.put, List.setIfInBounds_toArray, List.set_cons_zero, List.set_cons_succ, i64_w, i32_w, HWn.out]
        rfl
      refine done_ (by kernel_rfl) ?_
      have HT9 := Aside0.mk (Three.sb HS.out HTd.out HLw9.out HTw9.out)
      rw [satL_step hm3.1 hm3.2 hm4.1 (by omega) hn1 (prA_nonneg (by omega) _), show ((amongV y3 3, amongV y4 (a0 + 1)) :: (ls.drop (n - j)).map (prA a0)) = (ls.drop (n - (j + 1))).map (prA a0) from (drop_map (prA a0) hlt HY.out).symm] at HT9
      have hpb : ¬ Foot gq Ab p := fun hf => by have := (HFb.out p hf).2; have := HM3.out.1; omega
      have HP9 := Aside0.mk (blk_tn (blk_kept HP8.out (gb_drew w8 none) (by simp)) HTw9.out hpb)
      clear hpb HLw9 HTw9 HTd HT8 HK HP8 HQ8 hHeld
      have k2 : w9.cell? ⟨p, 2, none⟩ = some (.int .i64 x3) := cell_of HP9.out rfl
      have k3 : w9.cell? ⟨p, 3, none⟩ = some (.int .i64 x4) := cell_of HP9.out rfl
      have kc : w9.cell? ⟨w.heap.size, 0, none⟩ = some (.int .i64 a0) := HT9.out.cfg
      by_cases h1 : amongV x3 3 = 1
      · have hb2 : (amongV x3 3 == 1) = true := by simp [h1]
        have H1 := Aside0.mk h1
        clear h1
        go_wp2_with fail
        refine (among_calls w9 x3 3 (by omega)).mono ?_
        rintro e w10 ⟨rfl, rfl⟩
        go_wp2_with fail
        refine (among_calls w9 x4 (a0 + 1) (by omega)).mono ?_
        rintro e w10 ⟨rfl, rfl⟩
        go_wp2_with fail
        refine (Charge_calls w9 _ go Ao 3 co a0 F _ 1 (amongV x4 (a0 + 1)) HT9.out.o (by omega)).mono ?_
        rintro e w10 ⟨rfl, hl, ht⟩
        have HT10 := Aside0.mk (Three.so HS.out HT9.out hl ht)
        rw [oneL_step hm2.1 (by omega) hn1 (by intro z hz; exact prA_nonneg (by omega) _ z (List.mem_reverse.1 hz)), show (((1 : Int), amongV x4 (a0 + 1)) :: ((ls.take j).map (prA a0)).reverse) = ((ls.take (j + 1)).map (prA a0)).reverse from by rw [take_rev (prA a0) HX.out, show prA a0 (x1, x2, x3, x4) = (amongV x3 3, amongV x4 (a0 + 1)) from rfl, H1.out]] at HT10
        clear hl ht HT9
        go_wp2_with fail
        go_roundg k
        case measure => omega
        case rel => exact ⟨j + 1, by go_num, ⟨by have := HD.out; omega⟩, by omega, HT10⟩
      · have hb2 : (amongV x3 3 == 1) = false := by simpa using h1
        have HT10 := HT9
        rw [← oneL_other (m := amongV x4 (a0 + 1)) h1, show ((amongV x3 3, amongV x4 (a0 + 1)) :: ((ls.take j).map (prA a0)).reverse) = ((ls.take (j + 1)).map (prA a0)).reverse from (take_rev (prA a0) HX.out).symm] at HT10
        clear h1 HT9
        go_wp2_with fail
        refine (among_calls w9 x3 3 (by omega)).mono ?_
        rintro e w10 ⟨rfl, rfl⟩
        go_wp2_with fail
        go_roundg k
        case measure => omega
        case rel => exact ⟨j + 1, by go_num, ⟨by have := HD.out; omega⟩, by omega, HT10⟩
end Go.Proofs.YtgjjfnjnjnbfgaaDoor.L
