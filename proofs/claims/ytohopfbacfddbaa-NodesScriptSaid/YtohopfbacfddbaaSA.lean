/- The document's set of nodes: what each call answers and leaves. Conditions: each theorem's own. -/
import Derived.Test.YtohopfbacfddbaaNF
import Derived.Test.YtohopfbacfddbaaWLast
import Derived.Test.YtohopfbacfddbaaTN
namespace Go.Proofs.Ytohopfbacfddbaa.S
open Go.RowKit Go.Proofs.YtohopfbacfddbaaW.PrintWords Go.Proofs.Ytohopfbacfddbaa.H
open Go.Proofs.Ytohopfbacfddbaa.N hiding gb_setCell gb_drewN gb_drew gb_refl gb_any gb_of_below below_of_gb below_gb own_open ne_of_ge cut_at
set_option linter.unusedVariables false
set_option linter.unusedSimpArgs false
theorem gb_row {w w1 w2 : World} {v : Value} (h : w.grownBy w1 none) (hg : w1.grownBy w2 v.ownBlock) (hb : ∀ k, v.ownBlock = some k → w.heap.size ≤ k) : w.grownBy w2 none := by
  cases hv : v.ownBlock with
  | none => rw [hv] at hg; exact World.grownBy.trans h hg
  | some k => rw [hv] at hg; exact gb_new h hg (hb k hv)
def Eb : Enc Bool := ⟨1, fun b => [.bool b], fun _ => rfl, fun _ v hv => by simp at hv; subst hv; rfl, by decide⟩
theorem ints_rd {w : World} {k : IntKind} {A : Option Addr} {n : Nat} {xs : List Int} (h : Rd (Ei k) w A n xs) : ReadsInt w k A n xs :=
  ⟨h.1, h.2.1, fun hn => by
    obtain ⟨ad, e, _⟩ := h.2.2 hn
    refine ⟨ad, e, fun i hi => ?_⟩
    obtain ⟨ad', e', hc⟩ := h.int i hi
    obtain rfl : ad' = ad := Option.some.inj (e'.symm.trans e)
    rw [hc]
    simp [rd]⟩
def bsOf (n : Nat) (t : Nat → Nat) : List Bool := (List.range n).map (bitT t)
theorem bs_len (n : Nat) (t : Nat → Nat) : (bsOf n t).length = n := by simp [bsOf]
theorem bs_at {n : Nat} (t : Nat → Nat) {i : Nat} (h : i < n) : (bsOf n t)[i]? = some (bitT t i) := by simp [bsOf, h]
theorem bs_flip (n : Nat) (t : Nat → Nat) (i : Nat) : bsOf n (flip t i) = (bsOf n t).set i (!bitT t i) := by
  apply List.ext_getElem?
  intro k
  rw [List.getElem?_set]
  by_cases hk : k < n
  · rw [bs_at _ hk, bs_at _ hk, bit_flip]
    by_cases e : i = k
    · subst e; simp [bs_len, hk]
    · simp [e]
  · have h1 : ∀ u, (bsOf n u)[k]? = none := fun u => List.getElem?_eq_none (by rw [bs_len]; omega)
    rw [h1, h1]
    by_cases e : i = k
    · subst e; simp [bs_len, hk]
    · simp [e]
/-- A set of the document at block g, its row at block ab. -/
structure RefAt (w : World) (B g ab n c : Nat) (t : Nat → Nat) : Prop where
  blk : w.heap[g]? = some (.cells #[.slice (some ⟨ab, 0, none⟩) n c] 60 (0, 0))
  own : w.ownsRow B 4 Eb.sz (.slice (some ⟨ab, 0, none⟩) n c) n (flat Eb (bsOf n t))
  ne : ab ≠ g
  base : B ≤ g
  le : n ≤ 256
section
variable {w w' : World} {B g ab n c : Nat} {t : Nat → Nat}
theorem RefAt.tn {F : Nat → Prop} (h : RefAt w B g ab n c t) (hg : Tn w w' F) (h1 : ¬ F g) (h2 : ¬ F ab) : RefAt w' B g ab n c t :=
  ⟨blk_tn h.blk hg h1, own_tn h.own hg (fun i hk => by simp [Value.ownBlock] at hk; subst hk; exact h2), h.ne, h.base, h.le⟩
theorem RefAt.gb (h : RefAt w B g ab n c t) (hg : w.grownBy w' none) : RefAt w' B g ab n c t := h.tn (Tn.gb0 hg (fun _ => False)) id id
theorem RefAt.rd (h : RefAt w B g ab n c t) : Rd Eb w (some ⟨ab, 0, none⟩) n (bsOf n t) := own_rd (bs_len n t) h.own
theorem RefAt.lt (h : RefAt w B g ab n c t) : g < w.heap.size := blk_lt' h.blk
theorem RefAt.abl (h : RefAt w B g ab n c t) : B ≤ ab ∧ ab < w.heap.size := h.own.lt ab rfl
theorem RefAt.c0 (h : RefAt w B g ab n c t) : w.cell? ⟨g, 0, none⟩ = some (.slice (some ⟨ab, 0, none⟩) n c) := cell_of h.blk rfl
theorem RefAt.cell (h : RefAt w B g ab n c t) (i : Nat) (hi : i < n) : w.cell? ⟨ab, i, none⟩ = some (.bool (bitT t i)) := by
  have := own_cell h.own i 0 _ (bs_at t hi) (by decide) _ rfl
  simpa [Eb] using this
theorem RefAt.cap (h : RefAt w B g ab n c t) : n ≤ c := (own_form h.own).1
theorem RefAt.put (h : RefAt w B g ab n c t) (i : Nat) (hi : i < n) (b : Bool) (hb : b = !bitT t i) : RefAt (w.setCell ⟨ab, i, none⟩ (.bool b)) B g ab n c (flip t i) := by
  refine ⟨blk_tn h.blk (Tn.set ab i _ (F := fun k => k = ab) rfl) (fun e => h.ne e.symm), ?_, h.ne, h.base, h.le⟩
  have := own_put h.own i 0 _ b (.bool b) (bs_at t hi) (by decide) rfl
  rw [bs_flip, ← hb]
  simpa [Eb] using this
end
set_option maxHeartbeats 8000000 in
set_option maxRecDepth 100000 in
theorem rNew_bad (w : World) (n : Int) (h : n < 1 ∨ 256 < n) :
    Calls Try.prog 15 #[.int .i64 n] w fun e w' => e = .returned (.tuple #[.pointer none, .int .i64 20]) ∧ w = w' := by
  rcases h with h | h
  · have h1 : decide (n < 1) = true := decide_eq_true h
    clear h
    go_enter Try.func15, Try.ntmps15
    go_wp2
    go_ret2
    exact ⟨rfl, rfl⟩
  · have h1 : decide (n < 1) = false := decide_eq_false (by omega)
    have h2 : decide (256 < n) = true := decide_eq_true h
    clear h
    go_enter Try.func15, Try.ntmps15
    go_wp2
    go_ret2
    exact ⟨rfl, rfl⟩
/-- A new set is answered, its bits those of t. -/
def rNewI (w : World) (n : Nat) (t : Nat → Nat) (e : Ending) (w' : World) : Prop :=
  ∃ g ab c, e = .returned (.tuple #[.pointer (some ⟨g, 0, none⟩), .int .i64 0]) ∧ RefAt w' w.heap.size g ab n c t ∧ w.grownBy w' none
theorem bs_zero (n : Nat) : bsOf n (fun _ => 0) = List.replicate n false := by
  apply List.ext_getElem?
  intro k
  by_cases h : k < n
  · rw [bs_at _ h, List.getElem?_replicate, if_pos h]; simp [bitT]
  · rw [List.getElem?_eq_none (by rw [bs_len]; omega), List.getElem?_eq_none (by simp; omega)]
theorem own_some {α : Type} {E : Enc α} {w : World} {base n c : Nat} {e : TypeId} {A : Option Addr} {xs : List α} (hl : xs.length = n) (h : w.ownsRow base e E.sz (.slice A n c) n (flat E xs)) (h0 : 0 < n) : ∃ g, A = some ⟨g, 0, none⟩ := by
  obtain ⟨ad, rfl, _⟩ := (own_rd hl h).2.2 h0
  exact ⟨ad.block, by rw [← (own_form h).2 ad rfl]⟩
set_option maxHeartbeats 8000000 in
set_option maxRecDepth 100000 in
theorem rNew_ok (w : World) (n : Nat) (h0 : 1 ≤ n) (h1 : n ≤ 256) : Calls Try.prog 15 #[.int .i64 n] w (rNewI w n (fun _ => 0)) := by
  have h2 : decide ((n : Int) < 1) = false := decide_eq_false (by omega)
  have h3 : decide (256 < (n : Int)) = false := decide_eq_false (by omega)
  have HB0 := Aside0.mk (heap_alloc_new w (.cells #[.slice none 0 0] 60))
  have HG0 := Aside0.mk (World.grownBy_alloc w (.cells #[.slice none 0 0] 60) none)
  have HO0 := Aside0.mk (show (w.alloc (.cells #[.slice none 0 0] 60)).ownsRow (w.heap.size + 1) 4 Eb.sz (.slice none 0 0) 0 (flat Eb []) from own_nil _ _ _ _)
  go_enter Try.func15, Try.ntmps15
  go_wp2_with fail
  go_loopg [5] n (fun k v5 wr => ∃ (j : Nat) (A : Option Addr) (c : Nat), v5 = .int .i64 j ∧ Aside0 (j + k = n) ∧ j ≤ n ∧ Aside0 (wr.heap[w.heap.size]? = some (.cells #[.slice A j c] 60 (0, 0))) ∧ Aside0 (wr.ownsRow (w.heap.size + 1) 4 Eb.sz (.slice A j c) j (flat Eb (List.replicate j false))) ∧ Aside0 (w.grownBy wr none))
  case atStart => exact ⟨0, none, 0, rfl, ⟨by omega⟩, by omega, HB0, HO0, HG0⟩
  case round =>
    obtain ⟨j, A, c, rfl, HD, hj, HB, HO, HG⟩ := hrel
    have hc0 := cell_of (j := 0) (v := .slice A j c) HB.out rfl
    cases gk with
    | zero =>
      obtain rfl : j = n := by have := HD.out; omega
      go_wp2
      go_ret2
      obtain ⟨ab, rfl⟩ := own_some (List.length_replicate ..) HO.out (by omega)
      refine ⟨_, ab, c, rfl, ⟨HB.out, ?_, ?_, Nat.le_refl _, h1⟩, HG.out⟩
      · rw [bs_zero]; exact own_mono HO.out (by omega)
      · have := (HO.out.lt ab rfl).1; omega
    | succ d =>
      have hlt : j < n := by have := HD.out; omega
      have hlt1 : decide ((j : Int) < n) = true := decide_eq_true (by omega)
      have hws : w.heap.size < wr.heap.size := blk_lt' HB.out
      have HK1 := Aside0.mk (show (wr.alloc (.cells #[.bool false] 4)).heap[w.heap.size]? = some (.cells #[.slice A j c] 60 (0, 0)) from blk_kept HB.out (World.grownBy_alloc wr _ none) (by simp))
      have HO1 := Aside0.mk (own_kept HO.out (World.grownBy_alloc wr (.cells #[.bool false] 4) none) (by simp))
      have HR1 := Aside0.mk (show Rd Eb (wr.alloc (.cells #[.bool false] 4)) (some ⟨wr.heap.size, 0, none⟩) 1 [false] from rd_lit Eb wr 4 [false] (by simp))
      have HS1 : Aside0 (w.heap.size + 1 ≤ (wr.alloc (.cells #[.bool false] 4)).heap.size) := ⟨by simp; omega⟩
      have HLn := Aside0.mk (show (List.replicate j false ++ [false]).length = j + 1 by simp)
      go_wp2_with (at_builtin; refine app_at Eb (w.heap.size + 1) rfl (.tmp 23) (.tmp 24) 58 4 (.bool false) 1 rfl Try.underlying58 (by kernel_rfl) rfl (by decide) (.slice A j c) j _ [false] ⟨wr.heap.size, 0, none⟩ 1 1 rfl rfl HO1.out HR1.out HS1.out (by omega) ?_; intro v3 w3 ho hg hat; obtain ⟨A3, c3, rfl, -, -, ha⟩ := own_open HLn.out ho; have HO3 := Aside0.mk ho; have HG3 := Aside0.mk hg; have HA3 := Aside0.mk ha; have HK3 := Aside0.mk (blk_kept HK1.out hg (by have := fun k => (HO1.out.lt k); intro e; have := (this _ e.symm).1; omega)); have hk3 := cell_of (j := 0) (v := .slice A j c) HK3.out rfl; have hf3 := frozen_of (j := 0) HK3.out; clear ho hg hat ha)
      go_roundg d
      case measure => omega
      case rel =>
        refine ⟨j + 1, A3, c3, by go_num, ⟨by have := HD.out; omega⟩, by omega, ⟨?_⟩, ⟨?_⟩, ⟨?_⟩⟩
        · have := blk_set 0 (.slice A3 (j + 1) c3) HK3.out
          simpa using this
        · rw [List.replicate_succ']
          exact own_tn HO3.out (Tn.set w.heap.size 0 _ (F := fun k => k = w.heap.size) rfl) (fun k hk he => by have := (HO3.out.lt k hk).1; omega)
        · exact gb_new (gb_row (World.grownBy.trans HG.out (World.grownBy_alloc wr _ none)) HG3.out (fun k hk => by have := (HO1.out.lt k hk).1; omega)) (gb_setCell w3 w.heap.size 0 _) (Nat.le_refl _)
end Go.Proofs.Ytohopfbacfddbaa.S
