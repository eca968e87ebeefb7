/- Sorting by halves: the same values; by keys they rise, alike ones stand as they stood. Plain. Conditions: each theorem's own. -/
import Derived.Test.YtodibpddlibneaaPSI
namespace Go.Proofs.Ytodibpddlibneaa.S
open Go.RowKit Go.Proofs.YtodibpddlibneaaW.PrintWords Go.Proofs.Ytodibpddlibneaa.H

theorem mergeL_perm {α : Type} (lt : α → α → Bool) : ∀ (k : Nat) (xs ys : List α), xs.length + ys.length = k → (mergeL lt xs ys).Perm (xs ++ ys)
  | _, [], ys, _ => by simp [mergeL]
  | _, x :: xs, [], _ => by simp [mergeL]
  | 0, x :: xs, y :: ys, h => by simp at h
  | k + 1, x :: xs, y :: ys, h => by
    simp only [List.length_cons] at h
    rw [mergeL]
    split
    · refine (List.Perm.cons y (mergeL_perm lt k (x :: xs) ys (by simp only [List.length_cons]; omega))).trans ?_
      exact (List.perm_middle (a := y) (l₁ := x :: xs) (l₂ := ys)).symm
    · exact List.Perm.cons x (mergeL_perm lt k xs (y :: ys) (by simp only [List.length_cons]; omega))
theorem sortL_perm {α : Type} (lt : α → α → Bool) : ∀ (k : Nat) (l : List α), l.length ≤ k → (sortL lt l).Perm l
  | 0, l, h => by rw [sortL, dif_pos (by omega)]
  | k + 1, l, h => by
    rw [sortL]
    split
    · exact List.Perm.refl _
    · refine (mergeL_perm lt _ _ _ rfl).trans ?_
      refine (List.Perm.append (sortL_perm lt k _ (by rw [List.length_take]; omega)) (sortL_perm lt k _ (by rw [List.length_drop]; omega))).trans ?_
      rw [List.take_append_drop]
/-- By key, then by number. -/
def Rk (p q : Int × Int) : Prop := p.1 < q.1 ∨ (p.1 = q.1 ∧ p.2 < q.2)
def ltK (p q : Int × Int) : Bool := decide (p.1 < q.1)
theorem merge_rises : ∀ (k : Nat) (xs ys : List (Int × Int)), xs.length + ys.length = k → xs.Pairwise Rk → ys.Pairwise Rk → (∀ x ∈ xs, ∀ y ∈ ys, x.2 < y.2) → (mergeL ltK xs ys).Pairwise Rk
  | _, [], ys, _, _, hy, _ => by simpa [mergeL] using hy
  | _, x :: xs, [], _, hx, _, _ => by simpa [mergeL] using hx
  | 0, x :: xs, y :: ys, h, _, _, _ => by simp at h
  | k + 1, x :: xs, y :: ys, h, hx, hy, hn => by
    simp only [List.length_cons] at h
    obtain ⟨x1, x2⟩ := List.pairwise_cons.1 hx
    obtain ⟨y1, y2⟩ := List.pairwise_cons.1 hy
    rw [mergeL]
    by_cases c : ltK y x = true
    · rw [if_pos c]
      have c' : y.1 < x.1 := by simpa [ltK] using c
      refine List.pairwise_cons.2 ⟨fun z hz => ?_, merge_rises k (x :: xs) ys (by simp only [List.length_cons]; omega) hx y2 (fun a ha b hb => hn a ha b (List.mem_cons_of_mem _ hb))⟩
      have hz' := (mergeL_perm ltK _ (x :: xs) ys rfl).mem_iff.1 hz
      rcases List.mem_append.1 hz' with hz' | hz'
      · rcases List.mem_cons.1 hz' with rfl | hz'
        · exact .inl c'
        · rcases x1 z hz' with h1 | ⟨h1, _⟩
          · exact .inl (by omega)
          · exact .inl (by omega)
      · exact y1 z hz'
    · rw [if_neg c]
      have c' : x.1 ≤ y.1 := by simpa [ltK] using c
      refine List.pairwise_cons.2 ⟨fun z hz => ?_, merge_rises k xs (y :: ys) (by simp only [List.length_cons]; omega) x2 hy (fun a ha b hb => hn a (List.mem_cons_of_mem _ ha) b hb)⟩
      have hz' := (mergeL_perm ltK _ xs (y :: ys) rfl).mem_iff.1 hz
      rcases List.mem_append.1 hz' with hz' | hz'
      · exact x1 z hz'
      · have hnum := hn x (by simp) z hz'
        rcases List.mem_cons.1 hz' with rfl | hz'
        · by_cases e : x.1 = z.1
          · exact .inr ⟨e, hnum⟩
          · exact .inl (by omega)
        · rcases y1 z hz' with h1 | ⟨h1, _⟩
          · exact .inl (by omega)
          · by_cases e : x.1 = z.1
            · exact .inr ⟨e, hnum⟩
            · exact .inl (by omega)
theorem sort_rises : ∀ (k : Nat) (l : List (Int × Int)), l.length ≤ k → l.Pairwise (fun p q => p.2 < q.2) → (sortL ltK l).Pairwise Rk
  | 0, l, h, _ => by
    obtain rfl : l = [] := List.eq_nil_of_length_eq_zero (by omega)
    rw [sortL, dif_pos (by decide)]; simp
  | k + 1, l, h, hp => by
    rw [sortL]
    split
    · rename_i h2
      match l, h2 with
      | [], _ => simp
      | [a], _ => simp
    · have hs := List.take_append_drop (l.length / 2) l
      have ht := hp.sublist (List.take_sublist (l.length / 2) l)
      have hd := hp.sublist (List.drop_sublist (l.length / 2) l)
      refine merge_rises _ _ _ rfl (sort_rises k _ (by rw [List.length_take]; omega) ht) (sort_rises k _ (by rw [List.length_drop]; omega) hd) (fun x hx y hy => ?_)
      have hx' := (sortL_perm ltK _ _ (Nat.le_refl _)).mem_iff.1 hx
      have hy' := (sortL_perm ltK _ _ (Nat.le_refl _)).mem_iff.1 hy
      rw [← hs] at hp
      exact (List.pairwise_append.1 hp).2.2 x hx' y hy'
/-- What is handed in: the keys, each with its place. -/
def inL (ls : List (Int × Int)) : List (Int × Int) := ls.mapIdx (fun i x => (x.1, (i : Int)))
theorem inL_len (ls : List (Int × Int)) : (inL ls).length = ls.length := by simp [inL]
theorem inL_at (ls : List (Int × Int)) (i : Nat) : (inL ls)[i]? = (ls[i]?).map (fun x => (x.1, (i : Int))) := by simp [inL]
theorem inL_nums (ls : List (Int × Int)) : (inL ls).Pairwise (fun p q => p.2 < q.2) := by
  rw [List.pairwise_iff_getElem]
  intro i j hi hj hij
  simp only [inL, List.getElem_mapIdx]
  omega
theorem inL_mem {ls : List (Int × Int)} {p : Int × Int} (h : p ∈ inL ls) : 0 ≤ p.2 ∧ p.2 < (ls.length : Int) ∧ ∃ x, ls[p.2.toNat]? = some x ∧ x.1 = p.1 := by
  obtain ⟨i, hi⟩ := List.getElem?_of_mem h
  rw [inL_at] at hi
  obtain ⟨x, hx, rfl⟩ := Option.map_eq_some_iff.1 hi
  have hl : i < ls.length := (List.getElem?_eq_some_iff.1 hx).1
  exact ⟨by omega, by simp only; omega, x, by simpa using hx, rfl⟩
/-- A list has just the values of another one, each once. -/
structure AllOk (xs ls : List (Int × Int)) : Prop where
  len : xs.length = ls.length
  nd : (xs.map Prod.snd).Nodup
  at_ : ∀ p ∈ xs, 0 ≤ p.2 ∧ p.2 < (ls.length : Int) ∧ ∃ x, ls[p.2.toNat]? = some x ∧ x.1 = p.1
theorem all_sort (lt : Int × Int → Int × Int → Bool) (ls : List (Int × Int)) : AllOk (sortL lt (inL ls)) ls := by
  have hp := sortL_perm lt _ (inL ls) (Nat.le_refl _)
  refine ⟨by rw [hp.length_eq, inL_len], ?_, fun p h => inL_mem (hp.mem_iff.1 h)⟩
  refine (hp.map Prod.snd).nodup_iff.2 ?_
  have := inL_nums ls
  rw [List.nodup_iff_pairwise_ne, List.pairwise_map]
  exact this.imp (fun h => by omega)
end Go.Proofs.Ytodibpddlibneaa.S
