/- PrioSorts' look at what was sorted: it says yes of a list that has just the values. Conditions: each theorem's own. -/
import Derived.Test.YtodibpddlibneaaPSC
namespace Go.Proofs.Ytodibpddlibneaa.S
open Go.RowKit Go.Proofs.YtodibpddlibneaaW.PrintWords Go.Proofs.YtodibpddlibneaaW.PrintLast Go.Proofs.Ytodibpddlibneaa.H
set_option linter.unusedVariables false
set_option linter.unusedSimpArgs false

/-- Which numbers were seen among the first j. -/
def seenA (n : Nat) (xs : List (Int × Int)) (j : Nat) : Array Value := ((List.range n).map (fun i : Nat => Value.bool (decide ((i : Int) ∈ (xs.take j).map Prod.snd)))).toArray
theorem add_one (a : Addr) : a.add 1 = ⟨a.block, a.off + 1, none⟩ := rfl
theorem num_cell {w : World} {ad : Addr} {k : Nat} {v : Value} (h : w.cell? (ad.add (k + 1)) = some v) : w.cell? ⟨(ad.add k).block, (ad.add k).off + 1, none⟩ = some v := by
  rw [← add_one, H.add_add]; exact h
theorem seen_at {n : Nat} {xs : List (Int × Int)} {j i : Nat} (hi : i < n) : (seenA n xs j)[i]? = some (.bool (decide ((i : Int) ∈ (xs.take j).map Prod.snd))) := by
  simp [seenA, hi]
theorem seen_zero (n : Nat) (xs : List (Int × Int)) : madeCells #[Value.bool false] n = seenA n xs 0 := by
  apply Array.ext
  · simp [seenA, madeCells]
  · intro i h1 h2
    simp [seenA, madeCells, Nat.mod_one]
theorem seen_size (n : Nat) (xs : List (Int × Int)) (j : Nat) : (seenA n xs j).size = n := by simp [seenA]
theorem seen_set {n : Nat} {xs : List (Int × Int)} {j i : Nat} {x : Int × Int} (hx : xs[j]? = some x) (hi : x.2 = (i : Int)) : (seenA n xs j).setIfInBounds i (.bool true) = seenA n xs (j + 1) := by
  have hj : j < xs.length := (List.getElem?_eq_some_iff.1 hx).1
  have hxe : xs[j] = x := (List.getElem?_eq_some_iff.1 hx).2
  have hm : ∀ k : Nat, (k : Int) ∈ (xs.take (j + 1)).map Prod.snd ↔ ((k : Int) ∈ (xs.take j).map Prod.snd ∨ k = i) := fun k => by
    rw [List.take_succ_eq_append_getElem hj, hxe, List.map_append, List.mem_append]
    simp only [List.map_cons, List.map_nil, List.mem_singleton, hi]
    constructor
    · rintro (h | h)
      · exact .inl h
      · exact .inr (by omega)
    · rintro (h | h)
      · exact .inl h
      · exact .inr (by omega)
  apply Array.ext_getElem?
  intro k
  by_cases hk : k < n
  · rw [seen_at hk, Array.getElem?_setIfInBounds, seen_size]
    by_cases e : i = k
    · subst e
      rw [if_pos rfl, if_pos hk, decide_eq_true ((hm i).2 (.inr rfl))]
    · rw [if_neg e, seen_at hk]
      congr 2
      rw [decide_eq_decide, hm k]
      exact ⟨.inl, fun h => h.resolve_right (fun h => e h.symm)⟩
  · rw [Array.getElem?_eq_none (by rw [Array.size_setIfInBounds, seen_size]; omega), Array.getElem?_eq_none (by rw [seen_size]; omega)]
set_option maxHeartbeats 8000000 in
set_option maxRecDepth 100000 in
theorem all_calls (w : World) (A B : Option Addr) (c d : Nat) (n : Nat) (xs ls : List (Int × Int)) (hx : Rd Et w A n xs) (hl : Rd Et w B n ls) (hs : n * 16 ≤ 140737488355328) (ha : AllOk xs ls) :
    Calls Try.prog 11 #[.slice A n c, .slice B n d] w fun e w' => e = .returned (.bool true) ∧ Below w.heap.size w w' := by
  have HX := Aside0.mk hx
  have HL := Aside0.mk hl
  have HA := Aside0.mk ha
  clear hx hl ha
  have hmk : ∀ W : World, (Instr.makeSlice 49 (.int .i64 (n : Int)) (.int .i64 (n : Int))).run Try.prog W = .ok (.slice (some ⟨W.heap.size, 0, none⟩) n n) (W.alloc (.cells (madeCells #[.bool false] n) 4)) := fun W => by
    exact run_make_row' 49 4 (.bool false) 1 Try.underlying49 (by kernel_rfl) rfl .i64 .i64 n (by omega) (by omega) W
  go_enter Try.func11, Try.ntmps11
  go_wp2
  go_loopg [6] n (fun k v6 wr => ∃ j : Nat, v6 = .int .i64 j ∧ Aside0 (j + k = n) ∧ j ≤ n ∧ Aside0 (wr.heap[w.heap.size]? = some (.cells (seenA n xs j) 4 (0, 0))) ∧ Aside0 (Below w.heap.size w wr))
  case atStart => exact ⟨0, rfl, ⟨by omega⟩, by omega, ⟨by rw [← seen_zero]; exact heap_alloc_new w _⟩, ⟨Below.alloc (Below.refl _ _) (Nat.le_refl _) _⟩⟩
  case round =>
    obtain ⟨j, rfl, HD, hj, HW, HB⟩ := hrel
    cases gk with
    | zero =>
      obtain rfl : j = n := by have := HD.out; omega
      go_wp2
      go_ret
      exact ⟨rfl, HB.out⟩
    | succ k =>
      have hlt : j < n := by have := HD.out; omega
      have hb1 : decide (j < n) = true := decide_eq_true hlt
      obtain ⟨ad, x, rfl, hx0, hca⟩ := (HX.out.below HB.out).at_ j hlt
      obtain ⟨ke, nu⟩ := x
      have hxx : xs[j]? = some (ke, nu) := hx0
      have hm : (ke, nu) ∈ xs := List.mem_of_getElem? hx0
      obtain ⟨h0, h1, ⟨kl, nl⟩, hl0, hkl⟩ := HA.out.at_ _ hm
      simp only at h0 h1 hl0 hkl
      obtain rfl : ke = kl := hkl.symm
      have hlen : ls.length = n := HL.out.1
      obtain ⟨bd, y, rfl, hy0, hcb⟩ := (HL.out.below HB.out).at_ nu.toNat (by omega)
      rw [hl0] at hy0
      obtain rfl := Option.some.inj hy0
      have hc1 : wr.cell? ⟨(ad.add (j * 2)).block, (ad.add (j * 2)).off + 1, none⟩ = some (.int .i64 nu) := num_cell (hca 1 _ rfl)
      have hc2 : wr.cell? (ad.add (j * 2)) = some (.int .i64 ke) := hca 0 _ rfl
      have hc3 : wr.cell? (bd.add (nu.toNat * 2)) = some (.int .i64 ke) := hcb 0 _ rfl
      have hns : decide (((nu.toNat : Nat) : Int) ∈ (xs.take j).map Prod.snd) = false := by
        rw [decide_eq_false_iff_not, Int.toNat_of_nonneg h0]
        intro hin
        have hnd := HA.out.nd
        have hj' : j < xs.length := (List.getElem?_eq_some_iff.1 hx0).1
        have e : xs.map Prod.snd = (xs.take j).map Prod.snd ++ (xs.drop j).map Prod.snd := by rw [← List.map_append, List.take_append_drop]
        rw [e] at hnd
        have := (List.nodup_append.1 hnd).2.2 nu hin nu (by rw [List.drop_eq_getElem_cons hj', (List.getElem?_eq_some_iff.1 hx0).2]; simp)
        exact this rfl
      have hc4 : wr.cell? ⟨w.heap.size, nu.toNat, none⟩ = some (.bool false) := by
        rw [← hns]; exact cell_at HW.out (seen_at (by omega))
      have hfr : wr.frozen? ⟨w.heap.size, nu.toNat, none⟩ = false := by simp [World.frozen?, HW.out]
      have HK : Aside0 (wr.drew.cell? ⟨w.heap.size, nu.toNat, none⟩ = some (.bool false) ∧ wr.drew.cell? (ad.add (j * 2)) = some (.int .i64 ke) ∧ wr.drew.cell? (bd.add (nu.toNat * 2)) = some (.int .i64 ke)) := ⟨hc4, hc2, hc3⟩
      have hb2 : decide (nu < 0) = false := decide_eq_false (by omega)
      have hb3 : decide ((n : Int) ≤ nu) = false := decide_eq_false (by omega)
      have hq1 : nu < (n : Int) := by omega
      have HX2 := Aside0.mk hx0
      have HC2 := Aside0.mk hc2
      clear hx0 hca hl0 hcb hm hns hc2 hc3 hc4 h1
      go_wp2_with fail
      refine start_ (n := 27) (S := fun w' => w'.cell? ⟨w.heap.size, nu.toNat, none⟩ = some (.bool false) ∧ w'.cell? (ad.add (j * 2)) = some (.int .i64 ke) ∧ w'.cell? (bd.add (nu.toNat * 2)) = some (.int .i64 ke)) (ds := []) #[false, false, false, false, false, false, false, false, false, false, false, false, false, false, false, false, false, false, false, false, false, false, false, false, false, false, false] (by kernel_rfl) rfl rfl ⟨HK.out.1, HK.out.2.1, HK.out.2.2⟩ (fun hHeld => ?_)
      refine pure_ (i := 0) (N := some 27) (v := ?_) (a' := ?_) #[true, false, false, false, false, false, false, false, false, false, false, false, false, false, false, false, false, false, false, false, false, false, false, false, false, false, false] rfl rfl (by kernel_rfl) (fun _ _ _ h => h) (Or.inl ⟨by rfl, ?_⟩) ?_ ?_
      rotate_left
      · intro w'
        go_simp
        with_reducible rfl
      rotate_left
      · simp only [Act.put, List.setIfInBounds_toArray, List.set_cons_zero, List.set_cons_succ, i64_w, i32_w]
        rfl
      refine pure_ (i := 1) (N := some 28) (v := ?_) (a' := ?_) #[true, true, false, false, false, false, false, false, false, false, false, false, false, false, false, false, false, false, false, false, false, false, false, false, false, false, false] rfl rfl (by kernel_rfl) (fun _ _ _ h => h) (Or.inl ⟨by rfl, ?_⟩) ?_ ?_
      rotate_left
      · intro w'
        go_simp
        with_reducible rfl
      rotate_left
      · simp only [Act.put, List.setIfInBounds_toArray, List.set_cons_zero, List.set_cons_succ, i64_w, i32_w]
        rfl
      refine pure_ (i := 2) (N := some 29) (v := ?_) (a' := ?_) #[true, true, true, false, false, false, false, false, false, false, false, false, false, false, false, false, false, false, false, false, false, false, false, false, false, false, false] rfl rfl (by kernel_rfl) (fun _ _ _ h => h) (Or.inl ⟨by rfl, ?_⟩) ?_ ?_
      rotate_left
      · intro w'
        go_simp
        with_reducible rfl
      rotate_left
      · simp only [Act.put, List.setIfInBounds_toArray, List.set_cons_zero, List.set_cons_succ, i64_w, i32_w]
        rfl
      refine pure_ (i := 3) (N := some 30) (v := ?_) (a' := ?_) #[true, true, true, true, false, false, false, false, false, false, false, false, false, false, false, false, false, false, false, false, false, false, false, false, false, false, false] rfl rfl (by kernel_rfl) (fun _ _ _ h => h) (Or.inl ⟨by rfl, ?_⟩) ?_ ?_
      rotate_left
      · intro w'
        go_simp
        with_reducible rfl
      rotate_left
      · simp only [Act.put, List.setIfInBounds_toArray, List.set_cons_zero, List.set_cons_succ, i64_w, i32_w]
        rfl
      refine pure_ (i := 4) (N := some 31) (v := ?_) (a' := ?_) #[true, true, true, true, true, false, false, false, false, false, false, false, false, false, false, false, false, false, false, false, false, false, false, false, false, false, false] rfl rfl (by kernel_rfl) (fun _ _ _ h => h) (Or.inl ⟨by rfl, ?_⟩) ?_ ?_
      rotate_left
      · intro w'
        go_simp
        with_reducible rfl
      rotate_left
      · simp only [Act.put, List.setIfInBounds_toArray, List.set_cons_zero, List.set_cons_succ, i64_w, i32_w]
        rfl
      refine pure_ (i := 5) (N := some 32) (v := ?_) (a' := ?_) #[true, true, true, true, true, true, false, false, false, false, false, false, false, false, false, false, false, false, false, false, false, false, false, false, false, false, false] rfl rfl (by kernel_rfl) (fun _ _ _ h => h) (Or.inl ⟨by rfl, ?_⟩) ?_ ?_
      rotate_left
      · intro w'
        go_simp
        with_reducible rfl
      rotate_left
      · simp only [Act.put, List.setIfInBounds_toArray, List.set_cons_zero, List.set_cons_succ, i64_w, i32_w]
        rfl
      refine pure_ (i := 6) (N := some 33) (v := ?_) (a' := ?_) #[true, true, true, true, true, true, true, false, false, false, false, false, false, false, false, false, false, false, false, false, false, false, false, false, false, false, false] rfl rfl (by kernel_rfl) (fun _ _ _ h => h) (Or.inl ⟨by rfl, ?_⟩) ?_ ?_
      rotate_left
      · intro w'
        go_simp
        with_reducible rfl
      rotate_left
      · simp only [Act.put, List.setIfInBounds_toArray, List.set_cons_zero, List.set_cons_succ, i64_w, i32_w]
        rfl
      refine pure_ (i := 7) (N := some 34) (v := ?_) (a' := ?_) #[true, true, true, true, true, true, true, true, false, false, false, false, false, false, false, false, false, false, false, false, false, false, false, false, false, false, false] rfl rfl (by kernel_rfl) (fun _ _ _ h => h) (Or.inl ⟨by rfl, ?_⟩) ?_ ?_
      rotate_left
      · intro w'
        go_simp
        with_reducible rfl
      rotate_left
      · simp only [Act.put, List.setIfInBounds_toArray, List.set_cons_zero, List.set_cons_succ, i64_w, i32_w]
        rfl
      refine pure_ (i := 8) (N := some 35) (v := ?_) (a' := ?_) #[true, true, true, true, true, true, true, true, true, false, false, false, false, false, false, false, false, false, false, false, false, false, false, false, false, false, false] rfl rfl (by kernel_rfl) (fun _ _ _ h => h) (Or.inl ⟨by rfl, ?_⟩) ?_ ?_
      rotate_left
      · intro w'
        go_simp
        with_reducible rfl
      rotate_left
      · simp only [Act.put, List.setIfInBounds_toArray, List.set_cons_zero, List.set_cons_succ, i64_w, i32_w]
        rfl
      refine pure_ (i := 9) (N := some 36) (v := ?_) (a' := ?_) #[true, true, true, true, true, true, true, true, true, true, false, false, false, false, false, false, false, false, false, false, false, false, false, false, false, false, false] rfl rfl (by kernel_rfl) (fun _ _ _ h => h) (Or.inl ⟨by rfl, ?_⟩) ?_ ?_
      rotate_left
      · intro w'
        go_simp
        with_reducible rfl
      rotate_left
      · simp only [Act.put, List.setIfInBounds_toArray, List.set_cons_zero, List.set_cons_succ, i64_w, i32_w]
        rfl
      refine pure_ (i := 10) (N := some 37) (v := ?_) (a' := ?_) #[true, true, true, true, true, true, true, true, true, true, true, false, false, false, false, false, false, false, false, false, false, false, false, false, false, false, false] rfl rfl (by kernel_rfl) (fun _ _ _ h => h) (Or.inl ⟨by rfl, ?_⟩) ?_ ?_
      rotate_left
      · intro w'
        go_simp
        with_reducible rfl
      rotate_left
      · simp only [Act.put, List.setIfInBounds_toArray, List.set_cons_zero, List.set_cons_succ, i64_w, i32_w]
        rfl
      refine pure_ (i := 11) (N := some 38) (v := ?_) (a' := ?_) #[true, true, true, true, true, true, true, true, true, true, true, true, false, false, false, false, false, false, false, false, false, false, false, false, false, false, false] rfl rfl (by kernel_rfl) (fun _ _ _ h => h) (Or.inl ⟨by rfl, ?_⟩) ?_ ?_
      rotate_left
      · intro w'
        go_simp
        with_reducible rfl
      rotate_left
      · simp only [Act.put, List.setIfInBounds_toArray, List.set_cons_zero, List.set_cons_succ, i64_w, i32_w]
        rfl
      refine take_ (i := 12) (N := some 39) (v := ?_) (a' := ?_) #[true, true, true, true, true, true, true, true, true, true, true, true, true, false, false, false, false, false, false, false, false, false, false, false, false, false, false] rfl rfl (by kernel_rfl) (fun _ _ _ h => h) (Or.inl ⟨by rfl, ?_⟩) hHeld ?_ ?_
      rotate_left
      · rintro w' ⟨s0, s1, s2⟩
        go_simp
        with_reducible rfl
      rotate_left
      · simp only [Act.put, List.setIfInBounds_toArray, List.set_cons_zero, List.set_cons_succ, i64_w, i32_w]
        rfl
      refine pure_ (i := 13) (N := some 40) (v := ?_) (a' := ?_) #[true, true, true, true, true, true, true, true, true, true, true, true, true, true, false, false, false, false, false, false, false, false, false, false, false, false, false] rfl rfl (by kernel_rfl) (fun _ _ _ h => h) (Or.inl ⟨by rfl, ?_⟩) ?_ ?_
      rotate_left
      · intro w'
        go_simp
        with_reducible rfl
      rotate_left
      · simp only [Act.put, List.setIfInBounds_toArray, List.set_cons_zero, List.set_cons_succ, i64_w, i32_w]
        rfl
      refine pure_ (i := 14) (N := some 41) (v := ?_) (a' := ?_) #[true, true, true, true, true, true, true, true, true, true, true, true, true, true, true, false, false, false, false, false, false, false, false, false, false, false, false] rfl rfl (by kernel_rfl) (fun _ _ _ h => h) (Or.inl ⟨by rfl, ?_⟩) ?_ ?_
      rotate_left
      · intro w'
        go_simp
        with_reducible rfl
      rotate_left
      · simp only [Act.put, List.setIfInBounds_toArray, List.set_cons_zero, List.set_cons_succ, i64_w, i32_w]
        rfl
      refine pure_ (i := 15) (N := some 42) (v := ?_) (a' := ?_) #[true, true, true, true, true, true, true, true, true, true, true, true, true, true, true, true, false, false, false, false, false, false, false, false, false, false, false] rfl rfl (by kernel_rfl) (fun _ _ _ h => h) (Or.inl ⟨by rfl, ?_⟩) ?_ ?_
      rotate_left
      · intro w'
        go_simp
        with_reducible rfl
      rotate_left
      · simp only [Act.put, List.setIfInBounds_toArray, List.set_cons_zero, List.set_cons_succ, i64_w, i32_w]
        rfl
      refine pure_ (i := 16) (N := some 43) (v := ?_) (a' := ?_) #[true, true, true, true, true, true, true, true, true, true, true, true, true, true, true, true, true, false, false, false, false, false, false, false, false, false, false] rfl rfl (by kernel_rfl) (fun _ _ _ h => h) (Or.inl ⟨by rfl, ?_⟩) ?_ ?_
      rotate_left
      · intro w'
        go_simp
        with_reducible rfl
      rotate_left
      · simp only [Act.put, List.setIfInBounds_toArray, List.set_cons_zero, List.set_cons_succ, i64_w, i32_w]
        rfl
      refine pure_ (i := 17) (N := some 44) (v := ?_) (a' := ?_) #[true, true, true, true, true, true, true, true, true, true, true, true, true, true, true, true, true, true, false, false, false, false, false, false, false, false, false] rfl rfl (by kernel_rfl) (fun _ _ _ h => h) (Or.inl ⟨by rfl, ?_⟩) ?_ ?_
      rotate_left
      · intro w'
        go_simp
        with_reducible rfl
      rotate_left
      · simp only [Act.put, List.setIfInBounds_toArray, List.set_cons_zero, List.set_cons_succ, i64_w, i32_w]
        rfl
      refine pure_ (i := 18) (N := some 45) (v := ?_) (a' := ?_) #[true, true, true, true, true, true, true, true, true, true, true, true, true, true, true, true, true, true, true, false, false, false, false, false, false, false, false] rfl rfl (by kernel_rfl) (fun _ _ _ h => h) (Or.inl ⟨by rfl, ?_⟩) ?_ ?_
      rotate_left
      · intro w'
        go_simp
        with_reducible rfl
      rotate_left
      · simp only [Act.put, List.setIfInBounds_toArray, List.set_cons_zero, List.set_cons_succ, i64_w, i32_w]
        rfl
      refine pure_ (i := 20) (N := some 47) (v := ?_) (a' := ?_) #[true, true, true, true, true, true, true, true, true, true, true, true, true, true, true, true, true, true, true, false, true, false, false, false, false, false, false] rfl rfl (by kernel_rfl) (fun _ _ _ h => h) (Or.inl ⟨by rfl, ?_⟩) ?_ ?_
      rotate_left
      · intro w'
        go_simp
        with_reducible rfl
      rotate_left
      · simp only [Act.put, List.setIfInBounds_toArray, List.set_cons_zero, List.set_cons_succ, i64_w, i32_w]
        rfl
      refine pure_ (i := 21) (N := some 48) (v := ?_) (a' := ?_) #[true, true, true, true, true, true, true, true, true, true, true, true, true, true, true, true, true, true, true, false, true, true, false, false, false, false, false] rfl rfl (by kernel_rfl) (fun _ _ _ h => h) (Or.inl ⟨by rfl, ?_⟩) ?_ ?_
      rotate_left
      · intro w'
        go_simp
        with_reducible rfl
      rotate_left
      · simp only [Act.put, List.setIfInBounds_toArray, List.set_cons_zero, List.set_cons_succ, i64_w, i32_w]
        rfl
      refine pure_ (i := 22) (N := some 49) (v := ?_) (a' := ?_) #[true, true, true, true, true, true, true, true, true, true, true, true, true, true, true, true, true, true, true, false, true, true, true, false, false, false, false] rfl rfl (by kernel_rfl) (fun _ _ _ h => h) (Or.inl ⟨by rfl, ?_⟩) ?_ ?_
      rotate_left
      · intro w'
        go_simp
        with_reducible rfl
      rotate_left
      · simp only [Act.put, List.setIfInBounds_toArray, List.set_cons_zero, List.set_cons_succ, i64_w, i32_w]
        rfl
      refine pure_ (i := 23) (N := some 50) (v := ?_) (a' := ?_) #[true, true, true, true, true, true, true, true, true, true, true, true, true, true, true, true, true, true, true, false, true, true, true, true, false, false, false] rfl rfl (by kernel_rfl) (fun _ _ _ h => h) (Or.inl ⟨by rfl, ?_⟩) ?_ ?_
      rotate_left
      · intro w'
        go_simp
        with_reducible rfl
      rotate_left
      · simp only [Act.put, List.setIfInBounds_toArray, List.set_cons_zero, List.set_cons_succ, i64_w, i32_w]
        rfl
      refine take_ (i := 19) (N := some 46) (v := ?_) (a' := ?_) #[true, true, true, true, true, true, true, true, true, true, true, true, true, true, true, true, true, true, true, true, true, true, true, true, false, false, false] rfl rfl (by kernel_rfl) (fun _ _ _ h => h) (Or.inl ⟨by rfl, ?_⟩) hHeld ?_ ?_
      rotate_left
      · rintro w' ⟨s0, s1, s2⟩
        go_simp
        with_reducible rfl
      rotate_left
      · simp only [Act.put, List.setIfInBounds_toArray, List.set_cons_zero, List.set_cons_succ, i64_w, i32_w]
        rfl
      refine take_ (i := 24) (N := some 51) (v := ?_) (a' := ?_) #[true, true, true, true, true, true, true, true, true, true, true, true, true, true, true, true, true, true, true, true, true, true, true, true, true, false, false] rfl rfl (by kernel_rfl) (fun _ _ _ h => h) (Or.inl ⟨by rfl, ?_⟩) hHeld ?_ ?_
      rotate_left
      · rintro w' ⟨s0, s1, s2⟩
        go_simp
        with_reducible rfl
      rotate_left
      · simp only [Act.put, List.setIfInBounds_toArray, List.set_cons_zero, List.set_cons_succ, i64_w, i32_w]
        rfl
      refine pure_ (i := 25) (N := some 52) (v := ?_) (a' := ?_) #[true, true, true, true, true, true, true, true, true, true, true, true, true, true, true, true, true, true, true, true, true, true, true, true, true, true, false] rfl rfl (by kernel_rfl) (fun _ _ _ h => h) (Or.inl ⟨by rfl, ?_⟩) ?_ ?_
      rotate_left
      · intro w'
        go_simp
        with_reducible rfl
      rotate_left
      · simp only [Act.put, List.setIfInBounds_toArray, List.set_cons_zero, List.set_cons_succ, i64_w, i32_w]
        rfl
      refine pure_ (i := 26) (N := some 53) (v := ?_) (a' := ?_) #[true, true, true, true, true, true, true, true, true, true, true, true, true, true, true, true, true, true, true, true, true, true, true, true, true, true, true] rfl rfl (by kernel_rfl) (fun _ _ _ h => h) (Or.inl ⟨by rfl, ?_⟩) ?_ ?_
      rotate_left
      · intro w'
        go_simp
        with_reducible rfl
      rotate_left
      · simp only [Act.put, List.setIfInBounds_toArray, List.set_cons_zero, List.set_cons_succ, i64_w, i32_w]
        rfl
      refine done_ (by kernel_rfl) ?_
      go_wp2_with fail
      go_roundg k
      case measure => omega
      case rel =>
        refine ⟨j + 1, by go_num, ⟨by have := HD.out; omega⟩, by omega, ⟨?_⟩, ⟨below_drew HB.out |>.setCell (by simp) _⟩⟩
        have e : nu = ((nu.toNat : Nat) : Int) := by omega
        rw [← seen_set HX2.out e]
        show (wr.setCell ⟨w.heap.size, nu.toNat, none⟩ (.bool true)).heap[w.heap.size]? = _
        simp [World.setCell, Array.getElem?_modify, HW.out]
end Go.Proofs.Ytodibpddlibneaa.S
