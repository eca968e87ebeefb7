/- Contracts of the functions of package nodes, part E: what each call answers and leaves. Conditions: each theorem's own. -/
import Derived.Test.YtohopfbacfddbaaND
namespace Go.Proofs.Ytohopfbacfddbaa.N
open Go.RowKit Go.Proofs.YtohopfbacfddbaaW.PrintWords

theorem ri_alloc {w : World} {k : IntKind} {A : Option Addr} {n : Nat} {xs : List Int} (h : ReadsInt w k A n xs) (o : Obj) : ReadsInt (w.alloc o) k A n xs :=
  h.below ((Below.refl _ _).alloc (Nat.le_refl _) o)
theorem set_alloc {w : World} {g n : Nat} {t : Nat → Nat} (h : SetAt w g n t) (o : Obj) : SetAt (w.alloc o) g n t := h.kept (World.grownBy_alloc w o none) (by simp)
theorem ri_lit (w : World) (xs : List Int) (h : xs.length ≤ 9223372036854775807) : ReadsInt (w.alloc (.cells (nums .i64 xs).toArray 3)) .i64 (some ⟨w.heap.size, 0, none⟩) xs.length xs := by
  obtain ⟨A, c, he, hr⟩ := own_reads (own_lit w w.heap.size 3 .i64 xs (Nat.le_refl _) h)
  injection he with h1 h2 h3
  rw [h1]; exact hr
theorem set_lt {w : World} {g n : Nat} {t : Nat → Nat} (h : SetAt w g n t) : g < w.heap.size := (Array.getElem?_eq_some_iff.1 h.blk).1
theorem below_gb {B : Nat} {w W W' : World} {row : Option Nat} (h : Below B w W) (hg : W.grownBy W' row) (hB : B ≤ W.heap.size) (hr : ∀ k, row = some k → B ≤ k) : Below B w W' := h.grown hg hB hr

theorem own_open {w : World} {base n : Nat} {e : TypeId} {k : IntKind} {v : Value} {xs : List Int} (h : w.ownsRow base e 1 v n (nums k xs)) :
    ∃ A c, v = .slice A n c ∧ ReadsInt w k A n xs ∧ ∀ ad, A = some ad → base ≤ ad.block := by
  obtain ⟨A, c, rfl, hr⟩ := own_reads h
  exact ⟨A, c, rfl, hr, fun ad ha => own_base h ad.block (by rw [ha]; rfl)⟩
theorem ne_of_ge {A : Option Addr} {b g : Nat} (h : ∀ ad, A = some ad → b ≤ ad.block) (hg : g < b) : ∀ ad, A = some ad → some ad.block ≠ some g := fun ad ha e => by
  have := h ad ha
  injection e with e
  omega

set_option maxHeartbeats 8000000 in
set_option maxRecDepth 100000 in
theorem shown_calls (w : World) :
    Calls Try.prog 6 #[] w fun e w' => e = .returned (.bool true) ∧ Below w.heap.size w w' := by
  have f0 : (freeTo 5 (fun _ => 0) 5).take 2 = [0, 1] := by decide +kernel
  have f1 : doneT 5 (turnT (fun _ => 0) [0, 1]) false [0] = flip (turnT (fun _ => 0) [0, 1]) 0 := by
    unfold doneT; rw [if_pos (by decide +kernel)]; rfl
  have m1 : mayE 5 (turnT (fun _ => 0) [0, 1]) false [0] = 0 := by decide +kernel
  have f2 : (freeTo 5 (flip (turnT (fun _ => 0) [0, 1]) 0) 5).take 2 = [0, 2] := by decide +kernel
  have f3 : freeTo 5 (turnT (flip (turnT (fun _ => 0) [0, 1]) 0) [0, 2]) 5 = [3, 4] := by decide +kernel
  have m2 : mayE 5 (turnT (flip (turnT (fun _ => 0) [0, 1]) 0) [0, 2]) true [4, 3] = 22 := by decide +kernel
  have F0 := Aside0.mk f0
  have F1 := Aside0.mk f1
  have F2 := Aside0.mk f2
  have F3 := Aside0.mk f3
  have M1 := Aside0.mk m1
  have M2 := Aside0.mk m2
  have l0 : 2 ≤ (freeTo 5 (fun _ => 0) 5).length := by decide +kernel
  have l2 : 2 ≤ (freeTo 5 (flip (turnT (fun _ => 0) [0, 1]) 0) 5).length := by decide +kernel
  clear f0 f1 f2 f3 m1 m2
  go_enter Try.func6, Try.ntmps6
  go_wp2_with fail
  refine (New_ok _ 5 (by omega) (by omega)).mono ?_
  rintro e w1 ⟨rfl, hs, hg⟩
  have HS := Aside0.mk hs
  have HB := Aside0.mk (below_of_gb hg)
  clear hs hg
  go_wp2_with fail
  refine (New_bad _ 0 (by omega)).mono ?_
  rintro e w2 ⟨rfl, rfl⟩
  go_wp2_with fail
  refine (Take_ok _ w.heap.size 5 (fun _ => 0) 2 HS.out l0 (by omega)).mono ?_
  rintro e w3 ⟨v, rfl, ho, hs, hg⟩
  rw [F0.out] at ho hs
  obtain ⟨A3, c3, rfl, hr, ha⟩ := own_open ho
  have HR3 := Aside0.mk hr
  have HN3 := Aside0.mk (ne_of_ge ha (set_lt HS.out))
  have HS3 := Aside0.mk hs
  have HB3 := Aside0.mk (below_gb HB.out hg HB.out.size (by intro k hk; cases hk; exact Nat.le_refl _))
  clear HS HB ho hr hs hg ha
  go_wp2_with fail
  refine (Give_calls _ w.heap.size 5 (turnT (fun _ => 0) [0, 1]) _ _ [0] (set_alloc HS3.out _) (ri_lit w3 [0] (by decide)) (by intro ad h; cases h; have := set_lt HS3.out; simp; omega)).mono ?_
  rintro e w4 ⟨rfl, hs, hg⟩
  rw [F1.out] at hs
  rw [M1.out]
  have HS4 := Aside0.mk hs
  have HB4 := Aside0.mk (below_gb (below_alloc HB3.out _) hg (below_alloc HB3.out (.cells (nums .i64 [0]).toArray 3)).size (by intro k hk; cases hk; exact Nat.le_refl _))
  have HR4 := Aside0.mk (ri_kept (ri_alloc HR3.out (.cells (nums .i64 [0]).toArray 3)) hg HN3.out)
  clear HS3 HB3 HR3 hs hg
  go_wp2_with fail
  refine (Take_ok _ w.heap.size 5 _ 2 HS4.out l2 (by omega)).mono ?_
  rintro e w5 ⟨v, rfl, ho, hs, hg⟩
  rw [F2.out] at ho hs
  obtain ⟨A5, c5, rfl, hr, ha⟩ := own_open ho
  have HR5 := Aside0.mk hr
  have HS5 := Aside0.mk hs
  have HB5 := Aside0.mk (below_gb HB4.out hg HB4.out.size (by intro k hk; cases hk; exact Nat.le_refl _))
  have HR35 := Aside0.mk (ri_kept HR4.out hg HN3.out)
  clear HS4 HB4 HR4 ho hr hs hg ha
  go_wp2_with fail
  refine (sameInts_calls _ _ _ _ _ _ _ [0, 1] [0, 1] (ri_alloc HR35.out _) (ri_lit w5 [0, 1] (by decide))).mono ?_
  rintro e w6 ⟨rfl, hg⟩
  have HB6 := Aside0.mk (below_gb (below_alloc HB5.out (.cells (nums .i64 [0, 1]).toArray 3)) hg (below_alloc HB5.out _).size (by simp))
  have HS6 := Aside0.mk ((set_alloc HS5.out (.cells (nums .i64 [0, 1]).toArray 3)).kept hg (by simp))
  have HR6 := Aside0.mk (ri_kept (ri_alloc HR5.out (.cells (nums .i64 [0, 1]).toArray 3)) hg (by simp))
  clear HB5 HS5 HR5 HR35 hg
  go_wp2_with fail
  refine (sameInts_calls _ _ _ _ _ _ _ [0, 2] [0, 2] (ri_alloc HR6.out _) (ri_lit w6 [0, 2] (by decide))).mono ?_
  rintro e w7 ⟨rfl, hg⟩
  have HB7 := Aside0.mk (below_gb (below_alloc HB6.out (.cells (nums .i64 [0, 2]).toArray 3)) hg (below_alloc HB6.out _).size (by simp))
  have HS7 := Aside0.mk ((set_alloc HS6.out (.cells (nums .i64 [0, 2]).toArray 3)).kept hg (by simp))
  clear HB6 HS6 HR6 hg
  go_wp2_with fail
  refine (List_calls _ w.heap.size 5 _ HS7.out).mono ?_
  rintro e w8 ⟨v, rfl, ho, hg⟩
  rw [F3.out] at ho
  obtain ⟨A8, c8, rfl, hr, ha⟩ := own_open ho
  have HR8 := Aside0.mk hr
  have HB8 := Aside0.mk (below_gb HB7.out hg HB7.out.size (by simp))
  have HS8 := Aside0.mk (HS7.out.kept hg (by simp))
  clear HB7 HS7 ho hr ha hg
  go_wp2_with fail
  refine (sameInts_calls _ _ _ _ _ _ _ [3, 4] [3, 4] (ri_alloc HR8.out _) (ri_lit w8 [3, 4] (by decide))).mono ?_
  rintro e w9 ⟨rfl, hg⟩
  have HB9 := Aside0.mk (below_gb (below_alloc HB8.out (.cells (nums .i64 [3, 4]).toArray 3)) hg (below_alloc HB8.out _).size (by simp))
  have HS9 := Aside0.mk ((set_alloc HS8.out (.cells (nums .i64 [3, 4]).toArray 3)).kept hg (by simp))
  clear HB8 HS8 HR8 hg
  go_wp2_with fail
  refine (Free_calls _ w.heap.size 5 _ HS9.out).mono ?_
  rintro e w10 ⟨rfl, rfl⟩
  rw [F3.out]
  go_wp2_with fail
  refine (Claim_calls _ w.heap.size 5 _ _ _ [4, 3] (set_alloc HS9.out _) (ri_lit w9 [4, 3] (by decide)) (by intro ad h; cases h; have := set_lt HS9.out; simp; omega)).mono ?_
  rintro e w11 ⟨rfl, hs, hg⟩
  rw [M2.out]
  have HB11 := Aside0.mk (below_gb (below_alloc HB9.out (.cells (nums .i64 [4, 3]).toArray 3)) hg (below_alloc HB9.out _).size (by intro k hk; cases hk; exact Nat.le_refl _))
  clear HS9 HB9 hs hg
  go_wp2
  go_ret
  exact ⟨rfl, HB11.out⟩
set_option maxHeartbeats 8000000 in
set_option maxRecDepth 100000 in
theorem Names_calls (w : World) :
    Calls Try.prog 4 #[] w fun e w' => e = .returned (.bool true) ∧ Below w.heap.size w w' := by
  go_enter Try.func4, Try.ntmps4
  go_wp2_with fail
  refine (shown_calls _).mono ?_
  rintro e w1 ⟨rfl, hb⟩
  have HB := Aside0.mk hb
  clear hb
  go_wp2
  go_ret
  exact ⟨rfl, HB.out⟩
end Go.Proofs.Ytohopfbacfddbaa.N
