/- Contracts of the functions of package nodes, part D: what each call answers and leaves. Conditions: each theorem's own. -/
import Derived.Test.YtohopfbacfddbaaNC
namespace Go.Proofs.Ytohopfbacfddbaa.N
open Go.RowKit Go.Proofs.YtohopfbacfddbaaW.PrintWords

theorem popc_le (k : Nat) : ∀ x, popc k x ≤ k := by
  induction k with
  | zero => intro x; simp [popc]
  | succ k ih => intro x; have := ih (x / 2); simp only [popc]; omega
def sumP (t : Nat → Nat) : Nat := popc 64 (t 0) + popc 64 (t 1) + popc 64 (t 2) + popc 64 (t 3)
set_option maxHeartbeats 8000000 in
set_option maxRecDepth 100000 in
theorem Free_raw (w : World) (g n : Nat) (t : Nat → Nat) (hs : SetAt w g n t) :
    Calls Try.prog 12 #[.pointer (some ⟨g, 0, none⟩)] w fun e w' => e = .returned (.int .i64 ((n : Int) - (popc 64 (t 0) : Nat) - (popc 64 (t 1) : Nat) - (popc 64 (t 2) : Nat) - (popc 64 (t 3) : Nat))) ∧ w = w' := by
  have hn := hs.le
  have hc0 := hs.cell0
  have hix0 : ∀ (x0 x1 x2 x3 : Value) (w : World), (Instr.index 52 (.agg #[x0, x1, x2, x3]) (.int .i64 0)).run Try.prog w = .ok x0 w := by intros; kernel_rfl
  have hix1 : ∀ (x0 x1 x2 x3 : Value) (w : World), (Instr.index 52 (.agg #[x0, x1, x2, x3]) (.int .i64 1)).run Try.prog w = .ok x1 w := by intros; kernel_rfl
  have hix2 : ∀ (x0 x1 x2 x3 : Value) (w : World), (Instr.index 52 (.agg #[x0, x1, x2, x3]) (.int .i64 2)).run Try.prog w = .ok x2 w := by intros; kernel_rfl
  have hix3 : ∀ (x0 x1 x2 x3 : Value) (w : World), (Instr.index 52 (.agg #[x0, x1, x2, x3]) (.int .i64 3)).run Try.prog w = .ok x3 w := by intros; kernel_rfl
  have l0 := hs.lt 0
  have l1 := hs.lt 1
  have l2 := hs.lt 2
  have l3 := hs.lt 3
  have c1 : w.cell? ⟨g, 1, none⟩ = some (.int .u64 (t 0)) := hs.cell 0 (by omega)
  have c2 : w.cell? ⟨g, 2, none⟩ = some (.int .u64 (t 1)) := hs.cell 1 (by omega)
  have c3 : w.cell? ⟨g, 3, none⟩ = some (.int .u64 (t 2)) := hs.cell 2 (by omega)
  have c4 : w.cell? ⟨g, 4, none⟩ = some (.int .u64 (t 3)) := hs.cell 3 (by omega)
  have p0 := popc_le 64 (t 0)
  have p1 := popc_le 64 (t 1)
  have p2 := popc_le 64 (t 2)
  have p3 := popc_le 64 (t 3)
  generalize t 0 = x0 at *
  generalize t 1 = x1 at *
  generalize t 2 = x2 at *
  generalize t 3 = x3 at *
  clear hs
  go_enter Try.func12, Try.ntmps12
  go_wp2_with fail
  refine wp_loop_rounds 5 ?_
  rw [rounds_succ]
  go_wp2_with fail
  refine (ones_calls _ x0 l0).mono ?_
  rintro e w' ⟨rfl, rfl⟩
  go_wp2_with fail
  rw [rounds_succ]
  go_wp2_with fail
  refine (ones_calls _ x1 l1).mono ?_
  rintro e w' ⟨rfl, rfl⟩
  go_wp2_with fail
  rw [rounds_succ]
  go_wp2_with fail
  refine (ones_calls _ x2 l2).mono ?_
  rintro e w' ⟨rfl, rfl⟩
  go_wp2_with fail
  rw [rounds_succ]
  go_wp2_with fail
  refine (ones_calls _ x3 l3).mono ?_
  rintro e w' ⟨rfl, rfl⟩
  go_wp2_with fail
  rw [rounds_succ]
  go_wp2
  go_ret
  exact ⟨rfl, rfl⟩

/-- How many of the first k numbers a test takes. -/
def cnt (f : Nat → Bool) : Nat → Nat
  | 0 => 0
  | k + 1 => cnt f k + (if f k then 1 else 0)
theorem cnt_congr {f h : Nat → Bool} : ∀ k, (∀ i, i < k → f i = h i) → cnt f k = cnt h k
  | 0, _ => rfl
  | k + 1, e => by rw [cnt, cnt, cnt_congr k (fun i hi => e i (by omega)), e k (by omega)]
theorem cnt_add (f : Nat → Bool) (j : Nat) : ∀ k, cnt f (j + k) = cnt f j + cnt (fun i => f (j + i)) k
  | 0 => by simp [cnt]
  | k + 1 => by rw [← Nat.add_assoc, cnt, cnt, cnt_add f j k]; omega
theorem cnt_not (f : Nat → Bool) : ∀ k, cnt f k + cnt (fun i => !f i) k = k
  | 0 => rfl
  | k + 1 => by
    have := cnt_not f k
    simp only [cnt]
    by_cases hf : f k = true <;> simp [hf] <;> omega
theorem cnt_none {f : Nat → Bool} (k : Nat) (h : ∀ i, i < k → f i = false) : cnt f k = 0 := by
  induction k with
  | zero => rfl
  | succ k ih => rw [cnt, ih (fun i hi => h i (by omega)), h k (by omega)]; rfl
theorem popc_cnt : ∀ (k x : Nat), popc k x = cnt (fun i => x.testBit i) k
  | 0, x => rfl
  | k + 1, x => by
    have h := cnt_add (fun i => x.testBit i) 1 k
    rw [show 1 + k = k + 1 by omega] at h
    rw [h, popc, popc_cnt k (x / 2)]
    have e : (fun i => (x / 2).testBit i) = (fun i => x.testBit (1 + i)) := by
      funext i
      rw [Nat.testBit_div_two, show i + 1 = 1 + i by omega]
    rw [e]
    simp only [cnt, Nat.testBit_zero, Nat.zero_add]
    have : x % 2 = 0 ∨ x % 2 = 1 := by omega
    rcases this with h | h <;> simp [h]
theorem sumP_cnt (t : Nat → Nat) : sumP t = cnt (bitT t) 256 := by
  rw [show 256 = 64 + 64 + 64 + 64 from rfl, cnt_add, cnt_add, cnt_add]
  unfold sumP
  rw [popc_cnt, popc_cnt, popc_cnt, popc_cnt]
  have e (q : Nat) : cnt (fun i => (t q).testBit i) 64 = cnt (fun i => bitT t (64 * q + i)) 64 := cnt_congr 64 fun i hi => by
    unfold bitT
    rw [show (64 * q + i) / 64 = q by omega, show (64 * q + i) % 64 = i by omega]
  rw [e 0, e 1, e 2, e 3]
  simp
theorem freeTo_cnt (n : Nat) (t : Nat → Nat) : ∀ m, m ≤ n → (freeTo n t m).length = cnt (fun i => !bitT t i) m
  | 0, _ => rfl
  | m + 1, h => by
    rw [freeTo_succ, cnt, ← freeTo_cnt n t m (by omega)]
    have : hasB n t (m : Int) = !bitT t m := by
      have h1 : decide ((m : Int) < (n : Int)) = true := decide_eq_true (by omega)
      simp [hasB]; intro; omega
    rw [this]
    cases bitT t m <;> simp
theorem free_len {w : World} {g n : Nat} {t : Nat → Nat} (hs : SetAt w g n t) : (n : Int) - (popc 64 (t 0) : Nat) - (popc 64 (t 1) : Nat) - (popc 64 (t 2) : Nat) - (popc 64 (t 3) : Nat) = ((freeTo n t n).length : Nat) := by
  have h1 := sumP_cnt t
  have h2 := cnt_add (bitT t) n (256 - n)
  have hn := hs.le
  rw [show n + (256 - n) = 256 by omega] at h2
  have h3 := cnt_none (f := fun i => bitT t (n + i)) (256 - n) (fun i hi => hs.out (n + i) (by omega) (by omega))
  have h4 := cnt_not (bitT t) n
  rw [freeTo_cnt n t n (Nat.le_refl _)]
  unfold sumP at h1
  omega
theorem Free_calls (w : World) (g n : Nat) (t : Nat → Nat) (hs : SetAt w g n t) :
    Calls Try.prog 12 #[.pointer (some ⟨g, 0, none⟩)] w fun e w' => e = .returned (.int .i64 ((freeTo n t n).length : Nat)) ∧ w = w' := by
  have h := Free_raw w g n t hs
  rw [free_len hs] at h
  exact h

set_option maxHeartbeats 8000000 in
set_option maxRecDepth 100000 in
theorem sameInts_calls (w : World) (A B : Option Addr) (n m c d : Nat) (xs ys : List Int) (hx : ReadsInt w .i64 A n xs) (hy : ReadsInt w .i64 B m ys) :
    Calls Try.prog 11 #[.slice A n c, .slice B m d] w fun e w' => e = .returned (.bool (decide (xs = ys))) ∧ w.grownBy w' none := by
  have HX := Aside0.mk hx
  have HY := Aside0.mk hy
  have hl := hx.2.1
  by_cases hnm : n = m
  · subst hnm
    have HL := Aside0.mk (And.intro hx.1 hy.1)
    clear hx hy
    go_enter Try.func11, Try.ntmps11
    go_wp2
    go_loopg [5] n (fun k v5 wr => ∃ (j : Nat), v5 = .int .i64 j ∧ Aside0 (j + k = n) ∧ j ≤ n ∧ Aside0 (xs.take j = ys.take j) ∧ Aside0 (w.grownBy wr none))
    case atStart => exact ⟨0, rfl, ⟨by omega⟩, by omega, ⟨rfl⟩, ⟨gb_refl _ _⟩⟩
    case round =>
      obtain ⟨j, rfl, HD, hj, HE, HG⟩ := hrel
      cases gk with
      | zero =>
        obtain rfl : j = n := by have := HD.out; omega
        have HF := Aside0.mk (show decide (xs = ys) = true by
          rw [decide_eq_true_eq]
          have h := HE.out
          rwa [List.take_of_length_le (by rw [HL.out.1]; exact Nat.le_refl _), List.take_of_length_le (by rw [HL.out.2]; exact Nat.le_refl _)] at h)
        go_wp2
        go_ret
        exact ⟨by rw [HF.out]; rfl, HG.out⟩
      | succ d =>
        have hlt : j < n := by have := HD.out; omega
        obtain ⟨a1, rfl, hc1⟩ := ri_at (ri_kept HX.out HG.out (by simp)) j hlt
        obtain ⟨a2, rfl, hc2⟩ := ri_at (ri_kept HY.out HG.out (by simp)) j hlt
        by_cases hq : rd xs (j : Int) = rd ys (j : Int)
        · have hq1 : (rd xs (j : Int) == rd ys (j : Int)) = true := by simp [hq]
          have hq2 : (rd xs (j : Int) != rd ys (j : Int)) = false := by simp [hq]
          have HQ := Aside0.mk hq
          clear hq
          go_wp2
          go_region
          go_wp2
          go_roundg d
          case measure => omega
          case rel =>
            refine ⟨j + 1, by go_num, ⟨by have := HD.out; omega⟩, by omega, ⟨?_⟩, ⟨World.grownBy.trans HG.out (gb_drew _ _)⟩⟩
            have h1 : j < xs.length := by rw [HL.out.1]; exact hlt
            have h2 : j < ys.length := by rw [HL.out.2]; exact hlt
            have hq := HQ.out
            simp only [rd, Int.toNat_natCast, List.getD_eq_getElem?_getD, List.getElem?_eq_getElem h1, List.getElem?_eq_getElem h2, Option.getD_some] at hq
            rw [List.take_succ_eq_append_getElem h1, List.take_succ_eq_append_getElem h2, HE.out, hq]
        · have hq1 : (rd xs (j : Int) == rd ys (j : Int)) = false := by simp [hq]
          have hq2 : (rd xs (j : Int) != rd ys (j : Int)) = true := by simp [hq]
          have HF := Aside0.mk (show decide (xs = ys) = false by
            rw [decide_eq_false_iff_not]; intro h; subst h; exact hq rfl)
          clear hq
          go_wp2
          go_region
          go_wp2
          go_ret
          exact ⟨by rw [HF.out]; rfl, World.grownBy.trans HG.out (gb_drew _ _)⟩
  · have hb : ((n : Int) == (m : Int)) = false := by simp; omega
    have hb2 : ((n : Int) != (m : Int)) = true := by simp; omega
    have hb3 : (n == m) = false := by simpa using hnm
    have HF := Aside0.mk (show decide (xs = ys) = false by
      rw [decide_eq_false_iff_not]; intro h; subst h; exact hnm (hx.1.symm.trans hy.1))
    clear hnm hx hy
    go_enter Try.func11, Try.ntmps11
    go_wp2
    go_ret
    exact ⟨by rw [HF.out]; rfl, gb_refl _ _⟩
end Go.Proofs.Ytohopfbacfddbaa.N
