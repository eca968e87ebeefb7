import Derived.Test.YtmgmggkebmgafaaDoorQLLadU
import Derived.Test.YtmgmggkebmgafaaDoorQLBase
import Derived.Test.YtmgmggkebmgafaaDoorQLRMul
import Derived.Test.YtmgmggkebmgafaaDoorQLRShl1
import Derived.Test.YtmgmggkebmgafaaDoorGLx4
import Derived.Test.YtmgmggkebmgafaaDoorGLx5
namespace Go.Proofs.YtmgmggkebmgafaaDoor.Q
open Go.RowKit Go.Proofs.YtmgmggkebmgafaaDoor.GL Go.Proofs.YtmgmggkebmgafaaDoorW.PrintWords Go.Proofs.YtmgmggkebmgafaaDoorW.PrintLast Go.Proofs.YtmgmggkebmgafaaDoorW.PrintMore

theorem step_lo {m m' B P W X X' T Y Y' : Nat} (hT : 0 < T) (hY : 0 < Y) (hB : 0 < B) (h1 : m * B * P ≤ T * X * Y) (h2 : m' * T * (Y * Y) ≤ m * m * Y') (h3 : X * X * W ≤ B * X') : m' * B * (P * P * W) ≤ T * X' * Y' := by
  refine Nat.le_of_mul_le_mul_right (c := T * Y * Y * B) ?_ (Nat.mul_pos (Nat.mul_pos (Nat.mul_pos hT hY) hY) hB)
  calc m' * B * (P * P * W) * (T * Y * Y * B) = m' * T * (Y * Y) * (B * B * (P * P * W)) := by ac_rfl
    _ ≤ m * m * Y' * (B * B * (P * P * W)) := Nat.mul_le_mul_right _ h2
    _ = m * B * P * (m * B * P) * (W * Y') := by ac_rfl
    _ ≤ T * X * Y * (T * X * Y) * (W * Y') := Nat.mul_le_mul_right _ (Nat.mul_le_mul h1 h1)
    _ = X * X * W * (T * T * Y * Y * Y') := by ac_rfl
    _ ≤ B * X' * (T * T * Y * Y * Y') := Nat.mul_le_mul_right _ h3
    _ = T * X' * Y' * (T * Y * Y * B) := by ac_rfl
theorem step_hi {n n' B P W Z Z' T Y Y' : Nat} (hT : 0 < T) (hY : 0 < Y) (hB : 0 < B) (h1 : T * Z * Y ≤ n * P * B) (h2 : n * n * Y' ≤ n' * T * (Y * Y)) (h3 : B * Z' ≤ Z * Z * W) : T * Z' * Y' ≤ n' * (P * P * W) * B := by
  refine Nat.le_of_mul_le_mul_right (c := T * Y * Y * B) ?_ (Nat.mul_pos (Nat.mul_pos (Nat.mul_pos hT hY) hY) hB)
  calc T * Z' * Y' * (T * Y * Y * B) = B * Z' * (T * T * Y * Y * Y') := by ac_rfl
    _ ≤ Z * Z * W * (T * T * Y * Y * Y') := Nat.mul_le_mul_right _ h3
    _ = T * Z * Y * (T * Z * Y) * (W * Y') := by ac_rfl
    _ ≤ n * P * B * (n * P * B) * (W * Y') := Nat.mul_le_mul_right _ (Nat.mul_le_mul h1 h1)
    _ = n * n * Y' * (B * B * (P * P * W)) := by ac_rfl
    _ ≤ n' * T * (Y * Y) * (B * B * (P * P * W)) := Nat.mul_le_mul_right _ h2
    _ = n' * (P * P * W) * B * (T * Y * Y * B) := by ac_rfl
/-- A float: m by 2^63, y halvings: at most one. -/
structure Fl (m y : Nat) : Prop where
  lo : 9223372036854775808 ≤ m
  hi : m < 18446744073709551616
  one : y = 0 → m = 9223372036854775808
theorem dbl (y : Nat) : 2 ^ (2 * y) = 2 ^ y * 2 ^ y := by rw [Nat.two_mul, Nat.pow_add]
theorem dbl1 {y : Nat} (h : 1 ≤ y) : 2 ^ y * 2 ^ y = 2 * 2 ^ (2 * y - 1) := by
  rw [← dbl]
  obtain ⟨z, rfl⟩ : ∃ z, y = z + 1 := ⟨y - 1, by omega⟩
  rw [show 2 * (z + 1) = (2 * (z + 1) - 1) + 1 by omega, Nat.pow_succ, Nat.mul_comm]
  rfl
theorem sq_j1 (k : Nat) (q x : Int) (c : Bool) (hq0 : 0 ≤ q) (hq1 : q < 18446744073709551616) (hx0 : -9223372036854775808 ≤ x) (hx1 : x < 9223372036854775807) :
    backfilllaw07_squared.j1 (k + 1) c q x = some (if c = true then if q = 18446744073709551615 then (9223372036854775808, x + 1) else (q + 1, x) else (q, x)) := by
  simp only [backfilllaw07_squared.j1]
  cases c with
  | false => rfl
  | true =>
    rw [if_pos rfl, if_pos rfl]
    by_cases d : q = 18446744073709551615
    · rw [if_pos d, if_pos (by rw [d]; rfl), wrap64_in (by omega) (by omega)]
    · rw [if_neg d, w64_in (by omega) (by omega), if_neg (by omega)]
theorem sq_j0 (k : Nat) (up : Bool) (q r x : Int) (hq0 : 0 ≤ q) (hq1 : q < 18446744073709551616) (hx0 : -9223372036854775808 ≤ x) (hx1 : x < 9223372036854775807) :
    backfilllaw07_squared.j0 (k + 2) up x q r = some (if (up && decide (r > 0)) = true then if q = 18446744073709551615 then (9223372036854775808, x + 1) else (q + 1, x) else (q, x)) := by
  simp only [backfilllaw07_squared.j0]
  cases up with
  | false => rw [if_neg (by decide), sq_j1 k q x false hq0 hq1 hx0 hx1]; rfl
  | true => rw [if_pos rfl, sq_j1 k q x _ hq0 hq1 hx0 hx1, Bool.true_and]
theorem squared {m y : Nat} (k : Nat) (hk : 2 ≤ k) (up : Bool) (F : Fl m y) (hy : y ≤ 17179869184) :
    ∃ m' y' : Nat, backfilllaw07_squared.f k (m : Int) (-63 - (y : Int)) up = some ((m' : Int), -63 - (y' : Int)) ∧ Fl m' y' ∧ y' ≤ 2 * y ∧
      (up = false → m' * 9223372036854775808 * (2 ^ y * 2 ^ y) ≤ m * m * 2 ^ y') ∧ (up = true → m * m * 2 ^ y' ≤ m' * 9223372036854775808 * (2 ^ y * 2 ^ y)) := by
  obtain ⟨k, rfl⟩ : ∃ j, k = j + 2 := ⟨k - 2, by omega⟩
  obtain ⟨f0, f1, f2⟩ := F
  have hp : ∃ p : Nat, m * m = p := ⟨_, rfl⟩
  obtain ⟨p, hp⟩ := hp
  have p0 : 85070591730234615865843651857942052864 ≤ p := by rw [← hp]; exact Nat.mul_le_mul f0 f0
  have p1 : p ≤ 340282366920938463426481119284349108225 := by rw [← hp]; exact Nat.mul_le_mul (show m ≤ 18446744073709551615 by omega) (show m ≤ 18446744073709551615 by omega)
  have pz : y = 0 → p = 85070591730234615865843651857942052864 := by
    intro h
    rw [← hp, f2 h]
  have ep : (m : Int) * (m : Int) = (p : Int) := by rw [← hp]; simp
  unfold backfilllaw07_squared.f
  rw [rmul ⟨by omega, by omega⟩ ⟨by omega, by omega⟩, ep]
  simp only [Option.bind_some]
  rw [hp]
  by_cases c : p < 170141183460469231731687303715884105728
  · -- the top bit is not set
    have u1 : U ((p : Int) / 18446744073709551616) := ⟨by omega, by omega⟩
    have u2 : U ((p : Int) % 18446744073709551616) := ⟨by omega, by omega⟩
    rw [if_pos (by omega), shl1V u1 u2]
    simp only [Option.bind_some]
    have ev : V ((p : Int) / 18446744073709551616) ((p : Int) % 18446744073709551616) = (p : Int) := by unfold V; omega
    rw [ev, show (2 * (p : Int) % 340282366920938463463374607431768211456) = ((2 * p : Nat) : Int) by omega]
    rw [show wrap64 (2 * (-63 - (y : Int))) = -126 - 2 * (y : Int) by rw [wrap64_in (by omega) (by omega)]; omega]
    rw [show wrap64 (-126 - 2 * (y : Int) + 64) = -62 - 2 * (y : Int) by rw [wrap64_in (by omega) (by omega)]; omega]
    rw [show wrap64 (-62 - 2 * (y : Int) - 1) = -63 - ((2 * y : Nat) : Int) by rw [wrap64_in (by omega) (by omega)]; omega]
    rw [sq_j0 k up _ _ _ (by omega) (by omega) (by omega) (by omega)]
    by_cases r : (up && decide (2 * (p : Int) % 18446744073709551616 > 0)) = true
    · rw [if_pos r]
      have hu : up = true := by cases up <;> simp_all
      have hr : 2 * (p : Int) % 18446744073709551616 > 0 := by rw [hu] at r; simpa using r
      by_cases o : ((2 * p : Nat) : Int) / 18446744073709551616 = 18446744073709551615
      · rw [if_pos o]
        have y1 : 1 ≤ y := by
          rcases Nat.eq_zero_or_pos y with h | h
          · have := pz h
            omega
          · exact h
        refine ⟨9223372036854775808, 2 * y - 1, by congr 2 <;> omega, ⟨by omega, by omega, by omega⟩, by omega, (fun h => by rw [hu] at h; cases h), fun _ => ?_⟩
        rw [dbl1 y1]
        generalize 2 ^ (2 * y - 1) = z
        have := Nat.mul_le_mul_right z (Nat.le_of_lt c)
        omega
      · rw [if_neg o]
        refine ⟨2 * p / 18446744073709551616 + 1, 2 * y, by congr 2 <;> omega, ⟨by omega, by omega, fun h => ?_⟩, by omega, (fun h => by rw [hu] at h; cases h), fun _ => ?_⟩
        · have := pz (by omega)
          omega
        · rw [dbl]
          exact Nat.mul_le_mul_right _ (by omega)
    · rw [if_neg r]
      refine ⟨2 * p / 18446744073709551616, 2 * y, by congr 2, ⟨by omega, by omega, fun h => ?_⟩, by omega, fun _ => ?_, fun h => ?_⟩
      · have := pz (by omega)
        omega
      · rw [dbl]
        exact Nat.mul_le_mul_right _ (by omega)
      · have hr : ¬ 2 * (p : Int) % 18446744073709551616 > 0 := by rw [h] at r; simpa using r
        rw [dbl]
        exact Nat.mul_le_mul_right _ (by omega)
  · have y1 : 1 ≤ y := by
      rcases Nat.eq_zero_or_pos y with h | h
      · have := pz h
        omega
      · exact h
    rw [if_neg (by omega)]
    rw [show wrap64 (2 * (-63 - (y : Int))) = -126 - 2 * (y : Int) by rw [wrap64_in (by omega) (by omega)]; omega]
    rw [show wrap64 (-126 - 2 * (y : Int) + 64) = -63 - ((2 * y - 1 : Nat) : Int) by rw [wrap64_in (by omega) (by omega)]; omega]
    rw [sq_j0 k up _ _ _ (by omega) (by omega) (by omega) (by omega)]
    by_cases r : (up && decide ((p : Int) % 18446744073709551616 > 0)) = true
    · rw [if_pos r, if_neg (by omega)]
      have hu : up = true := by cases up <;> simp_all
      refine ⟨p / 18446744073709551616 + 1, 2 * y - 1, by congr 2, ⟨by omega, by omega, by omega⟩, by omega, (fun h => by rw [hu] at h; cases h), fun _ => ?_⟩
      rw [dbl1 y1, show (p / 18446744073709551616 + 1) * 9223372036854775808 * (2 * 2 ^ (2 * y - 1)) = (p / 18446744073709551616 + 1) * 18446744073709551616 * 2 ^ (2 * y - 1) by
        generalize 2 ^ (2 * y - 1) = z; generalize p / 18446744073709551616 + 1 = w; grind]
      exact Nat.mul_le_mul_right _ (by omega)
    · rw [if_neg r]
      refine ⟨p / 18446744073709551616, 2 * y - 1, by congr 2, ⟨by omega, by omega, by omega⟩, by omega, fun _ => ?_, fun h => ?_⟩
      · rw [dbl1 y1, show p / 18446744073709551616 * 9223372036854775808 * (2 * 2 ^ (2 * y - 1)) = p / 18446744073709551616 * 18446744073709551616 * 2 ^ (2 * y - 1) by
          generalize 2 ^ (2 * y - 1) = z; generalize p / 18446744073709551616 = w; grind]
        exact Nat.mul_le_mul_right _ (by omega)
      · have hr : ¬ (p : Int) % 18446744073709551616 > 0 := by rw [h] at r; simpa using r
        rw [dbl1 y1, show p / 18446744073709551616 * 9223372036854775808 * (2 * 2 ^ (2 * y - 1)) = p / 18446744073709551616 * 18446744073709551616 * 2 ^ (2 * y - 1) by
          generalize 2 ^ (2 * y - 1) = z; generalize p / 18446744073709551616 = w; grind]
        exact Nat.mul_le_mul_right _ (by omega)
theorem normal {n : Nat} (k : Nat) (hk : 4 ≤ k) (h0 : 2305843009213693952 ≤ n) (h1 : n ≤ 9223372036854775808) :
    ∃ m y : Nat, backfilllaw07_normal.f k (n : Int) = some ((m : Int), -63 - (y : Int)) ∧ Fl m y ∧ y ≤ 2 ∧ m = n * 2 ^ y := by
  obtain ⟨k, rfl⟩ : ∃ j, k = j + 4 := ⟨k - 4, by omega⟩
  unfold backfilllaw07_normal.f
  by_cases c : n = 9223372036854775808
  · refine ⟨n, 0, ?_, ⟨by omega, by omega, fun _ => c⟩, by omega, by omega⟩
    simp only [backfilllaw07_normal.l0]
    rw [if_pos (by decide), if_neg (by omega)]
    rfl
  · have e1 : wrap64 (0 + 1) = 1 := by rw [wrap64_in (by omega) (by omega)]; omega
    have e2 : wrap64 (-63 - 1) = -64 := by rw [wrap64_in (by omega) (by omega)]; omega
    have e3 : wrap64 (-64 - 1) = -65 := by rw [wrap64_in (by omega) (by omega)]; omega
    have e4 : wrap64 (1 + 1) = 2 := by rw [wrap64_in (by omega) (by omega)]; omega
    by_cases d : 4611686018427387904 ≤ n
    · refine ⟨n * 2, 1, ?_, ⟨by omega, by omega, by omega⟩, by omega, by omega⟩
      simp only [backfilllaw07_normal.l0]
      rw [if_pos (by decide), if_pos (by omega), w64_in (x := (n : Int) * 2) (by omega) (by omega), e1, e2, if_pos (by decide), if_neg (by omega)]
      congr 2
    · refine ⟨n * 4, 2, ?_, ⟨by omega, by omega, by omega⟩, by omega, by omega⟩
      simp only [backfilllaw07_normal.l0]
      rw [if_pos (by decide), if_pos (by omega), w64_in (x := (n : Int) * 2) (by omega) (by omega), e1, e2, if_pos (by decide), if_pos (by omega), w64_in (x := (n : Int) * 2 * 2) (by omega) (by omega), e3, e4, if_pos (by decide), if_neg (by omega)]
      congr 2
      omega
end Go.Proofs.YtmgmggkebmgafaaDoor.Q
