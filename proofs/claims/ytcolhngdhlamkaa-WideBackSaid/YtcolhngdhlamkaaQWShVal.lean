import Derived.Test.YtcolhngdhlamkaaQWShA
import Derived.Test.YtcolhngdhlamkaaGWx4
namespace Go.Proofs.Ytcolhngdhlamkaa.Q
open Go.RowKit Go.Proofs.Ytcolhngdhlamkaa.GW Go.Proofs.YtcolhngdhlamkaaW.PrintWords Go.Proofs.YtcolhngdhlamkaaW.PrintLast Go.Proofs.YtcolhngdhlamkaaW.PrintMore
/-- A number of 128 bits as its two words. -/
def wordsV (x : Int) : Int × Int := (x / 18446744073709551616, x % 18446744073709551616)
theorem V_words (x : Int) : V (x / 18446744073709551616) (x % 18446744073709551616) = x := by unfold V; omega
theorem mul_pow_div (x : Int) (n : Nat) (h : n ≤ 64) : x * 2 ^ n / 18446744073709551616 = x / 2 ^ (64 - n) := by
  rw [← pow_split n h, Int.mul_comm (2 ^ n) (2 ^ (64 - n))]
  exact Int.mul_ediv_mul_of_pos_left x _ (pow_pos_ n)
theorem V_bd {h l : Int} (hh : U h) (hl : U l) : 0 ≤ V h l ∧ V h l < 340282366920938463463374607431768211456 := by
  obtain ⟨a, b⟩ := hh
  obtain ⟨c, d⟩ := hl
  unfold V
  omega
theorem shlA_val {h l n : Int} (hh : U h) (hl : U l) (n0 : 0 ≤ n) (n1 : n < 128) : shlA h l n = wordsV (V h l * 2 ^ n.toNat % 340282366920938463463374607431768211456) := by
  unfold shlA wordsV
  by_cases c1 : n ≤ 0
  · obtain rfl : n = 0 := by omega
    obtain ⟨a, b⟩ := V_bd hh hl
    rw [if_pos c1, show ((0 : Int).toNat) = 0 from rfl, Int.pow_zero, Int.mul_one, Int.emod_eq_of_lt a b, V_hi hl, V_lo hl]
  · rw [if_neg c1]
    by_cases c2 : n < 64
    · rw [if_pos c2]
      generalize hm : n.toNat = m
      have s := shl_sum hh hl m (by omega)
      have q := mul_pow_div l m (by omega)
      unfold shlV
      unfold V
      rw [← q] at s ⊢
      rw [Int.add_mul, Int.mul_right_comm]
      generalize h * 2 ^ m = A at *
      generalize l * 2 ^ m = B at *
      refine Prod.ext ?_ ?_
      · simp only []
        omega
      · simp only []
        omega
    · rw [if_neg c2, if_pos n1]
      obtain ⟨m, rfl⟩ : ∃ m : Nat, n = m + 64 := ⟨(n - 64).toNat, by omega⟩
      rw [show ((m : Int) + 64 - 64) = (m : Int) by omega, shl_at m (by omega), show ((m : Int) + 64).toNat = m + 64 by omega, Int.pow_add]
      unfold V
      rw [show (h * 18446744073709551616 + l) * (2 ^ m * 2 ^ 64) = (h * 2 ^ m) * 340282366920938463463374607431768211456 + (l * 2 ^ m) * 18446744073709551616 by
        have e : (2 : Int) ^ 64 = 18446744073709551616 := by decide
        rw [e]
        generalize (2 : Int) ^ m = z
        grind]
      generalize h * 2 ^ m = A at *
      generalize l * 2 ^ m = B at *
      refine Prod.ext ?_ ?_
      · simp only []
        omega
      · simp only []
        omega
theorem shrA_val {h l n : Int} (hh : U h) (hl : U l) (n0 : 0 ≤ n) (n1 : n < 128) : shrA h l n = wordsV (V h l / 2 ^ n.toNat) := by
  unfold shrA wordsV
  by_cases c1 : n ≤ 0
  · obtain rfl : n = 0 := by omega
    rw [if_pos c1, show ((0 : Int).toNat) = 0 from rfl, Int.pow_zero, Int.ediv_one, V_hi hl, V_lo hl]
  · rw [if_neg c1]
    by_cases c2 : n < 64
    · rw [if_pos c2]
      generalize hm : n.toNat = m
      have s := shl_sum hl hh (64 - m) (by omega)
      have s' := shl_sum hh hl (64 - m) (by omega)
      have q := mul_pow_div h (64 - m) (by omega)
      rw [show 64 - (64 - m) = m by omega] at s s' q
      have p := pow_pos_ m
      have hs := pow_split m (by omega)
      unfold shrV
      have e : V h l / 2 ^ m = h * 2 ^ (64 - m) + l / 2 ^ m := by
        unfold V
        rw [← hs, show h * (2 ^ m * 2 ^ (64 - m)) + l = l + 2 ^ m * (h * 2 ^ (64 - m)) by
          generalize (2 : Int) ^ m = y
          generalize (2 : Int) ^ (64 - m) = z
          grind, Int.add_mul_ediv_left _ _ (by omega)]
        omega
      rw [e, ← q]
      have d0 : 0 ≤ l / 2 ^ m := Int.ediv_nonneg hl.1 (by omega)
      generalize h * 2 ^ (64 - m) = A at *
      generalize l / 2 ^ m = B at *
      refine Prod.ext ?_ ?_
      · simp only []
        omega
      · simp only []
        omega
    · rw [if_neg c2, if_pos n1]
      obtain ⟨m, rfl⟩ : ∃ m : Nat, n = m + 64 := ⟨(n - 64).toNat, by omega⟩
      rw [show ((m : Int) + 64 - 64) = (m : Int) by omega, shr_at m (by omega), show ((m : Int) + 64).toNat = 64 + m by omega, Int.pow_add]
      have p := pow_pos_ m
      rw [← Int.ediv_ediv_of_nonneg (by decide), show (2 : Int) ^ 64 = 18446744073709551616 from by decide, V_hi hl]
      have d0 : 0 ≤ h / 2 ^ m := Int.ediv_nonneg hh.1 (by omega)
      have d1 : h / 2 ^ m ≤ h := Int.ediv_le_self _ hh.1
      obtain ⟨a, b⟩ := hh
      refine Prod.ext ?_ ?_
      · simp only []
        omega
      · simp only []
        omega
end Go.Proofs.Ytcolhngdhlamkaa.Q
