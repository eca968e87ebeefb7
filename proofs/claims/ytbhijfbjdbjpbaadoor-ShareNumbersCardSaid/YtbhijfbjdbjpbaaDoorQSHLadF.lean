import Derived.Test.YtbhijfbjdbjpbaaDoorQSHLadN
namespace Go.Proofs.YtbhijfbjdbjpbaaDoor.Q

def gg (e : Nat) : Nat := hgo 32 e 9223372036854775808
def HH (e : Nat) : Nat := if e / 4294967296 ≥ 63 then 0 else gg e / 2 ^ (e / 4294967296)
theorem gg_le (e : Nat) : gg e ≤ 9223372036854775808 := hgo_le (by decide)
theorem gg_ge (e : Nat) : 4611686018427387904 ≤ gg e := hgo_ge (by decide) Good.start
theorem gg_upper (e : Nat) : gg e * BB ^ 32 ≤ 9223372036854775808 * XX 32 e := hgo_upper _ (by decide)
theorem gg_lower (e : Nat) : 9223372036854775808 * XX 32 e ≤ (gg e + 32) * BB ^ 32 := hgo_lower _ (by decide)
theorem HH_le (e : Nat) : HH e ≤ 9223372036854775808 := by
  unfold HH
  split
  · omega
  · exact Nat.le_trans (Nat.div_le_self _ _) (gg_le e)
theorem XX_sqL {e : Nat} : ∀ {d : Nat}, d ≤ 31 → BB ^ d * XX (d + 1) (2 * e) * 4611686018427387903 ^ d ≤ XX d e * XX d e * BB * 4611686018427387904 ^ d
  | 0, _ => by
    have : XX (0 + 1) (2 * e) = BB := by
      rw [XX, XX]
      unfold fac
      rw [if_pos (bit_two0 e)]
      rfl
    rw [this, XX]
    decide
  | d + 1, h => by
    have ih := XX_sqL (e := e) (d := d) (by omega)
    have s := (fac_sq (e := e) (d := d) (by omega)).2
    rw [XX, XX, Nat.pow_succ, Nat.pow_succ, Nat.pow_succ]
    calc BB ^ d * BB * (fac (2 * e) (d + 1) * XX (d + 1) (2 * e)) * (4611686018427387903 ^ d * 4611686018427387903)
        = BB * fac (2 * e) (d + 1) * 4611686018427387903 * (BB ^ d * XX (d + 1) (2 * e) * 4611686018427387903 ^ d) := by
          generalize BB = x; generalize fac (2 * e) (d + 1) = y; generalize XX (d + 1) (2 * e) = z; generalize 4611686018427387903 = u; ac_rfl
      _ ≤ fac e d * fac e d * 4611686018427387904 * (XX d e * XX d e * BB * 4611686018427387904 ^ d) := Nat.mul_le_mul s ih
      _ = fac e d * XX d e * (fac e d * XX d e) * BB * (4611686018427387904 ^ d * 4611686018427387904) := by
          generalize BB = x; generalize fac e d = y; generalize XX d e = z; generalize 4611686018427387904 = u; ac_rfl
theorem XX_sqL32 (e : Nat) : BB ^ 32 * XX 32 (2 * e) * 4611686018427387903 ^ 32 ≤ XX 32 e * XX 32 e * 2 ^ bit e 31 * 4611686018427387904 ^ 32 := by
  have ih := XX_sqL (e := e) (d := 31) (by omega)
  have s := (fac_sq31 e).2
  have h : BB ^ 32 * XX 32 (2 * e) * 4611686018427387903 ^ 32 * BB ≤ XX 32 e * XX 32 e * 2 ^ bit e 31 * 4611686018427387904 ^ 32 * BB := by
    rw [show XX 32 e = fac e 31 * XX 31 e from rfl, Nat.pow_succ (n := 4611686018427387903) (m := 31), Nat.pow_succ (n := 4611686018427387904) (m := 31), Nat.pow_succ (n := BB) (m := 31)]
    calc BB ^ 31 * BB * XX 32 (2 * e) * (4611686018427387903 ^ 31 * 4611686018427387903) * BB
        = BB * BB * 4611686018427387903 * (BB ^ 31 * XX 32 (2 * e) * 4611686018427387903 ^ 31) := by
          generalize BB = x; generalize XX 32 (2 * e) = z; generalize 4611686018427387903 = u; ac_rfl
      _ ≤ fac e 31 * fac e 31 * 2 ^ bit e 31 * 4611686018427387904 * (XX 31 e * XX 31 e * BB * 4611686018427387904 ^ 31) := Nat.mul_le_mul s ih
      _ = fac e 31 * XX 31 e * (fac e 31 * XX 31 e) * 2 ^ bit e 31 * (4611686018427387904 ^ 31 * 4611686018427387904) * BB := by
          generalize BB = x; generalize fac e 31 = y; generalize XX 31 e = z; generalize 2 ^ bit e 31 = v; generalize 4611686018427387904 = u; ac_rfl
  exact Nat.le_of_mul_le_mul_right h (by decide)
theorem bpos : 0 < BB ^ 32 * BB ^ 32 := by decide
theorem gg_sq (e : Nat) : gg e * gg e * 2 ^ bit e 31 ≤ 9223372036854775808 * (gg (2 * e) + 32) := by
  have u := gg_upper e
  have l := gg_lower (2 * e)
  have q := XX_sq32 e
  have h : gg e * gg e * 2 ^ bit e 31 * (BB ^ 32 * BB ^ 32) ≤ 9223372036854775808 * (gg (2 * e) + 32) * (BB ^ 32 * BB ^ 32) := by
    calc gg e * gg e * 2 ^ bit e 31 * (BB ^ 32 * BB ^ 32) = gg e * BB ^ 32 * (gg e * BB ^ 32) * 2 ^ bit e 31 := by
          generalize BB ^ 32 = x; generalize gg e = y; generalize 2 ^ bit e 31 = z; ac_rfl
      _ ≤ 9223372036854775808 * XX 32 e * (9223372036854775808 * XX 32 e) * 2 ^ bit e 31 := Nat.mul_le_mul_right _ (Nat.mul_le_mul u u)
      _ = 9223372036854775808 * 9223372036854775808 * (XX 32 e * XX 32 e * 2 ^ bit e 31) := by
          generalize XX 32 e = y; generalize 2 ^ bit e 31 = z; generalize 9223372036854775808 = w; ac_rfl
      _ ≤ 9223372036854775808 * 9223372036854775808 * (BB ^ 32 * XX 32 (2 * e)) := Nat.mul_le_mul_left _ q
      _ = 9223372036854775808 * BB ^ 32 * (9223372036854775808 * XX 32 (2 * e)) := by
          generalize BB ^ 32 = x; generalize XX 32 (2 * e) = y; generalize 9223372036854775808 = w; ac_rfl
      _ ≤ 9223372036854775808 * BB ^ 32 * ((gg (2 * e) + 32) * BB ^ 32) := Nat.mul_le_mul_left _ l
      _ = 9223372036854775808 * (gg (2 * e) + 32) * (BB ^ 32 * BB ^ 32) := by
          generalize BB ^ 32 = x; generalize gg (2 * e) + 32 = y; generalize 9223372036854775808 = w; ac_rfl
  exact Nat.le_of_mul_le_mul_right h bpos
theorem bern : 144115188075855871 * 4611686018427387904 ^ 32 ≤ 4611686018427387903 ^ 32 * 144115188075855872 := by decide +kernel
theorem gg_sqL (e : Nat) : 9223372036854775808 * gg (2 * e) * 144115188075855871 ≤ (gg e + 32) * (gg e + 32) * 2 ^ bit e 31 * 144115188075855872 := by
  have u := gg_upper (2 * e)
  have l := gg_lower e
  have q := XX_sqL32 e
  have h : 9223372036854775808 * gg (2 * e) * 4611686018427387903 ^ 32 * (BB ^ 32 * BB ^ 32) ≤ (gg e + 32) * (gg e + 32) * 2 ^ bit e 31 * 4611686018427387904 ^ 32 * (BB ^ 32 * BB ^ 32) := by
    calc 9223372036854775808 * gg (2 * e) * 4611686018427387903 ^ 32 * (BB ^ 32 * BB ^ 32) = 9223372036854775808 * (gg (2 * e) * BB ^ 32) * (BB ^ 32 * 4611686018427387903 ^ 32) := by
          generalize BB ^ 32 = x; generalize gg (2 * e) = y; generalize 4611686018427387903 ^ 32 = z; generalize 9223372036854775808 = w; ac_rfl
      _ ≤ 9223372036854775808 * (9223372036854775808 * XX 32 (2 * e)) * (BB ^ 32 * 4611686018427387903 ^ 32) := Nat.mul_le_mul_right _ (Nat.mul_le_mul_left _ u)
      _ = 9223372036854775808 * 9223372036854775808 * (BB ^ 32 * XX 32 (2 * e) * 4611686018427387903 ^ 32) := by
          generalize BB ^ 32 = x; generalize XX 32 (2 * e) = y; generalize 4611686018427387903 ^ 32 = z; generalize 9223372036854775808 = w; ac_rfl
      _ ≤ 9223372036854775808 * 9223372036854775808 * (XX 32 e * XX 32 e * 2 ^ bit e 31 * 4611686018427387904 ^ 32) := Nat.mul_le_mul_left _ q
      _ = 9223372036854775808 * XX 32 e * (9223372036854775808 * XX 32 e) * (2 ^ bit e 31 * 4611686018427387904 ^ 32) := by
          generalize XX 32 e = y; generalize 2 ^ bit e 31 = v; generalize 4611686018427387904 ^ 32 = z; generalize 9223372036854775808 = w; ac_rfl
      _ ≤ (gg e + 32) * BB ^ 32 * ((gg e + 32) * BB ^ 32) * (2 ^ bit e 31 * 4611686018427387904 ^ 32) := Nat.mul_le_mul_right _ (Nat.mul_le_mul l l)
      _ = (gg e + 32) * (gg e + 32) * 2 ^ bit e 31 * 4611686018427387904 ^ 32 * (BB ^ 32 * BB ^ 32) := by
          generalize BB ^ 32 = x; generalize gg e + 32 = y; generalize 2 ^ bit e 31 = v; generalize 4611686018427387904 ^ 32 = z; ac_rfl
  have h2 := Nat.le_of_mul_le_mul_right h bpos
  have h3 : 9223372036854775808 * gg (2 * e) * 144115188075855871 * 4611686018427387904 ^ 32 ≤ (gg e + 32) * (gg e + 32) * 2 ^ bit e 31 * 144115188075855872 * 4611686018427387904 ^ 32 := by
    calc 9223372036854775808 * gg (2 * e) * 144115188075855871 * 4611686018427387904 ^ 32 = 9223372036854775808 * gg (2 * e) * (144115188075855871 * 4611686018427387904 ^ 32) := by rw [Nat.mul_assoc (9223372036854775808 * gg (2 * e))]
      _ ≤ 9223372036854775808 * gg (2 * e) * (4611686018427387903 ^ 32 * 144115188075855872) := Nat.mul_le_mul_left _ bern
      _ = 9223372036854775808 * gg (2 * e) * 4611686018427387903 ^ 32 * 144115188075855872 := by rw [Nat.mul_assoc (9223372036854775808 * gg (2 * e))]
      _ ≤ (gg e + 32) * (gg e + 32) * 2 ^ bit e 31 * 4611686018427387904 ^ 32 * 144115188075855872 := Nat.mul_le_mul_right _ h2
      _ = (gg e + 32) * (gg e + 32) * 2 ^ bit e 31 * 144115188075855872 * 4611686018427387904 ^ 32 := by rw [Nat.mul_right_comm]
  exact Nat.le_of_mul_le_mul_right h3 (by decide)
/-- A greater exponent never gives more. -/
theorem HH_mono {e f : Nat} (h : e ≤ f) : HH f ≤ HH e := by
  unfold HH
  have hd : e / 4294967296 ≤ f / 4294967296 := Nat.div_le_div_right h
  by_cases cf : f / 4294967296 ≥ 63
  · rw [if_pos cf]; exact Nat.zero_le _
  · rw [if_neg cf, if_neg (by omega)]
    by_cases c : e / 4294967296 = f / 4294967296
    · rw [c]
      apply Nat.div_le_div_right
      exact hgo_mono (by decide) Good.start (by simp only [Nat.reducePow]; omega)
    · obtain ⟨m, hm⟩ : ∃ m, f / 4294967296 = e / 4294967296 + 1 + m := ⟨f / 4294967296 - e / 4294967296 - 1, by omega⟩
      rw [hm]
      refine Nat.le_trans (Nat.div_le_div_left (Nat.pow_le_pow_right (by decide) (Nat.le_add_right _ m)) (Nat.pow_pos (by decide))) ?_
      rw [Nat.pow_succ, Nat.mul_comm, ← Nat.div_div_eq_div_mul]
      apply Nat.div_le_div_right
      have := gg_le f; have := gg_ge e
      omega
theorem HH_whole {n : Nat} (h : n < 63) : HH (n * 4294967296) = 9223372036854775808 / 2 ^ n := by
  unfold HH
  rw [show n * 4294967296 / 4294967296 = n by omega, if_neg (by omega)]
  unfold gg
  rw [hgo_zero (by simp only [Nat.reducePow]; omega)]
theorem two_div (e : Nat) : 2 * e / 4294967296 = 2 * (e / 4294967296) + bit e 31 := by
  unfold bit
  simp only [Nat.reducePow]
  omega
/-- The lower bound's square is not beyond the upper bound of twice the exponent. -/
theorem HH_sq (e : Nat) : HH e * HH e ≤ 9223372036854775808 * (HH (2 * e) + 81) := by
  have hb := bit_lt e 31
  unfold HH
  rw [two_div]
  by_cases c : e / 4294967296 ≥ 63
  · rw [if_pos c]; simp
  · rw [if_neg c]
    have l1 := Nat.div_mul_le_self (gg e) (2 ^ (e / 4294967296))
    generalize hn : e / 4294967296 = n at *
    generalize hl : gg e / 2 ^ n = l at *
    by_cases c2 : 2 * n + bit e 31 ≥ 63
    · rw [if_pos c2]
      have h1 : l * 2147483648 ≤ 9223372036854775808 := by
        have : 2 ^ 31 ≤ 2 ^ n := Nat.pow_le_pow_right (by decide) (by omega)
        have := Nat.mul_le_mul_left l this
        have := gg_le e
        simp only [Nat.reducePow] at *
        omega
      have h2 : l ≤ 4294967296 := by omega
      have h3 : l * l ≤ 4294967296 * 4294967296 := Nat.mul_le_mul h2 h2
      omega
    · rw [if_neg c2]
      have g := gg_sq e
      have l2 := Nat.lt_div_mul_add (a := gg (2 * e)) (b := 2 ^ (2 * n + bit e 31)) (Nat.pow_pos (by decide))
      generalize gg (2 * e) / 2 ^ (2 * n + bit e 31) = l2' at *
      have hM : 0 < 2 ^ (2 * n + bit e 31) := Nat.pow_pos (by decide)
      have h1 : l * l * 2 ^ (2 * n + bit e 31) ≤ gg e * gg e * 2 ^ bit e 31 := by
        rw [Nat.pow_add, Nat.two_mul, Nat.pow_add, ← Nat.mul_assoc, ← Nat.mul_mul_mul_comm]
        exact Nat.mul_le_mul_right _ (Nat.mul_le_mul l1 l1)
      have h2 : l * l * 2 ^ (2 * n + bit e 31) ≤ 9223372036854775808 * (l2' + 81) * 2 ^ (2 * n + bit e 31) := by
        refine Nat.le_trans h1 (Nat.le_trans g ?_)
        rw [Nat.mul_assoc]
        apply Nat.mul_le_mul_left
        rw [Nat.add_mul]
        omega
      exact Nat.le_of_mul_le_mul_right h2 hM
/-- The upper bound's square is not below the lower bound of twice the exponent. -/
theorem HH_sqL (e : Nat) : 9223372036854775808 * HH (2 * e) ≤ (HH e + 81) * (HH e + 81) := by
  have hb := bit_lt e 31
  unfold HH
  rw [two_div]
  generalize hn : e / 4294967296 = n at *
  by_cases c2 : 2 * n + bit e 31 ≥ 63
  · rw [if_pos c2]; simp
  · rw [if_neg c2, if_neg (by omega)]
    have g := gg_sqL e
    have l1 := Nat.lt_div_mul_add (a := gg e) (b := 2 ^ n) (Nat.pow_pos (by decide))
    have l0 : gg e / 2 ^ n ≤ 9223372036854775808 := Nat.le_trans (Nat.div_le_self _ _) (gg_le e)
    have l2 := Nat.div_mul_le_self (gg (2 * e)) (2 ^ (2 * n + bit e 31))
    generalize gg (2 * e) / 2 ^ (2 * n + bit e 31) = L2 at *
    generalize gg e / 2 ^ n = l at *
    have hM : 0 < 2 ^ (2 * n + bit e 31) := Nat.pow_pos (by decide)
    have hN : 0 < 2 ^ n := Nat.pow_pos (by decide)
    have hg : gg e + 32 ≤ (l + 33) * 2 ^ n := by
      have : 32 * 1 ≤ 32 * 2 ^ n := Nat.mul_le_mul_left _ hN
      rw [show l + 33 = l + 32 + 1 from rfl, Nat.add_mul, Nat.add_mul, Nat.one_mul]
      omega
    have h1 : 9223372036854775808 * L2 * 144115188075855871 * 2 ^ (2 * n + bit e 31) ≤ (l + 33) * (l + 33) * 144115188075855872 * 2 ^ (2 * n + bit e 31) := by
      calc 9223372036854775808 * L2 * 144115188075855871 * 2 ^ (2 * n + bit e 31) = 9223372036854775808 * (L2 * 2 ^ (2 * n + bit e 31)) * 144115188075855871 := by
            generalize 2 ^ (2 * n + bit e 31) = x; generalize 9223372036854775808 = w; generalize 144115188075855871 = v; ac_rfl
        _ ≤ 9223372036854775808 * gg (2 * e) * 144115188075855871 := Nat.mul_le_mul_right _ (Nat.mul_le_mul_left _ l2)
        _ ≤ (gg e + 32) * (gg e + 32) * 2 ^ bit e 31 * 144115188075855872 := g
        _ ≤ (l + 33) * 2 ^ n * ((l + 33) * 2 ^ n) * 2 ^ bit e 31 * 144115188075855872 := Nat.mul_le_mul_right _ (Nat.mul_le_mul_right _ (Nat.mul_le_mul hg hg))
        _ = (l + 33) * (l + 33) * 144115188075855872 * 2 ^ (2 * n + bit e 31) := by
            rw [Nat.pow_add, Nat.two_mul, Nat.pow_add]
            generalize l + 33 = y; generalize 2 ^ n = x; generalize 2 ^ bit e 31 = z; generalize 144115188075855872 = v; ac_rfl
    have h2 := Nat.le_of_mul_le_mul_right h1 hM
    have hy : l + 33 ≤ 9223372036854775841 := by omega
    have hyy : (l + 33) * (l + 33) ≤ 9223372036854775841 * (l + 33) := Nat.mul_le_mul_right _ hy
    have h3 : 2 * L2 ≤ 3 * (l + 33) := by
      rcases Nat.lt_or_ge (3 * (l + 33)) (2 * L2) with c | c
      · exfalso; omega
      · exact c
    have e1 : (l + 81) * (l + 81) = (l + 33) * (l + 33) + 96 * (l + 33) + 2304 := by
      rw [show l + 81 = l + 33 + 48 from rfl, Nat.add_mul, Nat.mul_add]
      omega
    rw [e1]
    omega
end Go.Proofs.YtbhijfbjdbjpbaaDoor.Q
