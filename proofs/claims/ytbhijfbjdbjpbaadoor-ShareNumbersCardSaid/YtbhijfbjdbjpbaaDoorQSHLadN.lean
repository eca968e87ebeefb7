import Derived.RowKit
namespace Go.Proofs.YtbhijfbjdbjpbaaDoor.Q

/-! The ladder over natural numbers: powers of one half by rungs, and how far they are off. -/
def rungsN : List Nat := [13043817825332782212, 15511800964685064948, 16915738899553466670, 17664662643191237676, 18051468387014017850, 18248035989933441396, 18347121020861646923, 18396865112328554660, 18421787711448657617, 18434261669329232139, 18440501815349552981, 18443622680442407997, 18445183311048607331, 18445963675871538003, 18446353870663572144, 18446548971154807801, 18446646522174239824, 18446695297877410578, 18446719685777359790, 18446731879739425373, 18446737976723480911, 18446741025216264367, 18446742549462845017, 18446743311586182573, 18446743692647863158, 18446743883178706403, 18446743978444128763, 18446744026076840128, 18446744049893195856, 18446744061801373732, 18446744067755462673, 18446744070732507144]
/-- The rung of bit d of the exponent's 32 bits behind the point. -/
def rung (d : Nat) : Nat := rungsN.getD (31 - d) 0
abbrev BB : Nat := 18446744073709551616
def bit (e d : Nat) : Nat := e / 2 ^ d % 2
/-- What the lowest d bits of e leave of t. -/
def hgo : Nat → Nat → Nat → Nat
  | 0, _, t => t
  | d + 1, e, t => if bit e d = 0 then hgo d e t else hgo d e (t * rung d / BB)
/-- A bit's factor, by BB. -/
def fac (e d : Nat) : Nat := if bit e d = 0 then BB else rung d
def XX : Nat → Nat → Nat
  | 0, _ => 1
  | d + 1, e => fac e d * XX d e
/-- All ones. -/
def OO : Nat → Nat
  | 0 => 1
  | d + 1 => rung d * OO d
theorem rung_le : ∀ d : Fin 32, rung d.val < BB ∧ 13043817825332782212 ≤ rung d.val := by decide +kernel
theorem rung_lt {d : Nat} (h : d < 32) : rung d < BB := (rung_le ⟨d, h⟩).1
theorem rung_ge {d : Nat} (h : d < 32) : 13043817825332782212 ≤ rung d := (rung_le ⟨d, h⟩).2
theorem fac_le {e d : Nat} (h : d < 32) : fac e d ≤ BB := by unfold fac; split; exact Nat.le_refl _; exact Nat.le_of_lt (rung_lt h)
theorem fac_ge {e d : Nat} (h : d < 32) : rung d ≤ fac e d := by unfold fac; split; exact Nat.le_of_lt (rung_lt h); exact Nat.le_refl _
theorem XX_le {e : Nat} : ∀ {d : Nat}, d ≤ 32 → XX d e ≤ BB ^ d
  | 0, _ => Nat.le_refl _
  | d + 1, h => by rw [XX, Nat.pow_succ, Nat.mul_comm (BB ^ d)]; exact Nat.mul_le_mul (fac_le (by omega)) (XX_le (by omega))
theorem OO_le {e : Nat} : ∀ {d : Nat}, d ≤ 32 → OO d ≤ XX d e
  | 0, _ => Nat.le_refl _
  | d + 1, h => by rw [XX, OO]; exact Nat.mul_le_mul (fac_ge (by omega)) (OO_le (by omega))
theorem OO_le' {d : Nat} (h : d ≤ 32) : OO d ≤ BB ^ d := Nat.le_trans (OO_le (e := 0) h) (XX_le h)
theorem hgo_le {e : Nat} : ∀ {d : Nat} {t : Nat}, d ≤ 32 → hgo d e t ≤ t
  | 0, _, _ => Nat.le_refl _
  | d + 1, t, h => by
    rw [hgo]
    split
    · exact hgo_le (by omega)
    · refine Nat.le_trans (hgo_le (by omega)) ?_
      apply Nat.div_le_of_le_mul
      rw [Nat.mul_comm BB]
      exact Nat.mul_le_mul_left _ (Nat.le_of_lt (rung_lt (by omega)))
/-- Not above what it is without rounding. -/
theorem hgo_upper {e : Nat} : ∀ {d : Nat} (t : Nat), d ≤ 32 → hgo d e t * BB ^ d ≤ t * XX d e
  | 0, t, _ => Nat.le_refl _
  | d + 1, t, h => by
    rw [hgo, XX, Nat.pow_succ]
    unfold fac
    split
    · have := hgo_upper (e := e) t (d := d) (by omega)
      calc hgo d e t * (BB ^ d * BB) = hgo d e t * BB ^ d * BB := by rw [Nat.mul_assoc]
        _ ≤ t * XX d e * BB := Nat.mul_le_mul_right _ this
        _ = t * (BB * XX d e) := by rw [Nat.mul_assoc, Nat.mul_comm (XX d e)]
    · have := hgo_upper (e := e) (t * rung d / BB) (d := d) (by omega)
      have h2 : t * rung d / BB * BB ≤ t * rung d := Nat.div_mul_le_self _ _
      calc hgo d e (t * rung d / BB) * (BB ^ d * BB) = hgo d e (t * rung d / BB) * BB ^ d * BB := by rw [Nat.mul_assoc]
        _ ≤ t * rung d / BB * XX d e * BB := Nat.mul_le_mul_right _ this
        _ = t * rung d / BB * BB * XX d e := by rw [Nat.mul_right_comm]
        _ ≤ t * rung d * XX d e := Nat.mul_le_mul_right _ h2
        _ = t * (rung d * XX d e) := by rw [Nat.mul_assoc]
/-- Below it by one a bit at most. -/
theorem hgo_lower {e : Nat} : ∀ {d : Nat} (t : Nat), d ≤ 32 → t * XX d e ≤ (hgo d e t + d) * BB ^ d
  | 0, t, _ => Nat.le_refl _
  | d + 1, t, h => by
    rw [hgo, XX, Nat.pow_succ]
    unfold fac
    split
    · have := hgo_lower (e := e) t (d := d) (by omega)
      calc t * (BB * XX d e) = t * XX d e * BB := by rw [Nat.mul_comm BB, Nat.mul_assoc]
        _ ≤ (hgo d e t + d) * BB ^ d * BB := Nat.mul_le_mul_right _ this
        _ = (hgo d e t + d) * (BB ^ d * BB) := by rw [Nat.mul_assoc]
        _ ≤ (hgo d e t + (d + 1)) * (BB ^ d * BB) := Nat.mul_le_mul_right _ (by omega)
    · have := hgo_lower (e := e) (t * rung d / BB) (d := d) (by omega)
      have h2 : t * rung d ≤ (t * rung d / BB + 1) * BB := by
        have := Nat.lt_div_mul_add (a := t * rung d) (b := BB) (by decide)
        rw [Nat.add_mul, Nat.one_mul]
        omega
      have hx := XX_le (e := e) (d := d) (by omega)
      calc t * (rung d * XX d e) = t * rung d * XX d e := by rw [Nat.mul_assoc]
        _ ≤ (t * rung d / BB + 1) * BB * XX d e := Nat.mul_le_mul_right _ h2
        _ = (t * rung d / BB * XX d e + XX d e) * BB := by rw [Nat.mul_right_comm, Nat.add_mul (t * rung d / BB), Nat.one_mul]
        _ ≤ ((hgo d e (t * rung d / BB) + d) * BB ^ d + BB ^ d) * BB := Nat.mul_le_mul_right _ (Nat.add_le_add this hx)
        _ = (hgo d e (t * rung d / BB) + (d + 1)) * (BB ^ d * BB) := by rw [← Nat.mul_assoc, ← Nat.add_assoc, Nat.add_mul (_ + d) 1, Nat.one_mul]
/-- Enough is left, whatever bits follow. -/
def Good (d t : Nat) : Prop := (4611686018427387904 + d) * BB ^ d ≤ t * OO d
theorem Good.zero {d t : Nat} (h : d + 1 ≤ 32) (g : Good (d + 1) t) : Good d t := by
  unfold Good at *
  rw [Nat.pow_succ, OO] at g
  have h1 : t * (rung d * OO d) ≤ t * OO d * BB := by
    rw [Nat.mul_assoc, Nat.mul_comm (rung d)]
    exact Nat.mul_le_mul_left _ (Nat.mul_le_mul_left _ (Nat.le_of_lt (rung_lt (by omega))))
  have h2 : (4611686018427387904 + d) * BB ^ d * BB ≤ t * OO d * BB := by
    refine Nat.le_trans ?_ (Nat.le_trans g h1)
    rw [Nat.mul_assoc]
    exact Nat.mul_le_mul_right _ (by omega)
  exact Nat.le_of_mul_le_mul_right h2 (by decide)
theorem Good.one {d t : Nat} (h : d + 1 ≤ 32) (g : Good (d + 1) t) : Good d (t * rung d / BB) := by
  unfold Good at *
  rw [Nat.pow_succ, OO] at g
  have h2 : t * rung d ≤ (t * rung d / BB + 1) * BB := by
    have := Nat.lt_div_mul_add (a := t * rung d) (b := BB) (by decide)
    rw [Nat.add_mul, Nat.one_mul]
    omega
  have h3 : (4611686018427387904 + (d + 1)) * (BB ^ d * BB) ≤ (t * rung d / BB + 1) * OO d * BB := by
    refine Nat.le_trans g ?_
    rw [← Nat.mul_assoc, Nat.mul_right_comm (t * rung d / BB + 1)]
    exact Nat.mul_le_mul_right _ h2
  rw [← Nat.mul_assoc] at h3
  have h4 := Nat.le_of_mul_le_mul_right h3 (show 0 < BB by decide)
  rw [← Nat.add_assoc, Nat.add_mul (_ + d) 1, Nat.one_mul, Nat.add_mul (t * rung d / BB) 1, Nat.one_mul] at h4
  have := OO_le' (d := d) (by omega)
  omega
theorem Good.ge {d t : Nat} (h : d ≤ 32) (g : Good d t) : 4611686018427387904 ≤ t := by
  unfold Good at g
  have h1 : t * OO d ≤ t * BB ^ d := Nat.mul_le_mul_left _ (OO_le' h)
  have h2 : 4611686018427387904 * BB ^ d ≤ t * BB ^ d := Nat.le_trans (Nat.mul_le_mul_right _ (by omega)) (Nat.le_trans g h1)
  exact Nat.le_of_mul_le_mul_right h2 (Nat.pow_pos (by decide))
theorem Good.start : Good 32 9223372036854775808 := by unfold Good; decide +kernel
theorem hgo_ge {e : Nat} : ∀ {d : Nat} {t : Nat}, d ≤ 32 → Good d t → 4611686018427387904 ≤ hgo d e t
  | 0, t, h, g => g.ge h
  | d + 1, t, h, g => by
    rw [hgo]
    split
    · exact hgo_ge (by omega) (g.zero h)
    · exact hgo_ge (by omega) (g.one h)
/-- A bit more is not less than all that follow. -/
theorem key : ∀ d : Fin 32, 4611686018427387904 * (rung d.val * BB ^ d.val) + d.val * BB ^ (d.val + 1) ≤ 4611686018427387904 * (OO d.val * BB) := by decide +kernel
theorem key' {d t : Nat} (h : d < 32) (ht : 4611686018427387904 ≤ t) : t * (rung d * BB ^ d) + d * BB ^ (d + 1) ≤ t * (OO d * BB) := by
  have k := key ⟨d, h⟩
  obtain ⟨s, rfl⟩ := Nat.le.dest ht
  have h2 : rung d * BB ^ d ≤ OO d * BB := by
    have : 4611686018427387904 * (rung d * BB ^ d) ≤ 4611686018427387904 * (OO d * BB) := Nat.le_trans (Nat.le_add_right _ _) k
    exact Nat.le_of_mul_le_mul_left this (by decide)
  have h3 := Nat.mul_le_mul_left s h2
  rw [Nat.add_mul, Nat.add_mul]
  simp only at k
  omega
theorem bit_lt (e d : Nat) : bit e d < 2 := Nat.mod_lt _ (by decide)
theorem split_bit (e d : Nat) : e % 2 ^ (d + 1) = bit e d * 2 ^ d + e % 2 ^ d := by
  unfold bit
  rw [Nat.pow_succ, Nat.mod_mul, Nat.mul_comm (2 ^ d), Nat.add_comm]
/-- A greater exponent does not give more. -/
theorem hgo_mono : ∀ {d : Nat} {e f t : Nat}, d ≤ 32 → Good d t → e % 2 ^ d ≤ f % 2 ^ d → hgo d f t ≤ hgo d e t
  | 0, e, f, t, _, _, _ => Nat.le_refl _
  | d + 1, e, f, t, h, g, hl => by
    rw [split_bit, split_bit] at hl
    have b1 := bit_lt e d; have b2 := bit_lt f d
    have m1 : e % 2 ^ d < 2 ^ d := Nat.mod_lt _ (Nat.pow_pos (by decide)); have m2 : f % 2 ^ d < 2 ^ d := Nat.mod_lt _ (Nat.pow_pos (by decide))
    rw [hgo, hgo]
    by_cases be : bit e d = 0
    · by_cases bf : bit f d = 0
      · rw [if_pos be, if_pos bf]
        rw [be, bf] at hl
        exact hgo_mono (by omega) (g.zero h) (by omega)
      · rw [if_pos be, if_neg bf]
        refine Nat.le_trans (hgo_le (by omega)) ?_
        have lo := hgo_lower (e := e) t (d := d) (by omega)
        have ht := g.ge h
        have k := key' (d := d) (by omega) ht
        have ho : t * (OO d * BB) ≤ (hgo d e t + d) * BB ^ d * BB := by
          rw [← Nat.mul_assoc]
          exact Nat.mul_le_mul_right _ (Nat.le_trans (Nat.mul_le_mul_left _ (OO_le (by omega))) lo)
        have h5 : t * rung d * BB ^ d ≤ hgo d e t * BB * BB ^ d := by
          have e1 : (hgo d e t + d) * BB ^ d * BB = hgo d e t * BB * BB ^ d + d * BB ^ (d + 1) := by
            rw [Nat.pow_succ, Nat.add_mul, Nat.add_mul, Nat.mul_right_comm, ← Nat.mul_assoc d]
          rw [e1] at ho
          rw [Nat.mul_assoc]
          omega
        have h6 := Nat.le_of_mul_le_mul_right h5 (Nat.pow_pos (by decide))
        apply Nat.div_le_of_le_mul
        rw [Nat.mul_comm BB]
        exact h6
    · have be1 : bit e d = 1 := by omega
      have bf1 : bit f d = 1 := by
        rcases (show bit f d = 0 ∨ bit f d = 1 by omega) with z | z
        · rw [be1, z] at hl; omega
        · exact z
      rw [if_neg be, if_neg (by omega)]
      rw [be1, bf1] at hl
      exact hgo_mono (by omega) (g.one h) (by omega)
theorem hgo_zero {e : Nat} : ∀ {d t : Nat}, e % 2 ^ d = 0 → hgo d e t = t
  | 0, _, _ => rfl
  | d + 1, t, h => by
    rw [split_bit] at h
    have hp : 0 < 2 ^ d := Nat.pow_pos (by decide)
    have b1 := bit_lt e d
    have hb : bit e d = 0 := by
      rcases (show bit e d = 0 ∨ bit e d = 1 by omega) with z | z
      · exact z
      · rw [z] at h; omega
    rw [hgo, if_pos hb]
    rw [hb] at h
    exact hgo_zero (by omega)
theorem bit_mod (e d n : Nat) (h : d < n) : bit (e % 2 ^ n) d = bit e d := by
  unfold bit
  obtain ⟨m, rfl⟩ : ∃ m, n = d + (m + 1) := ⟨n - d - 1, by omega⟩
  rw [Nat.pow_add, Nat.mod_mul_right_div_self, Nat.pow_succ, Nat.mod_mul_left_mod]
theorem hgo_mod {e n : Nat} : ∀ {d t : Nat}, d ≤ n → hgo d (e % 2 ^ n) t = hgo d e t
  | 0, _, _ => rfl
  | d + 1, t, h => by rw [hgo, hgo, bit_mod e d n (by omega), hgo_mod (by omega), hgo_mod (by omega)]
theorem XX_mod {e n : Nat} : ∀ {d : Nat}, d ≤ n → XX d (e % 2 ^ n) = XX d e
  | 0, _ => rfl
  | d + 1, h => by
    rw [XX, XX, XX_mod (by omega)]
    unfold fac
    rw [bit_mod e d n (by omega)]
theorem bit_two (e d : Nat) : bit (2 * e) (d + 1) = bit e d := by
  unfold bit
  rw [Nat.pow_succ, Nat.mul_comm (2 ^ d), Nat.mul_div_mul_left _ _ (by decide)]
theorem bit_two0 (e : Nat) : bit (2 * e) 0 = 0 := by unfold bit; simp
/-- A rung's square is at most the next rung, and not much less. -/
theorem rung_sq : ∀ d : Fin 31, rung d.val * rung d.val ≤ BB * rung (d.val + 1) ∧ BB * rung (d.val + 1) * 4611686018427387903 ≤ rung d.val * rung d.val * 4611686018427387904 := by decide +kernel
theorem rung_sq31 : rung 31 * rung 31 * 2 ≤ BB * BB ∧ BB * BB * 4611686018427387903 ≤ rung 31 * rung 31 * 2 * 4611686018427387904 := by decide +kernel
theorem fac_sq {e d : Nat} (h : d < 31) : fac e d * fac e d ≤ BB * fac (2 * e) (d + 1) ∧ BB * fac (2 * e) (d + 1) * 4611686018427387903 ≤ fac e d * fac e d * 4611686018427387904 := by
  unfold fac
  rw [bit_two]
  split
  · exact ⟨Nat.le_refl _, by decide⟩
  · exact rung_sq ⟨d, h⟩
theorem fac_sq31 (e : Nat) : fac e 31 * fac e 31 * 2 ^ bit e 31 ≤ BB * BB ∧ BB * BB * 4611686018427387903 ≤ fac e 31 * fac e 31 * 2 ^ bit e 31 * 4611686018427387904 := by
  unfold fac
  have b := bit_lt e 31
  split
  · rename_i h
    rw [h]
    exact ⟨by decide, by decide⟩
  · rw [show bit e 31 = 1 by omega]
    exact rung_sq31
theorem XX_sq {e : Nat} : ∀ {d : Nat}, d ≤ 31 → XX d e * XX d e * BB ≤ BB ^ d * XX (d + 1) (2 * e)
  | 0, _ => by
    have : XX (0 + 1) (2 * e) = BB := by
      rw [XX, XX]
      unfold fac
      rw [if_pos (bit_two0 e)]
      rfl
    rw [this, XX]
    decide
  | d + 1, h => by
    have ih := XX_sq (e := e) (d := d) (by omega)
    have s := (fac_sq (e := e) (d := d) (by omega)).1
    rw [XX, XX, Nat.pow_succ]
    calc fac e d * XX d e * (fac e d * XX d e) * BB = fac e d * fac e d * (XX d e * XX d e * BB) := by
          rw [Nat.mul_mul_mul_comm, Nat.mul_assoc]
      _ ≤ BB * fac (2 * e) (d + 1) * (BB ^ d * XX (d + 1) (2 * e)) := Nat.mul_le_mul s ih
      _ = BB ^ d * BB * (fac (2 * e) (d + 1) * XX (d + 1) (2 * e)) := by
          rw [Nat.mul_mul_mul_comm, Nat.mul_comm BB]
theorem XX_sq32 (e : Nat) : XX 32 e * XX 32 e * 2 ^ bit e 31 ≤ BB ^ 32 * XX 32 (2 * e) := by
  have ih := XX_sq (e := e) (d := 31) (by omega)
  have s := (fac_sq31 e).1
  have h : XX 32 e * XX 32 e * 2 ^ bit e 31 * BB ≤ BB ^ 32 * XX 32 (2 * e) * BB := by
    rw [show XX 32 e = fac e 31 * XX 31 e from rfl]
    calc fac e 31 * XX 31 e * (fac e 31 * XX 31 e) * 2 ^ bit e 31 * BB = fac e 31 * fac e 31 * 2 ^ bit e 31 * (XX 31 e * XX 31 e * BB) := by
          generalize fac e 31 = x; generalize XX 31 e = y; generalize 2 ^ bit e 31 = z; ac_rfl
      _ ≤ BB * BB * (BB ^ 31 * XX 32 (2 * e)) := Nat.mul_le_mul s ih
      _ = BB ^ 32 * XX 32 (2 * e) * BB := by
          rw [show BB ^ 32 = BB * BB ^ 31 from rfl]
          generalize BB ^ 31 = z
          generalize XX 32 (2 * e) = y
          ac_rfl
  exact Nat.le_of_mul_le_mul_right h (by decide)
end Go.Proofs.YtbhijfbjdbjpbaaDoor.Q
