/-
  LadderTrue answers true at every exponent: squared 32 times, the lower bound (rounded down each time) is not above one half to the exponent's rest, and the upper one (rounded up each time) is not below it. No condition; the variable rungs is listed, and tied to the program's text.
-/
import Derived.Test.YtmgmggkebmgafaaDoorQLLawLad
import Derived.Test.YtmgmggkebmgafaaDoorQLLadB
import Derived.Test.YtmgmggkebmgafaaDoorQLLadT
import Derived.Test.YtmgmggkebmgafaaDoorGLx6
namespace Go.Proofs.YtmgmggkebmgafaaDoor.Pure
open Go.RowKit Go.Proofs.YtmgmggkebmgafaaDoor.GL Go.Proofs.YtmgmggkebmgafaaDoor.Q Go.Proofs.YtmgmggkebmgafaaDoorW.PrintWords Go.Proofs.YtmgmggkebmgafaaDoorW.PrintMore
theorem end_pow {f m y n z : Nat} (F : Fl m y) (G : Fl n z) (k1 : m * 2 ^ f ≤ 9223372036854775808 * 2 ^ y) (k2 : 9223372036854775808 * 2 ^ z ≤ n * 2 ^ f) : f ≤ y ∧ z ≤ f ∧ (y = f → m ≤ 9223372036854775808) := by
  obtain ⟨f0, f1, _⟩ := F
  obtain ⟨g0, g1, _⟩ := G
  have p := Nat.two_pow_pos f
  refine ⟨?_, ?_, ?_⟩
  · have := Nat.mul_le_mul_right (2 ^ f) f0
    have h3 : 2 ^ f ≤ 2 ^ y := Nat.le_of_mul_le_mul_left (Nat.le_trans this k1) (by decide)
    exact (Nat.pow_le_pow_iff_right (by decide)).1 h3
  · rcases Nat.lt_or_ge f z with c | c
    · have h4 : 2 ^ (f + 1) ≤ 2 ^ z := Nat.pow_le_pow_right (by decide) c
      rw [Nat.pow_succ] at h4
      have h5 := Nat.mul_lt_mul_of_pos_right g1 p
      generalize 2 ^ f = a at *
      generalize 2 ^ z = b at *
      generalize n * a = w at *
      omega
    · exact c
  · intro h
    subst h
    exact Nat.le_of_mul_le_mul_right k1 p
theorem end_XX {f m y : Nat} (h1 : m * BB ^ 32 * 2 ^ (4294967296 * f / 4294967296) ≤ 9223372036854775808 * XX 32 (4294967296 * f) * 2 ^ y) : m * 2 ^ f ≤ 9223372036854775808 * 2 ^ y := by
  have x0 : XX 32 (4294967296 * f) = BB ^ 32 := by
    rw [← XX_mod (n := 32) (Nat.le_refl _), show 4294967296 * f % 2 ^ 32 = 0 from Nat.mul_mod_right _ _]
    decide +kernel
  rw [x0, Nat.mul_div_cancel_left f (by decide)] at h1
  have b1 : 0 < BB ^ 32 := Nat.pow_pos (by decide)
  generalize BB ^ 32 = B at *
  generalize 2 ^ f = a at *
  generalize 2 ^ y = b at *
  refine Nat.le_of_mul_le_mul_right (c := B) ?_ b1
  calc m * a * B = m * B * a := by ac_rfl
    _ ≤ 9223372036854775808 * B * b := h1
    _ = 9223372036854775808 * b * B := by ac_rfl
theorem end_ZZ {f n z : Nat} (h2 : 9223372036854775808 * ZZ 32 (4294967296 * f) * 2 ^ z ≤ n * 2 ^ (4294967296 * f / 4294967296) * B2 ^ 32) : 9223372036854775808 * 2 ^ z ≤ n * 2 ^ f := by
  have z0 : ZZ 32 (4294967296 * f) = B2 ^ 32 := by
    rw [← ZZ_mod (n := 32) (Nat.le_refl _), show 4294967296 * f % 2 ^ 32 = 0 from Nat.mul_mod_right _ _]
    decide +kernel
  rw [z0, Nat.mul_div_cancel_left f (by decide)] at h2
  have b1 : 0 < B2 ^ 32 := Nat.pow_pos (by decide)
  generalize B2 ^ 32 = B at *
  generalize 2 ^ f = a at *
  generalize 2 ^ z = b at *
  refine Nat.le_of_mul_le_mul_right (c := B) ?_ b1
  calc 9223372036854775808 * b * B = 9223372036854775808 * B * b := by ac_rfl
    _ ≤ n * a * B := h2
theorem end_l0 {f m y n z : Nat} (k : Nat) (hf : f < 4294967296) (hz : z ≤ 17179869184) (hy : y ≤ 17179869184) (y1 : f ≤ y) (z1 : z ≤ f) (hm : y = f → m ≤ 9223372036854775808) (g0 : 9223372036854775808 ≤ n) :
    backfilllaw07_LadderTrue.l0 (k + 1) true (f : Int) 32 (m : Int) (-63 - (y : Int)) (n : Int) (-63 - (z : Int)) = some true := by
  simp only [backfilllaw07_LadderTrue.l0]
  rw [if_neg (by decide)]
  have e1 : wrap64 (-63 - wrap64 (f : Int)) = -63 - (f : Int) := by rw [wrap64_in (x := (f : Int)) (by omega) (by omega), wrap64_in (by omega) (by omega)]
  rw [e1]
  by_cases c1 : y = f
  · rw [if_neg (by omega), if_pos (by omega)]
    have := hm c1
    by_cases c2 : z = f
    · rw [if_neg (by omega), if_pos (by omega), if_pos (by trivial), if_pos (by omega), decide_eq_true (by omega)]
    · rw [if_pos (by omega), if_pos (by trivial), if_pos (by omega)]
  · rw [if_pos (by omega)]
    by_cases c2 : z = f
    · rw [if_neg (by omega), if_pos (by omega), if_pos (by trivial), decide_eq_true (by omega)]
    · rw [if_pos (by omega), if_pos (by trivial)]
/-- Where the two floats stand, when so many squarings lie ahead. -/
structure Stand (f d e m y n z : Nat) : Prop where
  he : e * 2 ^ d = 4294967296 * f
  F : Fl m y
  G : Fl n z
  hy : y * 2 ^ d ≤ 17179869184
  hz : z * 2 ^ d ≤ 17179869184
  h1 : m * BB ^ 32 * 2 ^ (e / 4294967296) ≤ 9223372036854775808 * XX 32 e * 2 ^ y
  h2 : 9223372036854775808 * ZZ 32 e * 2 ^ z ≤ n * 2 ^ (e / 4294967296) * B2 ^ 32
theorem le_pow {y d c : Nat} (h : y * 2 ^ d ≤ c) : y ≤ c := Nat.le_trans (Nat.le_mul_of_pos_right y (Nat.two_pow_pos d)) h
theorem pow_next {y y' d c : Nat} (h : y * 2 ^ (d + 1) ≤ c) (l : y' ≤ 2 * y) : y' * 2 ^ d ≤ c := by
  refine Nat.le_trans (Nat.mul_le_mul_right _ l) (Nat.le_trans (Nat.le_of_eq ?_) h)
  rw [Nat.pow_succ]
  ac_rfl
theorem true_step {f d e m y n z : Nat} (k : Nat) (hk : 2 ≤ k) (S : Stand f (d + 1) e m y n z) : ∃ m' y' n' z' : Nat, Stand f d (2 * e) m' y' n' z' ∧
    backfilllaw07_squared.f k (m : Int) (-63 - (y : Int)) false = some ((m' : Int), -63 - (y' : Int)) ∧ backfilllaw07_squared.f k (n : Int) (-63 - (z : Int)) true = some ((n' : Int), -63 - (z' : Int)) := by
  obtain ⟨he, F, G, hy, hz, h1, h2⟩ := S
  obtain ⟨m', y', q1, F', l1, s1, _⟩ := squared k hk false F (le_pow hy)
  obtain ⟨n', z', q2, G', l2, _, s2⟩ := squared k hk true G (le_pow hz)
  have hE : 2 ^ (2 * e / 4294967296) = 2 ^ (e / 4294967296) * 2 ^ (e / 4294967296) * 2 ^ bit e 31 := by
    rw [two_div e, Nat.pow_add, dbl]
  refine ⟨m', y', n', z', ⟨?_, F', G', pow_next hy l1, pow_next hz l2, ?_, ?_⟩, q1, q2⟩
  · rw [← he, Nat.pow_succ]
    ac_rfl
  · rw [hE]
    exact step_lo (by decide) (Nat.two_pow_pos y) (Nat.pow_pos (by decide)) h1 (s1 rfl) (XX_sq32 e)
  · rw [hE]
    exact step_hi (by decide) (Nat.two_pow_pos z) (Nat.pow_pos (by decide)) h2 (s2 rfl) (ZZ_sq32 e)
theorem true_l0 {f : Nat} (hf : f < 4294967296) (d : Nat) : ∀ (k : Nat) {e m y n z : Nat} {i : Int}, d + 3 ≤ k → d ≤ 32 → i = 32 - (d : Int) → Stand f d e m y n z →
    backfilllaw07_LadderTrue.l0 k true (f : Int) i (m : Int) (-63 - (y : Int)) (n : Int) (-63 - (z : Int)) = some true := by
  induction d with
  | zero =>
    intro k e m y n z i hk _ hi S
    obtain ⟨k, rfl⟩ : ∃ j, k = j + 1 := ⟨k - 1, by omega⟩
    obtain ⟨he, F, G, hy, hz, h1, h2⟩ := S
    rw [Nat.pow_zero, Nat.mul_one] at he
    subst he
    obtain ⟨a, b, c⟩ := end_pow F G (end_XX h1) (end_ZZ h2)
    obtain rfl : i = 32 := by simpa using hi
    exact end_l0 k hf (le_pow hz) (le_pow hy) a b c G.lo
  | succ d ih =>
    intro k e m y n z i hk hd hi S
    obtain ⟨k, rfl⟩ : ∃ j, k = j + 1 := ⟨k - 1, by omega⟩
    obtain ⟨m', y', n', z', S', q1, q2⟩ := true_step k (by omega) S
    simp only [backfilllaw07_LadderTrue.l0]
    rw [if_pos (by omega), q1, q2]
    simp only [Option.bind_some]
    rw [wrap64_in (by omega) (by omega)]
    exact ih k (by omega) (by omega) (by omega) S'
theorem start_lo {f m y g : Nat} (hf : f < 4294967296) (hm : m = g * 2 ^ y) (gu : g * BB ^ 32 ≤ 9223372036854775808 * XX 32 f) : m * BB ^ 32 * 2 ^ (f / 4294967296) ≤ 9223372036854775808 * XX 32 f * 2 ^ y := by
  rw [Nat.div_eq_of_lt hf, Nat.pow_zero, Nat.mul_one, hm]
  generalize XX 32 f = X at *
  generalize BB ^ 32 = B at *
  generalize 2 ^ y = a at *
  calc g * a * B = g * B * a := by ac_rfl
    _ ≤ 9223372036854775808 * X * a := Nat.mul_le_mul_right _ gu
theorem start_hi {f n z g : Nat} (hf : f < 4294967296) (hn : n = g * 2 ^ z) (hz : 9223372036854775808 * ZZ 32 f ≤ g * B2 ^ 32) : 9223372036854775808 * ZZ 32 f * 2 ^ z ≤ n * 2 ^ (f / 4294967296) * B2 ^ 32 := by
  rw [Nat.div_eq_of_lt hf, Nat.pow_zero, Nat.mul_one, hn]
  generalize ZZ 32 f = Z at *
  generalize B2 ^ 32 = B at *
  generalize 2 ^ z = a at *
  calc 9223372036854775808 * Z * a ≤ g * B * a := Nat.mul_le_mul_right _ hz
    _ = g * a * B := by ac_rfl
theorem p32 : (2 : Nat) ^ 32 = 4294967296 := by decide
theorem p_f (f : Nat) : f * 2 ^ 32 = 4294967296 * f := by rw [p32, Nat.mul_comm]
theorem p_y {y : Nat} (h : y ≤ 2) : y * 2 ^ 32 ≤ 17179869184 := by rw [p32]; omega
theorem HH_small {f : Nat} (hf : f < 4294967296) : HH f = gg f := by
  unfold HH
  rw [Nat.div_eq_of_lt hf, if_neg (by decide), Nat.pow_zero, Nat.div_one]
theorem hi_small {f : Nat} (hf : f < 4294967296) : hiN f = gg f + 81 ∨ hiN f = 9223372036854775808 := by
  unfold hiN
  rw [HH_small hf]
  split
  · exact .inl rfl
  · exact .inr rfl
theorem hi_top (f : Nat) : hiN f ≤ 9223372036854775808 := by
  unfold hiN
  split
  · exact Nat.le_of_lt (by assumption)
  · exact Nat.le_refl _
theorem lo_hi {f : Nat} (hf : f < 4294967296) : gg f ≤ hiN f := by
  have g1 := gg_le f
  rcases hi_small hf with h | h
  · rw [h]; exact Nat.le_add_right _ _
  · rw [h]; exact g1
theorem true_j0 (k : Nat) (hk : 35 ≤ k) {f : Nat} (hf : f < 4294967296) : backfilllaw07_LadderTrue.j0 (k + 1) true (f : Int) ((gg f : Nat) : Int) ((hiN f : Nat) : Int) false = some true := by
  have g0 := gg_ge f
  have g1 := gg_le f
  have gu := gg_upper f
  have h0 := lo_hi hf
  have h1 := hi_top f
  have hz := hi_ZZ (hi_small hf)
  generalize gg f = g at *
  generalize hiN f = h at *
  simp only [backfilllaw07_LadderTrue.j0]
  rw [if_neg (by decide)]
  obtain ⟨m, y, q1, F, y2, hm⟩ := normal (n := g) k (by omega) (by omega) g1
  obtain ⟨n, z, q2, G, z2, hn⟩ := normal (n := h) k (by omega) (by omega) h1
  rw [q1, q2]
  simp only [Option.bind_some]
  exact true_l0 hf 32 k (e := f) (by omega) (by omega) (by omega) ⟨p_f f, F, G, p_y y2, p_y z2, start_lo hf hm gu, start_hi hf hn hz⟩
theorem true_f (k : Nat) (hk : 35 ≤ k) (a : Nat) (ha : a < 18446744073709551616) : backfilllaw07_LadderTrue.f (k + 1) (a : Int) = some true := by
  unfold backfilllaw07_LadderTrue.f
  rw [shown07, Option.bind_some, tmod_eq (by omega), show (a : Int) % 4294967296 = ((a % 4294967296 : Nat) : Int) by omega]
  have hf : a % 4294967296 < 4294967296 := by omega
  generalize a % 4294967296 = f at *
  rw [bounds_i ⟨by omega, by omega⟩, Int.toNat_natCast]
  have g0 := gg_ge f
  have h0 := lo_hi hf
  have h1 := hi_top f
  have hj := true_j0 k hk hf
  rw [HH_small hf]
  generalize gg f = g at *
  generalize hiN f = h at *
  rw [Option.bind_some]
  dsimp only
  rw [if_neg (by omega), if_neg (by omega), decide_eq_false (by omega)]
  exact hj
theorem LadderTrue : backfilllaw07_LadderTrue.Pure := by
  intro a ha
  obtain ⟨a0, a1⟩ := wf_u ha
  obtain ⟨n, rfl⟩ := Int.eq_ofNat_of_zero_le a0
  exact ⟨_, true_f 35 (Nat.le_refl _) n (by omega)⟩
end Go.Proofs.YtmgmggkebmgafaaDoor.Pure
