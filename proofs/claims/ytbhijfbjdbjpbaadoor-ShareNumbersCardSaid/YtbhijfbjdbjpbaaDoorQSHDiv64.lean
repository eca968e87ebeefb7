import Derived.Test.YtbhijfbjdbjpbaaDoorQSHBase
import Derived.Test.YtbhijfbjdbjpbaaDoorQSHEst
import Derived.Test.YtbhijfbjdbjpbaaDoorQSHSh
import Derived.Test.YtbhijfbjdbjpbaaDoorGSHx8
import Derived.Test.YtbhijfbjdbjpbaaDoorGSHx9
namespace Go.Proofs.YtbhijfbjdbjpbaaDoor.Q
open Go.RowKit Go.Proofs.YtbhijfbjdbjpbaaDoor.GSH Go.Proofs.YtbhijfbjdbjpbaaDoorW.PrintWords Go.Proofs.YtbhijfbjdbjpbaaDoorW.PrintLast Go.Proofs.YtbhijfbjdbjpbaaDoorW.PrintMore

/-- How many bits the bytes have, as the library's table tells it. -/
def lenTab : ByteArray := ⟨#[0, 1, 2, 2, 3, 3, 3, 3, 4, 4, 4, 4, 4, 4, 4, 4, 5, 5, 5, 5, 5, 5, 5, 5, 5, 5, 5, 5, 5, 5, 5, 5, 6, 6, 6, 6, 6, 6, 6, 6, 6, 6, 6, 6, 6, 6, 6, 6, 6, 6, 6, 6, 6, 6, 6, 6, 6, 6, 6, 6, 6, 6, 6, 6, 7, 7, 7, 7, 7, 7, 7, 7, 7, 7, 7, 7, 7, 7, 7, 7, 7, 7, 7, 7, 7, 7, 7, 7, 7, 7, 7, 7, 7, 7, 7, 7, 7, 7, 7, 7, 7, 7, 7, 7, 7, 7, 7, 7, 7, 7, 7, 7, 7, 7, 7, 7, 7, 7, 7, 7, 7, 7, 7, 7, 7, 7, 7, 7, 8, 8, 8, 8, 8, 8, 8, 8, 8, 8, 8, 8, 8, 8, 8, 8, 8, 8, 8, 8, 8, 8, 8, 8, 8, 8, 8, 8, 8, 8, 8, 8, 8, 8, 8, 8, 8, 8, 8, 8, 8, 8, 8, 8, 8, 8, 8, 8, 8, 8, 8, 8, 8, 8, 8, 8, 8, 8, 8, 8, 8, 8, 8, 8, 8, 8, 8, 8, 8, 8, 8, 8, 8, 8, 8, 8, 8, 8, 8, 8, 8, 8, 8, 8, 8, 8, 8, 8, 8, 8, 8, 8, 8, 8, 8, 8, 8, 8, 8, 8, 8, 8, 8, 8, 8, 8, 8, 8, 8, 8, 8, 8, 8, 8, 8, 8, 8, 8, 8, 8, 8, 8, 8, 8, 8, 8, 8, 8]⟩
theorem lenTab_nat : ∀ i : Fin 256, i.val ≠ 0 → 1 ≤ (bt lenTab (i.val : Int)).toNat ∧ (bt lenTab (i.val : Int)).toNat ≤ 8 ∧ 2 ^ ((bt lenTab (i.val : Int)).toNat - 1) ≤ i.val ∧ i.val < 2 ^ (bt lenTab (i.val : Int)).toNat := by decide +kernel
theorem lenTab_at {i : Int} (h0 : 0 < i) (h1 : i < 256) : ∃ n : Nat, bt lenTab i = (n : Int) ∧ 1 ≤ n ∧ n ≤ 8 ∧ 2 ^ (n - 1) ≤ i ∧ i < 2 ^ n := by
  obtain ⟨m, rfl⟩ := Int.eq_ofNat_of_zero_le (Int.le_of_lt h0)
  have h := lenTab_nat ⟨m, by omega⟩ (by simp; omega)
  have r := bt_range lenTab (m : Int)
  refine ⟨(bt lenTab (m : Int)).toNat, by omega, h.1, h.2.1, ?_, ?_⟩
  · exact_mod_cast h.2.2.1
  · exact_mod_cast h.2.2.2
theorem len_pow {x y : Int} {n : Nat} (j : Nat) (hx : 2 ^ (n - 1) ≤ x / 2 ^ j) (hy : x / 2 ^ j < 2 ^ n) (hn : 1 ≤ n) : 2 ^ (n + j - 1) ≤ x ∧ x < 2 ^ (n + j) := by
  have p := pow_pos_ j
  rw [Int.le_ediv_iff_mul_le p, ← Int.pow_add] at hx
  rw [Int.ediv_lt_iff_lt_mul p, ← Int.pow_add] at hy
  rw [show n + j - 1 = n - 1 + j by omega]
  exact ⟨hx, hy⟩
set_option maxRecDepth 100000 in
theorem len_j0 (k : Nat) (x0 x2 : Int) : bits_Len64.j0 (k + 1) x0 x2 = if x0 ≥ 65536 then (if (x0 / 65536) ≥ 256 then (if 0 ≤ (((x0 / 65536) / 256) % 256) then (if (((x0 / 65536) / 256) % 256) < 256 then (some (wrap64 ((wrap64 ((wrap64 (x2 + 16)) + 8)) + (wrap64 (bt lenTab (((x0 / 65536) / 256) % 256)))))) else (none)) else (none)) else (if 0 ≤ ((x0 / 65536) % 256) then (if ((x0 / 65536) % 256) < 256 then (some (wrap64 ((wrap64 (x2 + 16)) + (wrap64 (bt lenTab ((x0 / 65536) % 256)))))) else (none)) else (none))) else (if x0 ≥ 256 then (if 0 ≤ ((x0 / 256) % 256) then (if ((x0 / 256) % 256) < 256 then (some (wrap64 ((wrap64 (x2 + 8)) + (wrap64 (bt lenTab ((x0 / 256) % 256)))))) else (none)) else (none)) else (if 0 ≤ (x0 % 256) then (if (x0 % 256) < 256 then (some (wrap64 (x2 + (wrap64 (bt lenTab (x0 % 256)))))) else (none)) else (none))) := rfl
/-- 64 less the leading zeros. -/
theorem len64 {x : Int} (k : Nat) (hk : 1 ≤ k) (h0 : 0 < x) (h1 : x < 18446744073709551616) : ∃ n : Nat, bits_Len64.f k x = some (n : Int) ∧ 1 ≤ n ∧ n ≤ 64 ∧ 2 ^ (n - 1) ≤ x ∧ x < 2 ^ n := by
  obtain ⟨k, rfl⟩ : ∃ m, k = m + 1 := ⟨k - 1, by omega⟩
  have base : ∀ (z : Int) (c : Nat), 0 < z → z < 4294967296 → c ≤ 32 → ∃ n : Nat, bits_Len64.j0 (k + 1) z (c : Int) = some ((n : Int) + (c : Int)) ∧ 1 ≤ n ∧ n ≤ 32 ∧ 2 ^ (n - 1) ≤ z ∧ z < 2 ^ n := by
    intro z c hz0 hz1 hc
    rw [len_j0]
    by_cases a : z ≥ 65536
    · rw [if_pos a]
      by_cases b : z / 65536 ≥ 256
      · rw [if_pos b, if_pos (by omega), if_pos (by omega), show ((z / 65536) / 256) % 256 = z / 16777216 by omega]
        obtain ⟨n, hn, g1, g2, g3, g4⟩ := lenTab_at (i := z / 16777216) (by omega) (by omega)
        rw [hn, wrap64_in (x := (n : Int)) (by omega) (by omega), wrap64_in (x := (c : Int) + 16) (by omega) (by omega), wrap64_in (x := (c : Int) + 16 + 8) (by omega) (by omega), wrap64_in (by omega) (by omega)]
        have := len_pow (y := 0) (x := z) 24 (by simpa using g3) (by simpa using g4) g1
        exact ⟨n + 24, congrArg some (by omega), by omega, by omega, this.1, this.2⟩
      · rw [if_neg b, if_pos (by omega), if_pos (by omega), show (z / 65536) % 256 = z / 65536 by omega]
        obtain ⟨n, hn, g1, g2, g3, g4⟩ := lenTab_at (i := z / 65536) (by omega) (by omega)
        rw [hn, wrap64_in (x := (n : Int)) (by omega) (by omega), wrap64_in (x := (c : Int) + 16) (by omega) (by omega), wrap64_in (by omega) (by omega)]
        have := len_pow (y := 0) (x := z) 16 (by simpa using g3) (by simpa using g4) g1
        exact ⟨n + 16, congrArg some (by omega), by omega, by omega, this.1, this.2⟩
    · rw [if_neg a]
      by_cases b : z ≥ 256
      · rw [if_pos b, if_pos (by omega), if_pos (by omega), show (z / 256) % 256 = z / 256 by omega]
        obtain ⟨n, hn, g1, g2, g3, g4⟩ := lenTab_at (i := z / 256) (by omega) (by omega)
        rw [hn, wrap64_in (x := (n : Int)) (by omega) (by omega), wrap64_in (x := (c : Int) + 8) (by omega) (by omega), wrap64_in (by omega) (by omega)]
        have := len_pow (y := 0) (x := z) 8 (by simpa using g3) (by simpa using g4) g1
        exact ⟨n + 8, congrArg some (by omega), by omega, by omega, this.1, this.2⟩
      · rw [if_neg b, if_pos (by omega), if_pos (by omega), show z % 256 = z by omega]
        obtain ⟨n, hn, g1, g2, g3, g4⟩ := lenTab_at (i := z) (by omega) (by omega)
        rw [hn, wrap64_in (x := (n : Int)) (by omega) (by omega), wrap64_in (by omega) (by omega)]
        exact ⟨n, congrArg some (by omega), by omega, by omega, g3, g4⟩
  unfold bits_Len64.f
  by_cases a : x ≥ 4294967296
  · rw [if_pos a]
    obtain ⟨n, hn, g1, g2, g3, g4⟩ := base (x / 4294967296) 32 (by omega) (by omega) (by omega)
    have := len_pow (y := 0) (x := x) 32 (by simpa using g3) (by simpa using g4) g1
    exact ⟨n + 32, by rw [show (32 : Int) = ((32 : Nat) : Int) from rfl, hn]; rfl, by omega, by omega, this.1, this.2⟩
  · rw [if_neg a]
    obtain ⟨n, hn, g1, g2, g3, g4⟩ := base x 0 (by omega) (by omega) (by omega)
    exact ⟨n, by rw [show (0 : Int) = ((0 : Nat) : Int) from rfl, hn]; simp, by omega, by omega, g3, g4⟩
theorem lead64 {x : Int} (k : Nat) (hk : 1 ≤ k) (h0 : 0 < x) (h1 : x < 18446744073709551616) : ∃ s : Nat, bits_LeadingZeros64.f k x = some (s : Int) ∧ s ≤ 63 ∧ 9223372036854775808 ≤ x * 2 ^ s ∧ x * 2 ^ s < 18446744073709551616 := by
  obtain ⟨n, hn, g1, g2, g3, g4⟩ := len64 k hk h0 h1
  refine ⟨64 - n, ?_, by omega, ?_, ?_⟩
  · unfold bits_LeadingZeros64.f
    rw [hn]
    simp only [Option.bind_some]
    rw [wrap64_in (by omega) (by omega)]
    congr 1
    omega
  · have e : (2 : Int) ^ (n - 1) * 2 ^ (64 - n) = 9223372036854775808 := by rw [← Int.pow_add, show n - 1 + (64 - n) = 63 by omega]; rfl
    have := Int.mul_le_mul_of_nonneg_right g3 (Int.le_of_lt (pow_pos_ (64 - n)))
    omega
  · have e : (2 : Int) ^ n * 2 ^ (64 - n) = 18446744073709551616 := by rw [← Int.pow_add, show n + (64 - n) = 64 by omega]; rfl
    have := Int.mul_lt_mul_of_pos_right g4 (pow_pos_ (64 - n))
    omega

/-- The first digit's loop comes to the digit. -/
theorem div_l0 {y y1 y0 u n x8 x14 : Int} {r : Option (Int × Int)} {m : Nat} (hr : ∀ k, m ≤ k → bits_Div64.j2 k y x8 y1 y0 u n x14 ((u * 4294967296 + n) / y) = r) (t : Nat) :
    ∀ (k : Nat) (q rh : Int), m + 2 * t + 2 ≤ k → Est y y1 y0 u n q rh → 4294967296 ≤ rh + (t : Int) * 2147483648 → bits_Div64.l0 k y x8 y1 y0 u n x14 q rh = r := by
  induction t with
  | zero =>
    intro k q rh _ h ht
    have := h.hr'
    omega
  | succ t ih =>
    intro k q rh hk h ht
    obtain ⟨k, rfl⟩ : ∃ m, k = m + 2 := ⟨k - 2, by omega⟩
    have step : ∀ b : Bool, (b = true → q ≥ 4294967296 ∨ q * y0 > 4294967296 * rh + n) → (b = false → ¬ q * y0 > 4294967296 * rh + n) → bits_Div64.j1 (k + 1) y x8 y1 y0 u n x14 q rh b = r := by
      intro b b1 b2
      simp only [bits_Div64.j1]
      cases b with
      | true =>
        have c := b1 rfl
        have hp := h.q_pos c
        have := h.q1; have := h.hr; have := h.hr'; have := h.h1; have := h.h1'
        rw [if_pos rfl, w64_in (x := rh + y1) (by omega) (by omega), w64_in (x := q - 1) (by omega) (by omega)]
        by_cases d : rh + y1 ≥ 4294967296
        · rw [if_pos d, h.last c d]
          exact hr k (by omega)
        · rw [if_neg d]
          exact ih k _ _ (by omega) (h.next c (by omega)) (by omega)
      | false =>
        rw [if_neg (by decide), h.stop (b2 rfl)]
        exact hr k (by omega)
    simp only [bits_Div64.l0]
    by_cases c : q ≥ 4294967296
    · rw [if_pos c]
      exact step true (fun _ => .inl c) (fun h => by cases h)
    · rw [if_neg c]
      have g1 := h.qy0
      have g2 : q * y0 ≤ 4294967295 * y0 := Int.mul_le_mul_of_nonneg_right (by omega) h.h0
      have := h.h0'; have := h.hr; have := h.hr'; have := h.hn; have := h.hn'
      rw [w64_in (x := q * y0) (by omega) (by omega), w64_in (x := 4294967296 * rh) (by omega) (by omega), w64_in (x := 4294967296 * rh + n) (by omega) (by omega)]
      exact step _ (fun hb => .inr (of_decide_eq_true hb)) (fun hb => of_decide_eq_false hb)
/-- The second digit's loop comes to the digit, and to the end. -/
theorem div_l1 {y y1 y0 u n x15 : Int} (s : Nat) (hU : U y) (t : Nat) :
    ∀ (k : Nat) (q rh : Int), 2 * t + 2 ≤ k → Est y y1 y0 u n q rh → 4294967296 ≤ rh + (t : Int) * 2147483648 →
      bits_Div64.l1 k y (s : Int) y1 y0 n x15 rh u q = some (IntKind.u64.wrap ((IntKind.u64.wrap (x15 * 4294967296)) + (u * 4294967296 + n) / y), shr .u64 ((u * 4294967296 + n) % y) (s : Int)) := by
  have rest : ∀ (q rh : Int), Est y y1 y0 u n q rh → IntKind.u64.wrap ((IntKind.u64.wrap ((IntKind.u64.wrap (u * 4294967296)) + n)) - (IntKind.u64.wrap ((u * 4294967296 + n) / y * y))) = (u * 4294967296 + n) % y := by
    intro q rh h
    have e := Int.mul_ediv_add_emod (u * 4294967296 + n) y
    rw [Int.mul_comm] at e
    have m0 := Int.emod_nonneg (u * 4294967296 + n) (show y ≠ 0 by have := h.pos; omega)
    have m1 := Int.emod_lt_of_pos (u * 4294967296 + n) h.pos
    have := hU.2
    simp only [w64]
    generalize (u * 4294967296 + n) / y * y = z at *
    omega
  induction t with
  | zero =>
    intro k q rh _ h ht
    have := h.hr'
    omega
  | succ t ih =>
    intro k q rh hk h ht
    obtain ⟨k, rfl⟩ : ∃ m, k = m + 2 := ⟨k - 2, by omega⟩
    have step : ∀ b : Bool, (b = true → q ≥ 4294967296 ∨ q * y0 > 4294967296 * rh + n) → (b = false → ¬ q * y0 > 4294967296 * rh + n) → bits_Div64.j4 (k + 1) y (s : Int) y1 y0 n x15 rh u q b = some (IntKind.u64.wrap ((IntKind.u64.wrap (x15 * 4294967296)) + (u * 4294967296 + n) / y), shr .u64 ((u * 4294967296 + n) % y) (s : Int)) := by
      intro b b1 b2
      simp only [bits_Div64.j4]
      cases b with
      | true =>
        have c := b1 rfl
        have hp := h.q_pos c
        have := h.q1; have := h.hr; have := h.hr'; have := h.h1; have := h.h1'
        rw [if_pos rfl, w64_in (x := rh + y1) (by omega) (by omega), w64_in (x := q - 1) (by omega) (by omega)]
        by_cases d : rh + y1 ≥ 4294967296
        · rw [if_pos d, if_pos (by omega), h.last c d, rest q rh h]
        · rw [if_neg d]
          exact ih k _ _ (by omega) (h.next c (by omega)) (by omega)
      | false =>
        rw [if_neg (by decide), if_pos (by omega)]
        have hq := h.stop (b2 rfl)
        have hz := rest q rh h
        rw [← hq] at hz ⊢
        rw [hz]
    simp only [bits_Div64.l1]
    by_cases c : q ≥ 4294967296
    · rw [if_pos c]
      exact step true (fun _ => .inl c) (fun h => by cases h)
    · rw [if_neg c]
      have g1 := h.qy0
      have g2 : q * y0 ≤ 4294967295 * y0 := Int.mul_le_mul_of_nonneg_right (by omega) h.h0
      have := h.h0'; have := h.hr; have := h.hr'; have := h.hn; have := h.hn'
      rw [w64_in (x := q * y0) (by omega) (by omega), w64_in (x := 4294967296 * rh) (by omega) (by omega), w64_in (x := 4294967296 * rh + n) (by omega) (by omega)]
      exact step _ (fun hb => .inr (of_decide_eq_true hb)) (fun hb => of_decide_eq_false hb)
end Go.Proofs.YtbhijfbjdbjpbaaDoor.Q
