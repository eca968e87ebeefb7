import Derived.Test.YtbhijfbjdbjpbaaDoorQSHBase
namespace Go.Proofs.YtbhijfbjdbjpbaaDoor.Q

/-- A guess at a digit of a quotient (base 2^32), too large by few. -/
structure Est (y y1 y0 u n q r : Int) : Prop where
  hy : y = y1 * 4294967296 + y0
  h1 : 2147483648 ≤ y1
  h1' : y1 < 4294967296
  h0 : 0 ≤ y0
  h0' : y0 < 4294967296
  hu : 0 ≤ u
  hu' : u < y
  hn : 0 ≤ n
  hn' : n < 4294967296
  hq : q * y1 + r = u
  hr : 0 ≤ r
  hr' : r < 4294967296
  q0 : 0 ≤ q
  q1 : q ≤ 4294967297
  le : (u * 4294967296 + n) / y ≤ q
theorem Est.mul {y y1 y0 u n q r : Int} (h : Est y y1 y0 u n q r) (c : Int) : c * y = c * y1 * 4294967296 + c * y0 := by
  rw [h.hy, Int.mul_add, Int.mul_assoc]
theorem Est.pos {y y1 y0 u n q r : Int} (h : Est y y1 y0 u n q r) : 0 < y := by
  have := h.hy; have := h.h1; have := h.h0; omega
theorem Est.small {y y1 y0 u n q r : Int} (h : Est y y1 y0 u n q r) : (u * 4294967296 + n) / y < 4294967296 := by
  rw [Int.ediv_lt_iff_lt_mul h.pos]
  have := h.hu'; have := h.hn'; have := h.hn; have := h.hu
  omega
theorem Est.qy0 {y y1 y0 u n q r : Int} (h : Est y y1 y0 u n q r) : 0 ≤ q * y0 := Int.mul_nonneg h.q0 h.h0
theorem Est.stop {y y1 y0 u n q r : Int} (h : Est y y1 y0 u n q r) (c : ¬ q * y0 > 4294967296 * r + n) : q = (u * 4294967296 + n) / y := by
  refine Int.le_antisymm ?_ h.le
  rw [Int.le_ediv_iff_mul_le h.pos, h.mul q]
  have := h.hq
  omega
theorem Est.more {y y1 y0 u n q r : Int} (h : Est y y1 y0 u n q r) (c : q ≥ 4294967296 ∨ q * y0 > 4294967296 * r + n) : (u * 4294967296 + n) / y ≤ q - 1 := by
  rcases c with c | c
  · have := h.small
    omega
  · have : (u * 4294967296 + n) / y < q := by
      rw [Int.ediv_lt_iff_lt_mul h.pos, h.mul q]
      have := h.hq
      omega
    omega
theorem Est.q_pos {y y1 y0 u n q r : Int} (h : Est y y1 y0 u n q r) (c : q ≥ 4294967296 ∨ q * y0 > 4294967296 * r + n) : 1 ≤ q := by
  have h1 := h.more c
  have : 0 ≤ (u * 4294967296 + n) / y := Int.ediv_nonneg (by have := h.hu; have := h.hn; omega) (Int.le_of_lt h.pos)
  omega
theorem Est.next {y y1 y0 u n q r : Int} (h : Est y y1 y0 u n q r) (c : q ≥ 4294967296 ∨ q * y0 > 4294967296 * r + n) (hr : r + y1 < 4294967296) : Est y y1 y0 u n (q - 1) (r + y1) where
  hy := h.hy
  h1 := h.h1
  h1' := h.h1'
  h0 := h.h0
  h0' := h.h0'
  hu := h.hu
  hu' := h.hu'
  hn := h.hn
  hn' := h.hn'
  hq := by have := h.hq; rw [Int.sub_mul]; omega
  hr := by have := h.hr; have := h.h1; omega
  hr' := hr
  q0 := by have := h.q_pos c; omega
  q1 := by have := h.q1; omega
  le := h.more c
theorem Est.last {y y1 y0 u n q r : Int} (h : Est y y1 y0 u n q r) (c : q ≥ 4294967296 ∨ q * y0 > 4294967296 * r + n) (hr : r + y1 ≥ 4294967296) : q - 1 = (u * 4294967296 + n) / y := by
  refine Int.le_antisymm ?_ (h.more c)
  rw [Int.le_ediv_iff_mul_le h.pos, h.mul (q - 1)]
  have e := h.hq
  have hp := h.q_pos c
  have b1 : (q - 1) * y0 ≤ 4294967296 * y0 := Int.mul_le_mul_of_nonneg_right (by have := h.q1; omega) h.h0
  have := h.h0'
  have := h.hn
  rw [Int.sub_mul q 1 y1]
  omega
theorem Est.start {y y1 y0 u n : Int} (hy : y = y1 * 4294967296 + y0) (h1 : 2147483648 ≤ y1) (h1' : y1 < 4294967296) (h0 : 0 ≤ y0) (h0' : y0 < 4294967296) (hu : 0 ≤ u) (hu' : u < y) (hn : 0 ≤ n) (hn' : n < 4294967296) :
    Est y y1 y0 u n (u / y1) (u - u / y1 * y1) := by
  have e := Int.mul_ediv_add_emod u y1
  rw [Int.mul_comm] at e
  have m0 := Int.emod_nonneg u (show y1 ≠ 0 by omega)
  have m1 := Int.emod_lt_of_pos u (show 0 < y1 by omega)
  have q0 : 0 ≤ u / y1 := Int.ediv_nonneg hu (by omega)
  refine ⟨hy, h1, h1', h0, h0', hu, hu', hn, hn', by omega, by omega, by omega, q0, ?_, ?_⟩
  · have : u / y1 < 4294967298 := by
      rw [Int.ediv_lt_iff_lt_mul (by omega)]
      omega
    omega
  · have : (u * 4294967296 + n) / y < u / y1 + 1 := by
      rw [Int.ediv_lt_iff_lt_mul (by omega), hy, Int.mul_add, ← Int.mul_assoc]
      simp only [Int.add_mul]
      have : 0 ≤ u / y1 * y0 := Int.mul_nonneg q0 h0
      omega
    omega
end Go.Proofs.YtbhijfbjdbjpbaaDoor.Q
