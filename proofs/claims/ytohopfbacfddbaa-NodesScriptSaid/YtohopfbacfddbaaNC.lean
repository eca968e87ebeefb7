/- Contracts of the functions of package nodes, part C: what each call answers and leaves. Conditions: each theorem's own. -/
import Derived.Test.YtohopfbacfddbaaNB
namespace Go.Proofs.Ytohopfbacfddbaa.N
open Go.RowKit Go.Proofs.YtohopfbacfddbaaW.PrintWords

/-- Bits of a word that are set. -/
def popc : Nat → Nat → Nat
  | 0, _ => 0
  | k + 1, x => x % 2 + popc k (x / 2)
theorem popc_add (k : Nat) : ∀ (j x : Nat), popc (j + k) x = popc j (x % 2 ^ j) + popc k (x / 2 ^ j)
  | 0, x => by simp [popc, Nat.mod_one]
  | j + 1, x => by
    have h := popc_add k j (x / 2)
    rw [show j + 1 + k = (j + k) + 1 by omega]
    simp only [popc]
    rw [h, Nat.div_div_eq_div_mul, show 2 * 2 ^ j = 2 ^ (j + 1) by rw [Nat.pow_succ]; omega]
    have e1 : x % 2 ^ (j + 1) % 2 = x % 2 := Nat.mod_mod_of_dvd _ ⟨2 ^ j, by rw [Nat.pow_succ]; omega⟩
    have e2 : x % 2 ^ (j + 1) / 2 = x / 2 % 2 ^ j := by
      rw [Nat.pow_succ, Nat.mul_comm, Nat.mod_mul_right_div_self]
    rw [e1, e2]; omega
theorem and_byte (a b c d : Nat) (ha : a < 256) (hc : c < 256) : (a + 256 * b) &&& (c + 256 * d) = (a &&& c) + 256 * (b &&& d) := by
  have h1 := Nat.and_mod_two_pow (a := a + 256 * b) (b := c + 256 * d) (n := 8)
  have h2 := Nat.and_div_two_pow (a := a + 256 * b) (b := c + 256 * d) (n := 8)
  have e : 2 ^ 8 = 256 := rfl
  rw [e] at h1 h2
  rw [show (a + 256 * b) % 256 = a by omega, show (c + 256 * d) % 256 = c by omega] at h1
  rw [show (a + 256 * b) / 256 = b by omega, show (c + 256 * d) / 256 = d by omega] at h2
  generalize a &&& c = u at *
  generalize b &&& d = v at *
  generalize (a + 256 * b) &&& (c + 256 * d) = z at *
  omega
def m5 : Nat → Nat | 0 => 0 | k + 1 => 0x55 + 256 * m5 k
def m3 : Nat → Nat | 0 => 0 | k + 1 => 0x33 + 256 * m3 k
def mf : Nat → Nat | 0 => 0 | k + 1 => 0x0f + 256 * mf k
theorem m5_s (k : Nat) : m5 (k + 1) = 0x55 + 256 * m5 k := rfl
theorem m3_s (k : Nat) : m3 (k + 1) = 0x33 + 256 * m3 k := rfl
theorem mf_s (k : Nat) : mf (k + 1) = 0x0f + 256 * mf k := rfl
def s1 (k x : Nat) : Nat := (x / 2 &&& m5 k) + (x &&& m5 k)
def s2 (k x : Nat) : Nat := (x / 4 &&& m3 k) + (x &&& m3 k)
def s3 (k x : Nat) : Nat := (x / 16 + x) &&& mf k
def f1 (a : Nat) : Nat := (a / 2 &&& 0x55) + (a &&& 0x55)
def f2 (a : Nat) : Nat := (a / 4 &&& 0x33) + (a &&& 0x33)
def f3 (a : Nat) : Nat := (a / 16 + a) &&& 0x0f
theorem d1 : ∀ a, a < 256 → ∀ r, r < 2 → (a / 2 + 128 * r) &&& 0x55 = a / 2 &&& 0x55 := by decide +kernel
theorem d2 : ∀ a, a < 256 → ∀ r, r < 4 → (a / 4 + 64 * r) &&& 0x33 = a / 4 &&& 0x33 := by decide +kernel
theorem d3 : ∀ a, a < 69 → ∀ r, r < 5 → (a / 16 + a + 16 * r) &&& 0x0f = f3 a := by decide +kernel
theorem d4 : ∀ a, a < 256 → f1 a < 256 ∧ f2 (f1 a) < 69 ∧ f2 (f1 a) % 16 < 5 ∧ f3 (f2 (f1 a)) = popc 8 a ∧ popc 8 a < 9 := by decide +kernel
theorem s1_step (k a b : Nat) (ha : a < 256) : s1 (k + 1) (a + 256 * b) = f1 a + 256 * s1 k b := by
  unfold s1 f1
  rw [m5_s, show (a + 256 * b) / 2 = (a / 2 + 128 * (b % 2)) + 256 * (b / 2) by omega, and_byte _ _ _ _ (by omega) (by omega), and_byte _ _ _ _ ha (by omega), d1 a ha _ (by omega)]
  omega
theorem s2_step (k a b : Nat) (ha : a < 256) : s2 (k + 1) (a + 256 * b) = f2 a + 256 * s2 k b := by
  unfold s2 f2
  rw [m3_s, show (a + 256 * b) / 4 = (a / 4 + 64 * (b % 4)) + 256 * (b / 4) by omega, and_byte _ _ _ _ (by omega) (by omega), and_byte _ _ _ _ ha (by omega), d2 a ha _ (by omega)]
  omega
theorem s3_step (k a b : Nat) (ha : a < 69) (hb : b % 16 < 5) : s3 (k + 1) (a + 256 * b) = f3 a + 256 * s3 k b := by
  unfold s3
  rw [mf_s, show (a + 256 * b) / 16 + (a + 256 * b) = (a / 16 + a + 16 * (b % 16)) + 256 * (b / 16 + b) by omega, and_byte _ _ _ _ (by omega) (by omega), d3 a ha _ hb]
/-- Each byte holds how many of its bits were set. -/
def bT : Nat → Nat → Nat | 0, _ => 0 | k + 1, x => popc 8 (x % 256) + 256 * bT k (x / 256)
theorem swar : ∀ (k x : Nat), x < 256 ^ k → s2 k (s1 k x) % 16 < 5 ∧ s3 k (s2 k (s1 k x)) = bT k x
  | 0, x, h => by
    simp [s1, s2, s3, m5, m3, mf, bT]
  | k + 1, x, h => by
    have ha : x % 256 < 256 := by omega
    obtain ⟨h1, h2, h3, h4, -⟩ := d4 (x % 256) ha
    have hb : x / 256 < 256 ^ k := by
      rw [Nat.pow_succ] at h
      exact Nat.div_lt_of_lt_mul (by omega)
    obtain ⟨i1, i2⟩ := swar k (x / 256) hb
    have e : x = x % 256 + 256 * (x / 256) := by omega
    rw [e, s1_step k _ _ ha, s2_step k _ _ h1, s3_step k _ _ h2 i1, i2, h4]
    refine ⟨by omega, ?_⟩
    rw [← e, bT]
theorem dg (a b : Nat) (h : a < 256) : (a + 256 * b) / 256 = b := by omega
theorem dg0 (a : Nat) (h : a < 256) : a / 256 = 0 := by omega
theorem sum_aux (v p0 p1 p2 p3 p4 p5 p6 p7 : Nat) (b0 : p0 < 9) (b1 : p1 < 9) (b2 : p2 < 9) (b3 : p3 < 9) (b4 : p4 < 9) (b5 : p5 < 9) (b6 : p6 < 9) (b7 : p7 < 9)
    (hv : v = p0 + 256 * (p1 + 256 * (p2 + 256 * (p3 + 256 * (p4 + 256 * (p5 + 256 * (p6 + 256 * p7))))))) :
    v < 18446744073709551616 ∧ v + v / 256 < 18446744073709551616 ∧ (v + v / 256) + (v + v / 256) / 65536 < 18446744073709551616 ∧
    ((v + v / 256) + (v + v / 256) / 65536) + ((v + v / 256) + (v + v / 256) / 65536) / 4294967296 < 9223372036854775808 ∧
    (((v + v / 256) + (v + v / 256) / 65536) + ((v + v / 256) + (v + v / 256) / 65536) / 4294967296) % 128 = p0 + p1 + p2 + p3 + p4 + p5 + p6 + p7 := by
  have e1 : v / 256 = p1 + 256 * (p2 + 256 * (p3 + 256 * (p4 + 256 * (p5 + 256 * (p6 + 256 * p7))))) := by rw [hv, dg _ _ (by omega)]
  obtain ⟨A, hA⟩ : ∃ A, A = v + v / 256 := ⟨_, rfl⟩
  have hA2 : A = (p0 + p1) + 256 * ((p1 + p2) + 256 * ((p2 + p3) + 256 * ((p3 + p4) + 256 * ((p4 + p5) + 256 * ((p5 + p6) + 256 * ((p6 + p7) + 256 * p7)))))) := by rw [hA, e1, hv]; omega
  have e2 : A / 65536 = (p2 + p3) + 256 * ((p3 + p4) + 256 * ((p4 + p5) + 256 * ((p5 + p6) + 256 * ((p6 + p7) + 256 * p7)))) := by
    rw [show 65536 = 256 * 256 from rfl, ← Nat.div_div_eq_div_mul, hA2, dg _ _ (by omega), dg _ _ (by omega)]
  obtain ⟨B, hB⟩ : ∃ B, B = A + A / 65536 := ⟨_, rfl⟩
  have hB2 : B = (p0 + p1 + p2 + p3) + 256 * ((p1 + p2 + p3 + p4) + 256 * ((p2 + p3 + p4 + p5) + 256 * ((p3 + p4 + p5 + p6) + 256 * ((p4 + p5 + p6 + p7) + 256 * ((p5 + p6 + p7) + 256 * ((p6 + p7) + 256 * p7)))))) := by rw [hB, e2, hA2]; omega
  have e3 : B / 4294967296 = (p4 + p5 + p6 + p7) + 256 * ((p5 + p6 + p7) + 256 * ((p6 + p7) + 256 * p7)) := by
    rw [show 4294967296 = 256 * 256 * 256 * 256 from rfl, ← Nat.div_div_eq_div_mul, ← Nat.div_div_eq_div_mul, ← Nat.div_div_eq_div_mul, hB2, dg _ _ (by omega), dg _ _ (by omega), dg _ _ (by omega), dg _ _ (by omega)]
  rw [← hA, ← hB, e3]
  clear e1 e2 e3 hA hB
  refine ⟨by omega, by omega, by omega, by omega, ?_⟩
  obtain ⟨q, hq⟩ : ∃ q, B + (p4 + p5 + p6 + p7 + 256 * (p5 + p6 + p7 + 256 * (p6 + p7 + 256 * p7))) = (p0 + p1 + p2 + p3 + p4 + p5 + p6 + p7) + 256 * q := ⟨_, by rw [hB2, show ∀ a b c d : Nat, a + 256 * b + (c + 256 * d) = (a + c) + 256 * (b + d) by intros; omega, ← Nat.add_assoc, ← Nat.add_assoc, ← Nat.add_assoc]⟩
  rw [hq]; clear hq hB2 hA2 hv
  omega
theorem bT_s (k x : Nat) : bT (k + 1) x = popc 8 (x % 256) + 256 * bT k (x / 256) := rfl
theorem pop_sum : ∀ (k x : Nat), x < 256 ^ (k + 1) → popc (8 * (k + 1)) x = popc 8 (x % 256) + popc (8 * k) (x / 256) := fun k x _ => by
  have := popc_add (8 * k) 8 x
  rw [show 8 + 8 * k = 8 * (k + 1) by omega] at this
  exact this
theorem byte_sum (x v : Nat) (hx : x < 18446744073709551616) (hv : v = bT 8 x) :
    v < 18446744073709551616 ∧ v + v / 256 < 18446744073709551616 ∧ (v + v / 256) + (v + v / 256) / 65536 < 18446744073709551616 ∧
    ((v + v / 256) + (v + v / 256) / 65536) + ((v + v / 256) + (v + v / 256) / 65536) / 4294967296 < 9223372036854775808 ∧
    (((v + v / 256) + (v + v / 256) / 65536) + ((v + v / 256) + (v + v / 256) / 65536) / 4294967296) % 128 = popc 64 x := by
  have hb : ∀ a, popc 8 (a % 256) < 9 := fun a => (d4 _ (Nat.mod_lt _ (by decide))).2.2.2.2
  have h := sum_aux v _ _ _ _ _ _ _ _ (hb x) (hb (x / 256)) (hb (x / 256 / 256)) (hb (x / 256 / 256 / 256)) (hb (x / 256 / 256 / 256 / 256)) (hb (x / 256 / 256 / 256 / 256 / 256)) (hb (x / 256 / 256 / 256 / 256 / 256 / 256)) (hb (x / 256 / 256 / 256 / 256 / 256 / 256 / 256)) (by
    rw [hv]
    rw [bT_s 7, bT_s 6, bT_s 5, bT_s 4, bT_s 3, bT_s 2, bT_s 1, bT_s 0, bT, Nat.mul_zero, Nat.add_zero])
  refine ⟨h.1, h.2.1, h.2.2.1, h.2.2.2.1, h.2.2.2.2.trans ?_⟩
  have p7 := pop_sum 7 x (by omega)
  have p6 := pop_sum 6 (x / 256) (by omega)
  have p5 := pop_sum 5 (x / 256 / 256) (by omega)
  have p4 := pop_sum 4 (x / 256 / 256 / 256) (by omega)
  have p3 := pop_sum 3 (x / 256 / 256 / 256 / 256) (by omega)
  have p2 := pop_sum 2 (x / 256 / 256 / 256 / 256 / 256) (by omega)
  have p1 := pop_sum 1 (x / 256 / 256 / 256 / 256 / 256 / 256) (by omega)
  have p0 := pop_sum 0 (x / 256 / 256 / 256 / 256 / 256 / 256 / 256) (by omega)
  rw [show 64 = 8 * (7 + 1) from rfl, p7, p6, p5, p4, p3, p2, p1, p0]
  rw [popc]
  simp only [Nat.add_assoc, Nat.add_zero]
theorem wrap_nat (n : Nat) (h : n < 18446744073709551616) : ((n : Nat) : Int) % 18446744073709551616 = (n : Int) := by omega
theorem s_lt1 (x : Nat) (hx : x < 18446744073709551616) : s1 8 x < 18446744073709551616 := by
  have h1 : x / 2 &&& m5 8 ≤ m5 8 := Nat.and_le_right
  have h2 : x &&& m5 8 ≤ m5 8 := Nat.and_le_right
  have h3 : m5 8 = 6148914691236517205 := rfl
  unfold s1; omega
theorem s_lt2 (x : Nat) (hx : x < 18446744073709551616) : s2 8 x < 18446744073709551616 := by
  have h1 : x / 4 &&& m3 8 ≤ m3 8 := Nat.and_le_right
  have h2 : x &&& m3 8 ≤ m3 8 := Nat.and_le_right
  have h3 : m3 8 = 3689348814741910323 := rfl
  unfold s2; omega
theorem s_lt3 (x : Nat) (hx : x < 18446744073709551616) : s2 8 x / 16 + s2 8 x < 18446744073709551616 := by
  have h1 : x / 4 &&& m3 8 ≤ m3 8 := Nat.and_le_right
  have h2 : x &&& m3 8 ≤ m3 8 := Nat.and_le_right
  have h3 : m3 8 = 3689348814741910323 := rfl
  unfold s2; omega
theorem low7 (c : Nat) (hc : c < 9223372036854775808) : Go.bits .and .i64 (c : Int) 127 = ((c % 128 : Nat) : Int) := by
  have h := bits_mask .i64 63 (by decide) (fun n h0 h1 => by rw [IntKind.wrap_i64]; omega) 7 (by decide) (c : Int) (by omega) (by omega)
  rw [show ((2 : Int) ^ 7 - 1) = 127 from rfl] at h
  rw [h]
  rfl
set_option maxHeartbeats 8000000 in
set_option maxRecDepth 100000 in
theorem ones_calls (w : World) (x : Nat) (hx : x < 18446744073709551616) :
    Calls Try.prog 22 #[.int .u64 x] w fun e w' => e = .returned (.int .i64 (popc 64 x : Nat)) ∧ w = w' := by
  obtain ⟨y, hy⟩ : ∃ y, y = s1 8 x := ⟨_, rfl⟩
  obtain ⟨z, hz⟩ : ∃ z, z = s2 8 y := ⟨_, rfl⟩
  obtain ⟨v, hv⟩ : ∃ v, v = s3 8 z := ⟨_, rfl⟩
  have hsw := (swar 8 x (by exact hx)).2
  rw [← hy, ← hz, ← hv] at hsw
  obtain ⟨v1, v2, v3, v4, v5⟩ := byte_sum x v hx hsw
  have hy64 : y < 18446744073709551616 := by rw [hy]; exact s_lt1 x hx
  have hz64 : z < 18446744073709551616 := by rw [hz]; exact s_lt2 y hy64
  have e1 : IntKind.u64.wrap (Go.bits .and .u64 ((x : Int) / 2) 6148914691236517205 + Go.bits .and .u64 (x : Int) 6148914691236517205) = (y : Int) := by
    rw [show ((x : Int) / 2) = ((x / 2 : Nat) : Int) by omega, show (6148914691236517205 : Int) = ((6148914691236517205 : Nat) : Int) from rfl, u64_and _ _ (by omega) (by decide), u64_and _ _ hx (by decide), wrap_u64_, hy]
    exact wrap_nat _ (s_lt1 x hx)
  have e2 : IntKind.u64.wrap (Go.bits .and .u64 ((y : Int) / 4) 3689348814741910323 + Go.bits .and .u64 (y : Int) 3689348814741910323) = (z : Int) := by
    rw [show ((y : Int) / 4) = ((y / 4 : Nat) : Int) by omega, show (3689348814741910323 : Int) = ((3689348814741910323 : Nat) : Int) from rfl, u64_and _ _ (by omega) (by decide), u64_and _ _ hy64 (by decide), wrap_u64_, hz]
    exact wrap_nat _ (s_lt2 y hy64)
  have e3 : Go.bits .and .u64 (IntKind.u64.wrap ((z : Int) / 16 + (z : Int))) 1085102592571150095 = (v : Int) := by
    have hz2 := s_lt3 y hy64
    rw [← hz] at hz2
    rw [show IntKind.u64.wrap ((z : Int) / 16 + (z : Int)) = ((z / 16 + z : Nat) : Int) by rw [wrap_u64_]; omega, show (1085102592571150095 : Int) = ((1085102592571150095 : Nat) : Int) from rfl, u64_and _ _ (by omega) (by decide), hv]
    rfl
  obtain ⟨a, ha⟩ : ∃ a, a = v + v / 256 := ⟨_, rfl⟩
  obtain ⟨b, hb⟩ : ∃ b, b = a + a / 65536 := ⟨_, rfl⟩
  obtain ⟨c, hc⟩ : ∃ c, c = b + b / 4294967296 := ⟨_, rfl⟩
  rw [← ha] at v2 v3 v4 v5
  rw [← hb] at v3 v4 v5
  rw [← hc] at v4 v5
  have e4 : IntKind.u64.wrap ((v : Int) + (v : Int) / 256) = (a : Int) := by rw [wrap_u64_]; omega
  have e5 : IntKind.u64.wrap ((a : Int) + (a : Int) / 65536) = (b : Int) := by rw [wrap_u64_]; omega
  have e6 : IntKind.u64.wrap ((b : Int) + (b : Int) / 4294967296) = (c : Int) := by rw [wrap_u64_]; omega
  have H := Aside0.mk v5
  have e7 : Aside0 (Go.bits .and .i64 (c : Int) 127 = ((popc 64 x : Nat) : Int)) := ⟨by
    rw [← v5]
    exact low7 c v4⟩
  clear v1 v2 v3 v5 ha hb hc hsw hy hz hv hy64 hz64
  go_enter Try.func22, Try.ntmps22
  go_wp2
  go_ret
  exact ⟨by rw [← e7.out]; rfl, rfl⟩
end Go.Proofs.Ytohopfbacfddbaa.N
