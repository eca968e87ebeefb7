import Derived.Test.YtmgmggkebmgafaaDoorQLLadN
import Derived.Test.YtmgmggkebmgafaaDoorQLLadF
namespace Go.Proofs.YtmgmggkebmgafaaDoor.Q
open Go.RowKit

/-- The rungs with 128 bits, rounded up. -/
def upsN : List Nat := [240615969168004511545033772477625056928, 286142222517866327586855861304318312415, 312040306297756043528438546211487503612, 325855510927366467338765757798166302661, 332990817489906152516528174760363655118, 336616849754143321171240736068313607684, 338444645961211524111694060679677685514, 339362262485680770294711564297527942525, 339822003293300968391941903755125245322, 340052107201910159018235275086188756488, 340167217578529594754386235778394637198, 340224787378186065024124058177160890959, 340253575931572222344808541527975417863, 340267971121744950115931523046122852716, 340275168945212498243824544813253388218, 340278767914042977419818114301068315675, 340280567412732569420752589735540255587, 340281467165645975541538300962849720628, 340281917042994833884159925800699069146, 340282141981892302220047427165751816691, 340282254451396796222137840463944662898, 340282310686162983187095027395548206960, 340282338803549561661223530468750597253, 340282352862243722146284248737311181624, 340282359891591020200824223221658257109, 340282363406264723681097926634783937783, 340282365163601589034485871425767421622, 340282366042270025114492637597574848944, 340282366481604244005324221690708811931, 340282366701271353663447064309477272529, 340282366811104908545685248301961112249, 340282366866021686000098530973984089423]
def up (d : Nat) : Nat := upsN.getD (31 - d) 0
abbrev B2 : Nat := 340282366920938463463374607431768211456
def ufac (e d : Nat) : Nat := if bit e d = 0 then B2 else up d
def ZZ : Nat → Nat → Nat
  | 0, _ => 1
  | d + 1, e => ufac e d * ZZ d e
theorem up_sq : ∀ d : Fin 31, B2 * up (d.val + 1) ≤ up d.val * up d.val := by decide +kernel
theorem up_sq31 : B2 * B2 ≤ up 31 * up 31 * 2 := by decide +kernel
theorem up_le : ∀ d : Fin 32, up d.val ≤ B2 := by decide +kernel
theorem up_rung : ∀ d : Fin 32, up d.val * 6499999999999999999 ≤ rung d.val * BB * 6500000000000000000 := by decide +kernel
theorem ufac_le {e d : Nat} (h : d < 32) : ufac e d ≤ B2 := by
  unfold ufac
  split
  · exact Nat.le_refl _
  · exact up_le ⟨d, h⟩
theorem ZZ_le {e : Nat} : ∀ {d : Nat}, d ≤ 32 → ZZ d e ≤ B2 ^ d
  | 0, _ => Nat.le_refl _
  | d + 1, h => by rw [ZZ, Nat.pow_succ, Nat.mul_comm (B2 ^ d)]; exact Nat.mul_le_mul (ufac_le (by omega)) (ZZ_le (by omega))
theorem ZZ_mod {e n : Nat} : ∀ {d : Nat}, d ≤ n → ZZ d (e % 2 ^ n) = ZZ d e
  | 0, _ => rfl
  | d + 1, h => by
    rw [ZZ, ZZ, ZZ_mod (by omega)]
    unfold ufac
    rw [bit_mod e d n (by omega)]
theorem ZZ_XX {e : Nat} : ∀ {d : Nat}, d ≤ 32 → ZZ d e * 6499999999999999999 ^ d ≤ XX d e * BB ^ d * 6500000000000000000 ^ d
  | 0, _ => Nat.le_refl _
  | d + 1, h => by
    have ih := ZZ_XX (e := e) (d := d) (by omega)
    have s : ufac e d * 6499999999999999999 ≤ fac e d * BB * 6500000000000000000 := by
      unfold ufac fac
      split
      · decide
      · exact up_rung ⟨d, by omega⟩
    rw [ZZ, XX, Nat.pow_succ, Nat.pow_succ, Nat.pow_succ]
    have m := Nat.mul_le_mul s ih
    generalize 6499999999999999999 ^ d = a at *
    generalize 6500000000000000000 ^ d = b at *
    generalize BB ^ d = z at *
    generalize ufac e d = u at *
    generalize fac e d = w at *
    generalize ZZ d e = y at *
    generalize XX d e = x at *
    have e1 : u * y * (a * 6499999999999999999) = u * 6499999999999999999 * (y * a) := by ac_rfl
    have e2 : w * x * (z * BB) * (b * 6500000000000000000) = w * BB * 6500000000000000000 * (x * z * b) := by ac_rfl
    rw [e1, e2]
    exact m
theorem ufac_sq {e d : Nat} (h : d < 31) : B2 * ufac (2 * e) (d + 1) ≤ ufac e d * ufac e d := by
  unfold ufac
  rw [bit_two]
  split
  · exact Nat.le_refl _
  · exact up_sq ⟨d, h⟩
theorem ufac_sq31 (e : Nat) : B2 * B2 ≤ ufac e 31 * ufac e 31 * 2 ^ bit e 31 := by
  unfold ufac
  have b := bit_lt e 31
  split
  · rename_i h
    rw [h]
    decide
  · rw [show bit e 31 = 1 by omega]
    exact up_sq31
theorem ZZ_sq {e : Nat} : ∀ {d : Nat}, d ≤ 31 → B2 ^ d * ZZ (d + 1) (2 * e) ≤ ZZ d e * ZZ d e * B2
  | 0, _ => by
    have : ZZ (0 + 1) (2 * e) = B2 := by
      rw [ZZ, ZZ]
      unfold ufac
      rw [if_pos (bit_two0 e)]
      rfl
    rw [this, ZZ]
    decide
  | d + 1, h => by
    have ih := ZZ_sq (e := e) (d := d) (by omega)
    have s := ufac_sq (e := e) (d := d) (by omega)
    rw [show ZZ (d + 1 + 1) (2 * e) = ufac (2 * e) (d + 1) * ZZ (d + 1) (2 * e) from rfl, show ZZ (d + 1) e = ufac e d * ZZ d e from rfl, Nat.pow_succ]
    have m := Nat.mul_le_mul s ih
    generalize B2 ^ d = z at *
    generalize ufac (2 * e) (d + 1) = u at *
    generalize ufac e d = w at *
    generalize ZZ (d + 1) (2 * e) = y at *
    generalize ZZ d e = x at *
    have e1 : z * B2 * (u * y) = B2 * u * (z * y) := by ac_rfl
    have e2 : w * x * (w * x) * B2 = w * w * (x * x * B2) := by ac_rfl
    rw [e1, e2]
    exact m
theorem ZZ_sq32 (e : Nat) : B2 ^ 32 * ZZ 32 (2 * e) ≤ ZZ 32 e * ZZ 32 e * 2 ^ bit e 31 := by
  have ih := ZZ_sq (e := e) (d := 31) (by omega)
  have s := ufac_sq31 e
  have h : B2 ^ 32 * ZZ 32 (2 * e) * B2 ≤ ZZ 32 e * ZZ 32 e * 2 ^ bit e 31 * B2 := by
    have m := Nat.mul_le_mul s ih
    rw [show ZZ 32 e = ufac e 31 * ZZ 31 e from rfl, show B2 ^ 32 = B2 ^ 31 * B2 from rfl]
    generalize B2 ^ 31 = z at *
    generalize ufac e 31 = w at *
    generalize ZZ (31 + 1) (2 * e) = y at *
    generalize ZZ 31 e = x at *
    generalize 2 ^ bit e 31 = v at *
    have e1 : z * B2 * y * B2 = B2 * B2 * (z * y) := by ac_rfl
    have e2 : w * x * (w * x) * v * B2 = w * w * v * (x * x * B2) := by ac_rfl
    rw [e1, e2]
    exact m
  exact Nat.le_of_mul_le_mul_right h (by decide)
theorem c_num : (9223372036854775808 + 32) * 6500000000000000000 ^ 32 ≤ (9223372036854775808 + 81) * 6499999999999999999 ^ 32 ∧ 6499999999999999999 ^ 32 ≤ 6500000000000000000 ^ 32 := by decide +kernel
/-- The upper bound is above the product of the upper rungs. -/
theorem hi_ZZ {f h : Nat} (hh : h = gg f + 81 ∨ h = 9223372036854775808) : 9223372036854775808 * ZZ 32 f ≤ h * B2 ^ 32 := by
  rcases hh with hh | hh
  · have a := ZZ_XX (e := f) (d := 32) (by omega)
    have b := gg_lower f
    have g := gg_le f
    obtain ⟨n1, n2⟩ := c_num
    subst hh
    have hc : (gg f + 32) * 6500000000000000000 ^ 32 ≤ (gg f + 81) * 6499999999999999999 ^ 32 := by
      obtain ⟨r, hr⟩ := Nat.le.dest g
      obtain ⟨t, ht⟩ := Nat.le.dest n2
      rw [← hr] at n1
      generalize 6500000000000000000 ^ 32 = x at *
      generalize 6499999999999999999 ^ 32 = y at *
      generalize gg f = w at *
      subst ht
      have e1 : (w + r + 32) * (y + t) = (w + 32) * (y + t) + r * (y + t) := by grind
      have e2 : (w + r + 81) * y = (w + 81) * y + r * y := by grind
      have e3 : r * (y + t) = r * y + r * t := by grind
      omega
    have p : 0 < 6499999999999999999 ^ 32 := by decide
    have q : B2 ^ 32 = BB ^ 32 * BB ^ 32 := by decide +kernel
    rw [q]
    generalize 6500000000000000000 ^ 32 = x at *
    generalize 6499999999999999999 ^ 32 = y at *
    generalize ZZ 32 f = z at *
    generalize XX 32 f = v at *
    generalize gg f = w at *
    generalize BB ^ 32 = B at *
    refine Nat.le_of_mul_le_mul_right (c := y) ?_ p
    have s1 : 9223372036854775808 * z * y ≤ 9223372036854775808 * v * (B * x) := by
      have := Nat.mul_le_mul_left 9223372036854775808 a
      have e1 : 9223372036854775808 * (z * y) = 9223372036854775808 * z * y := by ac_rfl
      have e2 : 9223372036854775808 * (v * B * x) = 9223372036854775808 * v * (B * x) := by ac_rfl
      rw [e1, e2] at this
      exact this
    have s2 : 9223372036854775808 * v * (B * x) ≤ (w + 32) * B * (B * x) := Nat.mul_le_mul_right _ b
    have s3 : (w + 32) * B * (B * x) = (w + 32) * x * (B * B) := by ac_rfl
    have s4 : (w + 32) * x * (B * B) ≤ (w + 81) * y * (B * B) := Nat.mul_le_mul_right _ hc
    have s5 : (w + 81) * y * (B * B) = (w + 81) * (B * B) * y := by ac_rfl
    omega
  · rw [hh]
    exact Nat.mul_le_mul_left _ (ZZ_le (by omega))
end Go.Proofs.YtmgmggkebmgafaaDoor.Q
