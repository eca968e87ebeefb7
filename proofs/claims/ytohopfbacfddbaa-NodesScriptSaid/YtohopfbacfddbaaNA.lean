/- Contracts of the functions of package nodes, part A: what each call answers and leaves. Conditions: each theorem's own. -/
import Derived.Test.YtohopfbacfddbaaHead
namespace Go.Proofs.Ytohopfbacfddbaa.N
open Go.RowKit Go.Proofs.YtohopfbacfddbaaW.PrintWords

/-- A machine of n nodes whose words are t 0 .. t 3, at block g. -/
def setCells (n : Nat) (t : Nat → Nat) : Array Value := #[.int .i64 n, .int .u64 (t 0), .int .u64 (t 1), .int .u64 (t 2), .int .u64 (t 3)]
def bitT (t : Nat → Nat) (i : Nat) : Bool := (t (i / 64)).testBit (i % 64)
def flip (t : Nat → Nat) (i : Nat) : Nat → Nat := fun j => if j = i / 64 then t j ^^^ 2 ^ (i % 64) else t j
def turnT (t : Nat → Nat) (l : List Int) : Nat → Nat := l.foldl (fun t x => flip t x.toNat) t
structure SetAt (w : World) (g : Nat) (n : Nat) (t : Nat → Nat) : Prop where
  blk : w.heap[g]? = some (.cells (setCells n t) 54 (0, 0))
  le : n ≤ 256
  lt : ∀ j, t j < 18446744073709551616
  out : ∀ i, n ≤ i → i < 256 → bitT t i = false

theorem SetAt.cell0 {w g n t} (h : SetAt w g n t) : w.cell? ⟨g, 0, none⟩ = some (.int .i64 n) := by
  simp [World.cell?, h.blk, setCells]
theorem SetAt.cell {w g n t} (h : SetAt w g n t) (j : Nat) (hj : j < 4) : w.cell? ⟨g, 1 + j, none⟩ = some (.int .u64 (t j)) := by
  have : j = 0 ∨ j = 1 ∨ j = 2 ∨ j = 3 := by omega
  rcases this with rfl | rfl | rfl | rfl <;> simp [World.cell?, h.blk, setCells]
theorem SetAt.free {w g n t} (h : SetAt w g n t) (j : Nat) : w.frozen? ⟨g, j, none⟩ = false := by
  simp [World.frozen?, h.blk]
theorem SetAt.kept {w w' g n t} {row : Option Nat} (h : SetAt w g n t) (hg : w.grownBy w' row) (hne : some g ≠ row) : SetAt w' g n t :=
  ⟨by rw [hg.block g (Array.getElem?_eq_some_iff.1 h.blk).1 hne]; exact h.blk, h.le, h.lt, h.out⟩
theorem flip_lt {t : Nat → Nat} (h : ∀ j, t j < 18446744073709551616) (i : Nat) : ∀ j, flip t i j < 18446744073709551616 := by
  intro j
  unfold flip
  split
  · have h1 : 2 ^ (i % 64) < 2 ^ 64 := Nat.pow_lt_pow_right (by omega) (by omega)
    exact Nat.xor_lt_two_pow (n := 64) (h j) h1
  · exact h j
theorem bit_flip (t : Nat → Nat) (i j : Nat) : bitT (flip t i) j = (bitT t j ^^ decide (i = j)) := by
  unfold bitT flip
  by_cases h : j / 64 = i / 64
  · rw [if_pos h, Nat.testBit_xor, Nat.testBit_two_pow]
    congr 1
    rw [decide_eq_decide]
    omega
  · rw [if_neg h]
    have : i ≠ j := fun e => h (by rw [e])
    simp [this]
theorem SetAt.set {w g n t} (h : SetAt w g n t) (i : Nat) (hi : i < n) : SetAt (w.setCell ⟨g, 1 + i / 64, none⟩ (.int .u64 ((t (i / 64) ^^^ 2 ^ (i % 64) : Nat) : Int))) g n (flip t i) := by
  have hle := h.le
  refine ⟨?_, h.le, flip_lt h.lt i, fun j h1 h2 => by rw [bit_flip, h.out j h1 h2]; simp; omega⟩
  have : i / 64 = 0 ∨ i / 64 = 1 ∨ i / 64 = 2 ∨ i / 64 = 3 := by omega
  simp only [World.setCell, Array.getElem?_modify, h.blk]
  rcases this with e | e | e | e <;> simp [setCells, flip, e]
theorem gb_setCell (w : World) (g o : Nat) (v : Value) : w.grownBy (w.setCell ⟨g, o, none⟩ v) (some g) :=
  ⟨rfl, rfl, rfl, by simp [World.setCell], fun k hk hne => by
    have : k ≠ g := fun e => hne (by rw [e])
    exact Below.heap_setCell _ _ _ _ this⟩
theorem gb_drewN (w : World) (n : Nat) (row : Option Nat) : w.grownBy (w.drewN n) row := ⟨rfl, rfl, rfl, Nat.le_refl _, fun _ _ _ => rfl⟩
theorem gb_drew (w : World) (row : Option Nat) : w.grownBy w.drew row := ⟨rfl, rfl, rfl, Nat.le_refl _, fun _ _ _ => rfl⟩
theorem gb_refl (w : World) (row : Option Nat) : w.grownBy w row := ⟨rfl, rfl, rfl, Nat.le_refl _, fun _ _ _ => rfl⟩
theorem gb_any {w w' : World} (h : w.grownBy w' none) (row : Option Nat) : w.grownBy w' row := ⟨h.os, h.tape, h.output, h.size, fun k hk _ => h.block k hk (by simp)⟩
theorem gb_of_below {w w' : World} (h : Below w.heap.size w w') (row : Option Nat) : w.grownBy w' row := ⟨h.os, h.tape, h.output, h.size, fun k hk _ => h.block k hk⟩
theorem below_of_gb {w w' : World} (h : w.grownBy w' none) : Below w.heap.size w w' := ⟨h.os, h.tape, h.output, h.size, fun k hk => h.block k hk (by simp)⟩
theorem ri_kept {w w' : World} {k : IntKind} {A : Option Addr} {n : Nat} {xs : List Int} {row : Option Nat} (h : ReadsInt w k A n xs) (hg : w.grownBy w' row) (hne : ∀ ad, A = some ad → some ad.block ≠ row) : ReadsInt w' k A n xs :=
  ⟨h.1, h.2.1, fun hn => by
    obtain ⟨ad, e, hc⟩ := h.2.2 hn
    refine ⟨ad, e, fun j hj => hg.cell (hc j hj) ?_⟩
    have hb : (ad.add j).block = ad.block := by unfold Addr.add; split <;> rfl
    rw [hb]; exact hne ad e⟩

theorem ri_at {w : World} {k : IntKind} {A : Option Addr} {n : Nat} {xs : List Int} (h : ReadsInt w k A n xs) (j : Nat) (hj : j < n) : ∃ ad, A = some ad ∧ w.cell? (ad.add j) = some (.int k (rd xs (j : Int))) := by
  obtain ⟨ad, e, hc⟩ := h.2.2 (by omega)
  exact ⟨ad, e, by simpa [rd] using hc j hj⟩

theorem wrap_u64_ (n : Int) : IntKind.u64.wrap n = n % 18446744073709551616 := by simp [IntKind.wrap, IntKind.bits, IntKind.signed]
theorem p2_lt (k : Nat) (hk : k < 64) : 2 ^ k < 18446744073709551616 := Nat.pow_lt_pow_right (a := 2) (by omega) hk
theorem u64_and (a b : Nat) (ha : a < 18446744073709551616) (hb : b < 18446744073709551616) : Go.bits .and .u64 a b = ((a &&& b : Nat) : Int) := by
  have ha' : a % 2 ^ IntKind.u64.bits = a := Nat.mod_eq_of_lt ha
  have hb' : b % 2 ^ IntKind.u64.bits = b := Nat.mod_eq_of_lt hb
  have h : a &&& b < 18446744073709551616 := Nat.and_lt_two_pow (n := 64) _ hb
  simp only [Go.bits, BitVec.ofInt_natCast, BitVec.toNat_and, BitVec.toNat_ofNat, ha', hb', wrap_u64_]
  omega
theorem u64_xor (a b : Nat) (ha : a < 18446744073709551616) (hb : b < 18446744073709551616) : Go.bits .xor .u64 a b = ((a ^^^ b : Nat) : Int) := by
  have ha' : a % 2 ^ IntKind.u64.bits = a := Nat.mod_eq_of_lt ha
  have hb' : b % 2 ^ IntKind.u64.bits = b := Nat.mod_eq_of_lt hb
  have h : a ^^^ b < 18446744073709551616 := Nat.xor_lt_two_pow (n := 64) ha hb
  simp only [Go.bits, BitVec.ofInt_natCast, BitVec.toNat_xor, BitVec.toNat_ofNat, ha', hb', wrap_u64_]
  omega
theorem wrap_pow (k : Nat) (hk : k < 64) : IntKind.u64.wrap (2 ^ k) = ((2 ^ k : Nat) : Int) := by
  have h := p2_lt k hk
  have e : (2 : Int) ^ k = ((2 ^ k : Nat) : Int) := by simp
  rw [wrap_u64_, e]
  generalize 2 ^ k = y at *
  omega

/-- Whether a number is a free node. -/
def hasB (n : Nat) (t : Nat → Nat) (i : Int) : Bool := decide (0 ≤ i) && (decide (i < (n : Int)) && !bitT t i.toNat)

theorem bit_word (x k : Nat) (hx : x < 18446744073709551616) : (Go.bits .and .u64 ((x : Int) / 2 ^ k) 1 == 0) = !x.testBit k := by
  have e : (x : Int) / 2 ^ k = ((x / 2 ^ k : Nat) : Int) := by simp
  have hlt : x / 2 ^ k < 18446744073709551616 := Nat.lt_of_le_of_lt (Nat.div_le_self _ _) hx
  rw [e, show (1 : Int) = ((1 : Nat) : Int) from rfl, u64_and _ _ hlt (by decide), Nat.and_one_is_mod, Nat.testBit_eq_decide_div_mod_eq]
  have : x / 2 ^ k % 2 = 0 ∨ x / 2 ^ k % 2 = 1 := by omega
  rcases this with h | h <;> simp [h]

set_option maxHeartbeats 8000000 in
set_option maxRecDepth 100000 in
theorem Has_calls (w : World) (g n : Nat) (t : Nat → Nat) (i : Int) (hs : SetAt w g n t) :
    Calls Try.prog 13 #[.pointer (some ⟨g, 0, none⟩), .int .i64 i] w fun e w' => e = .returned (.bool (hasB n t i)) ∧ w = w' := by
  by_cases h0 : 0 ≤ i
  · have hb : decide (0 ≤ i) = true := decide_eq_true h0
    have hc0 := hs.cell0
    by_cases h1 : i < (n : Int)
    · have hb1 : decide (i < (n : Int)) = true := decide_eq_true h1
      have hn := hs.le
      have hq0 : 0 ≤ i / 64 := by omega
      have hq1 : i / 64 < 4 := by omega
      have hq2 : i / 64 ≤ 3 := by omega
      have hc1 := hs.cell (i/64).toNat (by omega)
      have hE := Aside0.mk (bit_word (t (i/64).toNat) (i % 64).toNat (hs.lt _))
      have hF := Aside0.mk (show hasB n t i = !(t (i / 64).toNat).testBit (i % 64).toNat by
        simp only [hasB, bitT, hb, hb1, Bool.true_and]
        rw [show i.toNat / 64 = (i / 64).toNat by omega, show i.toNat % 64 = (i % 64).toNat by omega])
      clear hs hn
      go_enter Try.func13, Try.ntmps13
      go_wp2
      go_ret
      exact ⟨by rw [hF.out, ← hE.out]; rfl, rfl⟩
    · have hb1 : decide (i < (n : Int)) = false := decide_eq_false h1
      have hF := Aside0.mk (show hasB n t i = false by simp [hasB, hb1])
      go_enter Try.func13, Try.ntmps13
      go_wp2
      go_ret
      exact ⟨by rw [hF.out]; rfl, rfl⟩
  · have hb : decide (0 ≤ i) = false := decide_eq_false h0
    have hF := Aside0.mk (show hasB n t i = false by simp [hasB, hb])
    clear h0
    go_enter Try.func13, Try.ntmps13
    go_wp2
    go_ret
    exact ⟨by rw [hF.out]; rfl, rfl⟩

set_option maxHeartbeats 8000000 in
set_option maxRecDepth 100000 in
theorem turn_calls (w : World) (g n : Nat) (t : Nat → Nat) (A : Option Addr) (c : Nat) (xs : List Int) (hs : SetAt w g n t) (hr : ReadsInt w .i64 A xs.length xs) (hne : ∀ ad, A = some ad → some ad.block ≠ some g)
    (hx : ∀ x ∈ xs, 0 ≤ x ∧ x < (n : Int)) :
    Calls Try.prog 21 #[.pointer (some ⟨g, 0, none⟩), .slice A xs.length c] w fun e w' => e = .returned (.tuple #[]) ∧ SetAt w' g n (turnT t xs) ∧ w.grownBy w' (some g) := by
  have hl := hr.2.1
  have hn := hs.le
  have HS := Aside0.mk hs
  have HR := Aside0.mk hr
  have HX := Aside0.mk hx
  have HN := Aside0.mk hne
  clear hs hr hx hne
  go_enter Try.func21, Try.ntmps21
  go_wp2
  go_loopg [8] xs.length (fun k v wr => ∃ j : Nat, v = .int .i64 j ∧ Aside0 (j + k = xs.length) ∧ j ≤ xs.length ∧ Aside0 (SetAt wr g n (turnT t (xs.take j))) ∧ Aside0 (w.grownBy wr (some g)))
  case atStart => exact ⟨0, rfl, ⟨by omega⟩, by omega, ⟨HS.out⟩, ⟨gb_refl _ _⟩⟩
  case round =>
    obtain ⟨j, rfl, HD, hj, HA, HG⟩ := hrel
    cases gk with
    | zero => 
      obtain rfl : j = xs.length := by have := HD.out; omega
      go_wp2
      go_end0
      exact ⟨rfl, by have := HA.out; rwa [List.take_length] at this, HG.out⟩
    | succ d =>
      have hlt : j < xs.length := by have := HD.out; omega
      obtain ⟨ad, rfl, hc⟩ := ri_at (ri_kept HR.out HG.out (HN.out)) j hlt
      have hx := HX.out (rd xs (j:Int)) (by unfold rd; simp [hlt])
      obtain ⟨x, hx'⟩ := Int.eq_ofNat_of_zero_le hx.1
      have HX2 := Aside0.mk hx'
      rw [hx'] at hc hx
      have hq0 : (0:Int) ≤ (x:Int) / 64 := by omega
      have hq2 : (x:Int) / 64 ≤ 3 := by omega
      have hc1 := HA.out.cell (x/64) (by omega)
      have hf := HA.out.free (1 + x/64)
      clear hx'
      have hlt1 : decide ((j:Int) < xs.length) = true := decide_eq_true (by omega)
      go_wp2
      go_region
      go_wp2
      go_roundg d
      case measure => omega
      case rel =>
        refine ⟨j + 1, by go_num, ⟨by have := HD.out; omega⟩, by omega, ⟨?_⟩, ⟨?_⟩⟩
        · have h1 := HA.out.set x (by omega)
          rw [wrap_pow _ (by omega), u64_xor _ _ (HA.out.lt _) (p2_lt _ (by omega))]
          have e : turnT t (xs.take (j + 1)) = flip (turnT t (xs.take j)) x := by
            have hx := HX2.out
            rw [List.take_succ_eq_append_getElem hlt]
            simp only [turnT, List.foldl_append, List.foldl_cons, List.foldl_nil]
            have : xs[j] = (x : Int) := by rw [← hx]; simp [rd, hlt]
            rw [this]; rfl
          rw [e]
          exact h1.kept (gb_drew _ none) (by simp)
        · exact World.grownBy.trans HG.out (World.grownBy.trans (gb_setCell _ _ _ _) (gb_drew _ _))
/-- Are the numbers rising, behind 'last', and below n? -/
def risB (n : Nat) : Int → List Int → Bool
  | _, [] => true
  | last, x :: r => if x ≤ last then false else if (n : Int) ≤ x then false else risB n x r
def mayE (n : Nat) (t : Nat → Nat) (free : Bool) (xs : List Int) : Int := if risB n (-1) xs then (if xs.all (fun x => hasB n t x == free) then 0 else 21) else 22

theorem drop_rd {xs : List Int} {j : Nat} (h : j < xs.length) : xs.drop j = rd xs (j : Int) :: xs.drop (j + 1) := by
  rw [List.drop_eq_getElem_cons h]; simp [rd, h]

set_option maxHeartbeats 8000000 in
set_option maxRecDepth 100000 in
theorem may_calls (w : World) (g n : Nat) (t : Nat → Nat) (A : Option Addr) (c : Nat) (xs : List Int) (free : Bool) (hs : SetAt w g n t) (hr : ReadsInt w .i64 A xs.length xs) :
    Calls Try.prog 20 #[.pointer (some ⟨g, 0, none⟩), .slice A xs.length c, .bool free] w fun e w' => e = .returned (.int .i64 (mayE n t free xs)) ∧ w = w' := by
  have hl := hr.2.1
  have hc0 := hs.cell0
  have HS := Aside0.mk hs
  have HR := Aside0.mk hr
  clear hs hr
  go_enter Try.func20, Try.ntmps20
  go_wp2
  go_loopg [7, 14] xs.length (fun k v7 v14 wr => ∃ (j : Nat) (last : Int), v7 = .int .i64 last ∧ v14 = .int .i64 j ∧ Aside0 (j + k = xs.length) ∧ j ≤ xs.length ∧ Aside0 (risB n last (xs.drop j) = risB n (-1) xs) ∧ w = wr)
  case atStart => exact ⟨0, -1, rfl, rfl, ⟨by omega⟩, by omega, ⟨rfl⟩, rfl⟩
  case round =>
    obtain ⟨j, last, rfl, rfl, HD, hj, HE, rfl⟩ := hrel
    cases gk with
    | zero =>
      obtain rfl : j = xs.length := by have := HD.out; omega
      have HE2 := Aside0.mk (show risB n (-1) xs = true by rw [← HE.out, List.drop_length]; rfl)
      clear HE
      go_wp2
      go_loopg [33] xs.length (fun k v33 wr => ∃ (j : Nat), v33 = .int .i64 j ∧ Aside0 (j + k = xs.length) ∧ j ≤ xs.length ∧ Aside0 ((xs.drop j).all (fun x => hasB n t x == free) = xs.all (fun x => hasB n t x == free)) ∧ w = wr)
      case atStart => exact ⟨0, rfl, ⟨by omega⟩, by omega, ⟨rfl⟩, rfl⟩
      case round =>
        obtain ⟨j, rfl, HD, hj, HE, rfl⟩ := hrel
        cases gk with
        | zero =>
          obtain rfl : j = xs.length := by have := HD.out; omega
          have HE3 := Aside0.mk (show xs.all (fun x => hasB n t x == free) = true by rw [← HE.out, List.drop_length]; rfl)
          go_wp2
          go_ret
          exact ⟨by rw [mayE, HE2.out, HE3.out]; rfl, rfl⟩
        | succ d =>
          have hlt : j < xs.length := by have := HD.out; omega
          obtain ⟨ad, rfl, hc⟩ := ri_at HR.out j hlt
          by_cases hq : hasB n t (rd xs (j : Int)) = free
          · have hq1 : (hasB n t (rd xs (j : Int)) == free) = true := by simp [hq]
            have HQ := Aside0.mk hq
            clear hq
            go_wp2_with (go_at_call 13; refine (Has_calls _ g n t _ HS.out).mono ?_; rintro e w' ⟨rfl, rfl⟩)
            go_roundg d
            case measure => omega
            case rel =>
              refine ⟨j + 1, by go_num, ⟨by have := HD.out; omega⟩, by omega, ⟨?_⟩, rfl⟩
              rw [← HE.out, drop_rd hlt]; simp [HQ.out]
          · have hq1 : (hasB n t (rd xs (j : Int)) == free) = false := by simpa using hq
            have HE3 := Aside0.mk (show xs.all (fun x => hasB n t x == free) = false by rw [← HE.out, drop_rd hlt]; simp [hq])
            clear hq
            go_wp2_with (go_at_call 13; refine (Has_calls _ g n t _ HS.out).mono ?_; rintro e w' ⟨rfl, rfl⟩)
            go_ret
            exact ⟨by rw [mayE, HE2.out, HE3.out]; rfl, rfl⟩
    | succ d =>
      have hlt : j < xs.length := by have := HD.out; omega
      obtain ⟨ad, rfl, hc⟩ := ri_at HR.out j hlt
      have hz := HE.out
      rw [drop_rd hlt, risB] at hz
      by_cases q1 : rd xs (j : Int) ≤ last
      · have q1b : decide (rd xs (j : Int) ≤ last) = true := decide_eq_true q1
        rw [if_pos q1] at hz
        have HE2 := Aside0.mk hz.symm
        clear hz q1 HE
        go_wp2
        go_ret
        exact ⟨by rw [mayE, HE2.out]; rfl, rfl⟩
      · have q1b : decide (rd xs (j : Int) ≤ last) = false := decide_eq_false q1
        rw [if_neg q1] at hz
        by_cases q2 : (n : Int) ≤ rd xs (j : Int)
        · have q2b : decide ((n : Int) ≤ rd xs (j : Int)) = true := decide_eq_true q2
          rw [if_pos q2] at hz
          have HE2 := Aside0.mk hz.symm
          clear hz q1 q2 HE
          go_wp2
          go_ret
          exact ⟨by rw [mayE, HE2.out]; rfl, rfl⟩
        · have q2b : decide ((n : Int) ≤ rd xs (j : Int)) = false := decide_eq_false q2
          rw [if_neg q2] at hz
          have HE2 := Aside0.mk hz
          clear hz q1 q2 HE
          go_wp2
          go_roundg d
          case measure => omega
          case rel => exact ⟨j + 1, _, rfl, by go_num, ⟨by have := HD.out; omega⟩, by omega, HE2, rfl⟩

theorem risB_bound {n : Nat} : ∀ {xs : List Int} {last : Int}, -1 ≤ last → risB n last xs = true → ∀ x ∈ xs, 0 ≤ x ∧ x < (n : Int)
  | [], _, _, _, x, hx => by cases hx
  | y :: r, last, hl, h, x, hx => by
    rw [risB] at h
    split at h
    · cases h
    · split at h
      · cases h
      · rcases List.mem_cons.1 hx with rfl | hx
        · omega
        · exact risB_bound (last := y) (by omega) h x hx
theorem mayE_ok {n : Nat} {t : Nat → Nat} {free : Bool} {xs : List Int} (h : mayE n t free xs = 0) : risB n (-1) xs = true ∧ xs.all (fun x => hasB n t x == free) = true := by
  unfold mayE at h
  by_cases h1 : risB n (-1) xs = true
  · rw [if_pos h1] at h
    by_cases h2 : xs.all (fun x => hasB n t x == free) = true
    · exact ⟨h1, h2⟩
    · rw [if_neg h2] at h; simp at h
  · rw [if_neg h1] at h; simp at h

/-- What a claim, or a giving back, leaves. -/
def doneT (n : Nat) (t : Nat → Nat) (free : Bool) (xs : List Int) : Nat → Nat := if mayE n t free xs = 0 then turnT t xs else t
set_option maxHeartbeats 8000000 in
set_option maxRecDepth 100000 in
theorem Claim_calls (w : World) (g n : Nat) (t : Nat → Nat) (A : Option Addr) (c : Nat) (xs : List Int) (hs : SetAt w g n t) (hr : ReadsInt w .i64 A xs.length xs) (hne : ∀ ad, A = some ad → some ad.block ≠ some g) :
    Calls Try.prog 8 #[.pointer (some ⟨g, 0, none⟩), .slice A xs.length c] w fun e w' => e = .returned (.int .i64 (mayE n t true xs)) ∧ SetAt w' g n (doneT n t true xs) ∧ w.grownBy w' (some g) := by
  have HS := Aside0.mk hs
  have HR := Aside0.mk hr
  have HN := Aside0.mk hne
  clear hs hr hne
  by_cases h : mayE n t true xs = 0
  · have hb : (mayE n t true xs == 0) = true := by simp [h]
    have H := Aside0.mk h
    clear h
    go_enter Try.func8, Try.ntmps8
    go_wp2_with (first | (go_at_call 20; refine (may_calls _ g n t A c xs true HS.out HR.out).mono ?_; rintro e w' ⟨rfl, rfl⟩) | (go_at_call 21; refine (turn_calls _ g n t A c xs HS.out HR.out HN.out (risB_bound (by omega) (mayE_ok H.out).1)).mono ?_; rintro e w' ⟨rfl, hA, hG⟩; have HA := Aside0.mk hA; have HG := Aside0.mk hG; clear hA hG))
    go_ret
    exact ⟨rfl, by rw [doneT, if_pos H.out]; exact HA.out, HG.out⟩
  · have hb : (mayE n t true xs == 0) = false := by simp [h]
    have H := Aside0.mk h
    clear h
    go_enter Try.func8, Try.ntmps8
    go_wp2_with (first | (go_at_call 20; refine (may_calls _ g n t A c xs true HS.out HR.out).mono ?_; rintro e w' ⟨rfl, rfl⟩))
    go_ret
    exact ⟨rfl, by rw [doneT, if_neg H.out]; exact HS.out, gb_refl _ _⟩
set_option maxHeartbeats 8000000 in
set_option maxRecDepth 100000 in
theorem Give_calls (w : World) (g n : Nat) (t : Nat → Nat) (A : Option Addr) (c : Nat) (xs : List Int) (hs : SetAt w g n t) (hr : ReadsInt w .i64 A xs.length xs) (hne : ∀ ad, A = some ad → some ad.block ≠ some g) :
    Calls Try.prog 14 #[.pointer (some ⟨g, 0, none⟩), .slice A xs.length c] w fun e w' => e = .returned (.int .i64 (mayE n t false xs)) ∧ SetAt w' g n (doneT n t false xs) ∧ w.grownBy w' (some g) := by
  have HS := Aside0.mk hs
  have HR := Aside0.mk hr
  have HN := Aside0.mk hne
  clear hs hr hne
  by_cases h : mayE n t false xs = 0
  · have hb : (mayE n t false xs == 0) = true := by simp [h]
    have H := Aside0.mk h
    clear h
    go_enter Try.func14, Try.ntmps14
    go_wp2_with (first | (go_at_call 20; refine (may_calls _ g n t A c xs false HS.out HR.out).mono ?_; rintro e w' ⟨rfl, rfl⟩) | (go_at_call 21; refine (turn_calls _ g n t A c xs HS.out HR.out HN.out (risB_bound (by omega) (mayE_ok H.out).1)).mono ?_; rintro e w' ⟨rfl, hA, hG⟩; have HA := Aside0.mk hA; have HG := Aside0.mk hG; clear hA hG))
    go_ret
    exact ⟨rfl, by rw [doneT, if_pos H.out]; exact HA.out, HG.out⟩
  · have hb : (mayE n t false xs == 0) = false := by simp [h]
    have H := Aside0.mk h
    clear h
    go_enter Try.func14, Try.ntmps14
    go_wp2_with (first | (go_at_call 20; refine (may_calls _ g n t A c xs false HS.out HR.out).mono ?_; rintro e w' ⟨rfl, rfl⟩))
    go_ret
    exact ⟨rfl, by rw [doneT, if_neg H.out]; exact HS.out, gb_refl _ _⟩
end Go.Proofs.Ytohopfbacfddbaa.N
