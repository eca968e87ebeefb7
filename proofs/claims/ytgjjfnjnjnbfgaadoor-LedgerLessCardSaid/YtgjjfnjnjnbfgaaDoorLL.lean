/- LedgerLess, walked. Conditions: each theorem's own. -/
import Derived.Test.YtgjjfnjnjnbfgaaDoorLA
namespace Go.Proofs.YtgjjfnjnjnbfgaaDoor.L
open Go.RowKit Go.Proofs.YtgjjfnjnjnbfgaaDoorW.PrintWords Go.Proofs.YtgjjfnjnjnbfgaaDoorW.PrintLast Go.Proofs.YtgjjfnjnjnbfgaaDoor.H Go.Proofs.YtgjjfnjnjnbfgaaDoor.Q Go.Proofs.YtgjjfnjnjnbfgaaDoor.GLG
set_option linter.unusedVariables false
set_option linter.unusedSimpArgs false

/-- Two ledgers, apart. -/
structure Sep2 (s0 gc ga gq : Nat) (Aa Ab : Option Addr) (Ba Bb : Nat) : Prop where
  h0 : s0 ≤ gc
  h1 : gc < Ba
  ha : ∀ k, Foot ga Aa k → Ba ≤ k ∧ k < Bb
  hb : ∀ k, Foot gq Ab k → Bb ≤ k
structure Two (s0 : Nat) (w0 w : World) (gc ga gq : Nat) (Aa Ab : Option Addr) (Ba Bb ca cb : Nat) (nodes factor : Int) (xa xb : List Int) : Prop where
  a : LedAt w Ba ga Aa 3 ca nodes factor xa
  b : LedAt w Bb gq Ab 3 cb nodes factor xb
  cfg : w.cell? ⟨gc, 0, none⟩ = some (.int .i64 nodes)
  bel : Below s0 w0 w
  big : s0 ≤ w.heap.size
section
variable {s0 : Nat} {w0 w w1 : World} {gc ga gq : Nat} {Aa Ab : Option Addr} {Ba Bb ca cb : Nat} {nodes factor : Int} {xa xb xs : List Int}
theorem Two.gb (h : Two s0 w0 w gc ga gq Aa Ab Ba Bb ca cb nodes factor xa xb) (hg : w.grownBy w1 none) : Two s0 w0 w1 gc ga gq Aa Ab Ba Bb ca cb nodes factor xa xb :=
  ⟨h.a.gb hg, h.b.gb hg, hg.cell h.cfg (by simp), below_gb h.bel hg h.big (by simp), Nat.le_trans h.big hg.size⟩
theorem Two.sa (S : Sep2 s0 gc ga gq Aa Ab Ba Bb) (h : Two s0 w0 w gc ga gq Aa Ab Ba Bb ca cb nodes factor xa xb) (hl : LedAt w1 Ba ga Aa 3 ca nodes factor xs) (hg : Tn w w1 (Foot ga Aa)) : Two s0 w0 w1 gc ga gq Aa Ab Ba Bb ca cb nodes factor xs xb := by
  refine ⟨hl, h.b.tn hg fun k hk hf => ?_, cell_tn h.cfg hg fun hf => ?_, h.bel.trans (hg.below h.big fun i hi => ?_), Nat.le_trans h.big hg.size⟩
  · have := S.ha k hf; have := S.hb k hk; omega
  · have := S.ha gc hf; have := S.h1; omega
  · have := S.ha i hi; have := S.h1; have := S.h0; omega
theorem Two.sb (S : Sep2 s0 gc ga gq Aa Ab Ba Bb) (h : Two s0 w0 w gc ga gq Aa Ab Ba Bb ca cb nodes factor xa xb) (hl : LedAt w1 Bb gq Ab 3 cb nodes factor xs) (hg : Tn w w1 (Foot gq Ab)) : Two s0 w0 w1 gc ga gq Aa Ab Ba Bb ca cb nodes factor xa xs := by
  have l : Ba ≤ Bb := by have := S.ha ga (.inl rfl); omega
  refine ⟨h.a.tn hg fun k hk hf => ?_, hl, cell_tn h.cfg hg fun hf => ?_, h.bel.trans (hg.below h.big fun i hi => ?_), Nat.le_trans h.big hg.size⟩
  · have := S.hb k hf; have := S.ha k hk; omega
  · have := S.hb gc hf; have := S.h1; omega
  · have := S.hb i hi; have := S.h1; have := S.h0; omega
end
/-! ### what they come to -/
theorem of_calls (w : World) (n : Int) (h0 : 0 ≤ n) (hn : n ≤ 9223372036854775807) : Calls Tryd.prog 24 #[.int .i64 n] w fun e w' => e = .returned (.tuple #[.int .u64 (capV (n * 4294967296)).1, .bool (capV (n * 4294967296)).2]) ∧ Below w.heap.size w w' :=
  fixq_Of.calls n _ _ w (by rw [fq_Of hn]; unfold ofV; rw [if_neg (by omega)])
theorem part_mono {u v f : Int} (hf : U f) (h : u ≤ v) : partV u f ≤ partV v f := by
  unfold partV
  obtain ⟨f0, _⟩ := hf
  split
  · omega
  · have := Int.mul_le_mul_of_nonneg_right h f0
    exact Int.ediv_le_ediv (by decide) this
theorem charge_mono {u v m : Int} (h : u ≤ v) : chargeV u m ≤ chargeV v m := by
  unfold chargeV
  by_cases c : m < 0
  · rw [if_pos c, if_pos c]; exact h
  · rw [if_neg c, if_neg c]
    generalize (capV (m * 4294967296)).1 = z
    unfold capV
    split <;> split <;> simp <;> omega
theorem charge_up {u m : Int} (hu : U u) (hm : 0 ≤ m) : u ≤ chargeV u m := by
  unfold chargeV
  rw [if_neg (by omega)]
  have hz := (capU (v := m * 4294967296) (by omega)).1
  generalize (capV (m * 4294967296)).1 = z at *
  obtain ⟨u0, u1⟩ := hu
  unfold capV
  split <;> simp <;> omega
/-- Nowhere less. -/
def LeL (xs ys : List Int) : Prop := ∀ k : Int, ownV xs k ≤ ownV ys k
theorem own_nat (xs : List Int) (k : Nat) : ownV xs (k : Int) = xs.getD k 0 := by
  unfold ownV rd
  rw [if_pos (by omega), Int.toNat_natCast]
theorem le_of_nat {xs ys : List Int} (h : ∀ k : Nat, xs.getD k 0 ≤ ys.getD k 0) : LeL xs ys := fun k => by
  unfold ownV
  split
  · exact h k.toNat
  · exact Int.le_refl _
theorem nat_of_le {xs ys : List Int} (h : LeL xs ys) (k : Nat) : xs.getD k 0 ≤ ys.getD k 0 := by
  have := h (k : Int)
  rwa [own_nat, own_nat] at this
theorem getD_map {f : Int → Int} (h0 : f 0 = 0) (xs : List Int) (k : Nat) : (xs.map f).getD k 0 = f (xs.getD k 0) := by
  simp only [List.getD_eq_getElem?_getD, List.getElem?_map]
  cases xs[k]? <;> simp [h0]
theorem part0 (f : Int) : partV 0 f = 0 := by
  unfold partV
  rw [Int.zero_mul]; rfl
theorem le_fade {xs ys : List Int} {f : Int} (hf : U f) (h : LeL xs ys) : LeL (xs.map (fun x => partV x f)) (ys.map (fun x => partV x f)) := le_of_nat fun k => by
  rw [getD_map (part0 f), getD_map (part0 f)]
  exact part_mono hf (nat_of_le h k)
theorem fade_le {xs : List Int} {f : Int} (hx : ∀ x ∈ xs, U x) (hf : U f) : LeL (xs.map (fun x => partV x f)) xs := le_of_nat fun k => by
  rw [getD_map (part0 f)]
  have hu : U (xs.getD k 0) := by have := rdU hx (k : Int); unfold rd at this; rwa [Int.toNat_natCast] at this
  exact (part_le hu hf).2
theorem charge_L {nodes a m : Int} {xs : List Int} (h0 : 0 ≤ a) (h1 : a < 3) (m0 : 0 ≤ m) (m1 : m ≤ nodes) : chargeL nodes 3 xs a m = xs.set a.toNat (chargeV (rd xs a) m) := by
  unfold chargeL
  rw [if_pos (charge_c0 h0 h1 m0 m1)]
theorem getD_set (xs : List Int) (i k : Nat) (v : Int) : (xs.set i v).getD k 0 = if i = k ∧ k < xs.length then v else xs.getD k 0 := by
  simp only [List.getD_eq_getElem?_getD, List.getElem?_set]
  by_cases e : i = k
  · subst e
    by_cases hl : i < xs.length
    · simp [hl]
    · simp [hl]
  · simp [e]
theorem le_charge {nodes a m : Int} {xs ys : List Int} (hx : xs.length = 3) (hy : ys.length = 3) (h0 : 0 ≤ a) (h1 : a < 3) (m0 : 0 ≤ m) (m1 : m ≤ nodes) (h : LeL xs ys) : LeL (chargeL nodes 3 xs a m) (chargeL nodes 3 ys a m) := le_of_nat fun k => by
  rw [charge_L h0 h1 m0 m1, charge_L h0 h1 m0 m1, getD_set, getD_set, hx, hy]
  have hk := nat_of_le h k
  split
  · rename_i hc
    have e : rd xs a = xs.getD k 0 := by unfold rd; rw [hc.1]
    have e2 : rd ys a = ys.getD k 0 := by unfold rd; rw [hc.1]
    rw [e, e2]
    exact charge_mono hk
  · exact hk
theorem le_charge1 {nodes a m : Int} {xs ys : List Int} (hy : ys.length = 3) (hv : ∀ y ∈ ys, U y) (h0 : 0 ≤ a) (h1 : a < 3) (m0 : 0 ≤ m) (m1 : m ≤ nodes) (h : LeL xs ys) : LeL xs (chargeL nodes 3 ys a m) := le_of_nat fun k => by
  rw [charge_L h0 h1 m0 m1, getD_set, hy]
  have hk := nat_of_le h k
  split
  · rename_i hc
    have e2 : rd ys a = ys.getD k 0 := by unfold rd; rw [hc.1]
    rw [e2]
    exact Int.le_trans hk (charge_up (by rw [← e2]; exact rdU hv a) m0)
  · exact hk
/-- What has never faded is what was charged. -/
def NotF (faded : Bool) (raw : Int) (xs : List Int) : Prop := faded = false → ownV xs 0 = (capV (raw * 4294967296)).1
theorem notF_charge {nodes a m raw : Int} {xs : List Int} {faded : Bool} (hl : xs.length = 3) (h0 : 0 ≤ a) (h1 : a < 3) (m0 : 0 ≤ m) (m1 : m ≤ nodes) (hn : nodes ≤ 256) (hr : 0 ≤ raw) (h : NotF faded raw xs) : NotF faded (if a = 0 then raw + m else raw) (chargeL nodes 3 xs a m) := fun hf => by
  have hx := h hf
  rw [charge_L h0 h1 m0 m1]
  show ownV _ ((0 : Nat) : Int) = _
  have hx : ownV xs ((0 : Nat) : Int) = _ := hx
  rw [own_nat] at hx ⊢
  rw [getD_set, hl]
  by_cases c : a = 0
  · subst c
    rw [if_pos ⟨rfl, by omega⟩, if_pos rfl]
    have e : rd xs 0 = xs.getD 0 0 := rfl
    rw [e, hx, charge_sat (by omega) m0 (by omega), Int.add_mul]
  · rw [if_neg (by omega), if_neg c, hx]
set_option maxHeartbeats 8000000 in
set_option maxRecDepth 100000 in
theorem Less_law (w : World) (hL : LaidW w) (a0 a1 a2 a3 a4 a5 a6 a7 : Int) (A : Option Addr) (n c : Nat) (ls : List (Int × Int × Int × Int)) (hr : Rd Ea w A n ls) (hc : n ≤ c) (hs : n * 32 ≤ 140737488351232) (skip : Int) (hk : checkV a0 a1 a2 a3 a4 a5 a6 a7 = 0) :
    Calls Tryd.prog 4 #[.agg #[.int .i64 a0, .int .i64 a1, .int .i64 a2, .int .i64 a3, .int .i64 a4, .int .i64 a5, .int .i64 a6, .int .i64 a7], .slice A n c, .int .i64 skip] w fun e w' => e = .returned (.bool true) ∧ Below w.heap.size w w' := by
  have HC := chk_cfg hk
  have hn0 : 1 ≤ a0 := HC.n0
  have hn1 : a0 ≤ 256 := HC.n1
  have HF2 := Aside0.mk (fact_ok HC)
  have HFU := Aside0.mk (factU a6 a7)
  have HR := Aside0.mk hr
  have HL := Aside0.mk hL
  have HK0 := Aside0.mk hk
  have HB0 := Aside0.mk (heap_alloc_new w (.cells #[.int .i64 a0, .int .i64 a1, .int .i64 a2, .int .i64 a3, .int .i64 a4, .int .i64 a5, .int .i64 a6, .int .i64 a7] 23))
  have HG0 := Aside0.mk (World.grownBy_alloc w (.cells #[.int .i64 a0, .int .i64 a1, .int .i64 a2, .int .i64 a3, .int .i64 a4, .int .i64 a5, .int .i64 a6, .int .i64 a7] 23) none)
  clear HC hr hL hk
  go_enter Tryd.func4, Tryd.ntmps4
  go_wp2_with fail
  refine (shown_calls _ (laid_below HL.out (below_of_gb HG0.out))).mono ?_
  rintro e w1 ⟨rfl, hb⟩
  have HB1 := Aside0.mk (blk_kept HB0.out (gb_of_below hb none) (by simp))
  have HG1 := Aside0.mk (World.grownBy.trans HG0.out (gb_of_below hb none))
  clear hb HB0 HG0
  have q0 : w1.cell? ⟨w.heap.size, 0, none⟩ = some (.int .i64 a0) := cell_of HB1.out rfl
  have q1 : w1.cell? ⟨w.heap.size, 1, none⟩ = some (.int .i64 a1) := cell_of HB1.out rfl
  have q2 : w1.cell? ⟨w.heap.size, 2, none⟩ = some (.int .i64 a2) := cell_of HB1.out rfl
  have q3 : w1.cell? ⟨w.heap.size, 3, none⟩ = some (.int .i64 a3) := cell_of HB1.out rfl
  have q4 : w1.cell? ⟨w.heap.size, 4, none⟩ = some (.int .i64 a4) := cell_of HB1.out rfl
  have q5 : w1.cell? ⟨w.heap.size, 5, none⟩ = some (.int .i64 a5) := cell_of HB1.out rfl
  have q6 : w1.cell? ⟨w.heap.size, 6, none⟩ = some (.int .i64 a6) := cell_of HB1.out rfl
  have q7 : w1.cell? ⟨w.heap.size, 7, none⟩ = some (.int .i64 a7) := cell_of HB1.out rfl
  have HCk := Aside0.mk (check_calls w1 a0 a1 a2 a3 a4 a5 a6 a7)
  rw [HK0.out] at HCk
  go_wp2_with fail
  refine (HCk.out).mono ?_
  rintro e w2 ⟨rfl, hb⟩
  have HB2 := Aside0.mk (blk_kept HB1.out (gb_of_below hb none) (by simp))
  have HG2 := Aside0.mk (World.grownBy.trans HG1.out (gb_of_below hb none))
  clear hb HB1 HG1 q0 q1 q2 q3 q4 q5 q6 q7 HCk
  have q0 : w2.cell? ⟨w.heap.size, 0, none⟩ = some (.int .i64 a0) := cell_of HB2.out rfl
  have q1 : w2.cell? ⟨w.heap.size, 1, none⟩ = some (.int .i64 a1) := cell_of HB2.out rfl
  have q2 : w2.cell? ⟨w.heap.size, 2, none⟩ = some (.int .i64 a2) := cell_of HB2.out rfl
  have q3 : w2.cell? ⟨w.heap.size, 3, none⟩ = some (.int .i64 a3) := cell_of HB2.out rfl
  have q4 : w2.cell? ⟨w.heap.size, 4, none⟩ = some (.int .i64 a4) := cell_of HB2.out rfl
  have q5 : w2.cell? ⟨w.heap.size, 5, none⟩ = some (.int .i64 a5) := cell_of HB2.out rfl
  have q6 : w2.cell? ⟨w.heap.size, 6, none⟩ = some (.int .i64 a6) := cell_of HB2.out rfl
  have q7 : w2.cell? ⟨w.heap.size, 7, none⟩ = some (.int .i64 a7) := cell_of HB2.out rfl
  have HZr := Aside0.mk (show Rd (Ei .u64) (w2.alloc (.cells #[.int .u64 0, .int .u64 0, .int .u64 0] 28)) (some ⟨w2.heap.size, 0, none⟩) 3 [0, 0, 0] from rd_lit (Ei .u64) w2 28 [0, 0, 0] (by simp))
  have HBz := Aside0.mk (blk_kept HB2.out (World.grownBy_alloc w2 (.cells #[.int .u64 0, .int .u64 0, .int .u64 0] 28) none) (by simp))
  have HGz := Aside0.mk (World.grownBy.trans HG2.out (World.grownBy_alloc w2 (.cells #[.int .u64 0, .int .u64 0, .int .u64 0] 28) none))
  have hl2 : w.heap.size < w2.heap.size := blk_lt' HB2.out
  have HU0 : Aside0 (∀ x ∈ [(0 : Int), 0, 0], U x) := ⟨by intro x hx; simp at hx; subst hx; exact ⟨by decide, by decide⟩⟩
  have HN := New_ok _ (laid_below HL.out (below_of_gb HGz.out)) a0 a1 a2 a3 a4 a5 a6 a7 _ 3 3 [0, 0, 0] HK0.out (by omega) HZr.out HU0.out (by omega) (by omega) HFU.out
  rw [HF2.out] at HN
  have HN := Aside0.mk HN
  go_wp2_with fail
  refine (HN.out).mono ?_
  rintro e w3 ⟨ga, Aa, ca, rfl, hla, hg⟩
  have HLa3 := Aside0.mk hla
  have HB3 := Aside0.mk (blk_kept HBz.out hg (by simp))
  have HG3 := Aside0.mk (World.grownBy.trans HGz.out hg)
  clear hla hg HB2 HG2 HBz HGz HZr HN q0 q1 q2 q3 q4 q5 q6 q7
  have q0 : w3.cell? ⟨w.heap.size, 0, none⟩ = some (.int .i64 a0) := cell_of HB3.out rfl
  have q1 : w3.cell? ⟨w.heap.size, 1, none⟩ = some (.int .i64 a1) := cell_of HB3.out rfl
  have q2 : w3.cell? ⟨w.heap.size, 2, none⟩ = some (.int .i64 a2) := cell_of HB3.out rfl
  have q3 : w3.cell? ⟨w.heap.size, 3, none⟩ = some (.int .i64 a3) := cell_of HB3.out rfl
  have q4 : w3.cell? ⟨w.heap.size, 4, none⟩ = some (.int .i64 a4) := cell_of HB3.out rfl
  have q5 : w3.cell? ⟨w.heap.size, 5, none⟩ = some (.int .i64 a5) := cell_of HB3.out rfl
  have q6 : w3.cell? ⟨w.heap.size, 6, none⟩ = some (.int .i64 a6) := cell_of HB3.out rfl
  have q7 : w3.cell? ⟨w.heap.size, 7, none⟩ = some (.int .i64 a7) := cell_of HB3.out rfl
  have HZr := Aside0.mk (show Rd (Ei .u64) (w3.alloc (.cells #[.int .u64 0, .int .u64 0, .int .u64 0] 28)) (some ⟨w3.heap.size, 0, none⟩) 3 [0, 0, 0] from rd_lit (Ei .u64) w3 28 [0, 0, 0] (by simp))
  have HBz := Aside0.mk (blk_kept HB3.out (World.grownBy_alloc w3 (.cells #[.int .u64 0, .int .u64 0, .int .u64 0] 28) none) (by simp))
  have HGz := Aside0.mk (World.grownBy.trans HG3.out (World.grownBy_alloc w3 (.cells #[.int .u64 0, .int .u64 0, .int .u64 0] 28) none))
  have HLz := Aside0.mk (HLa3.out.gb (World.grownBy_alloc w3 (.cells #[.int .u64 0, .int .u64 0, .int .u64 0] 28) none))
  have HN := New_ok _ (laid_below HL.out (below_of_gb HGz.out)) a0 a1 a2 a3 a4 a5 a6 a7 _ 3 3 [0, 0, 0] HK0.out (by omega) HZr.out HU0.out (by omega) (by omega) HFU.out
  rw [HF2.out] at HN
  have HN := Aside0.mk HN
  go_wp2_with fail
  refine (HN.out).mono ?_
  rintro e w4 ⟨gq, Ab, cb, rfl, hlb, hg⟩
  obtain ⟨F, hF⟩ : ∃ F, F = (factV a6 a7).1 := ⟨_, rfl⟩
  obtain ⟨Ba, hBa⟩ : ∃ B, B = (w2.alloc (.cells #[.int .u64 0, .int .u64 0, .int .u64 0] 28)).heap.size := ⟨_, rfl⟩
  obtain ⟨Bb, hBb⟩ : ∃ B, B = (w3.alloc (.cells #[.int .u64 0, .int .u64 0, .int .u64 0] 28)).heap.size := ⟨_, rfl⟩
  have HS : Aside0 (Sep2 w.heap.size w.heap.size ga gq Aa Ab Ba Bb) := ⟨⟨Nat.le_refl _, by rw [hBa]; simp; omega, fun k hk => by rw [hBa, hBb]; have := HLa3.out.foot k hk; simp at this ⊢; omega, fun k hk => by rw [hBb]; exact (hlb.foot k hk).1⟩⟩
  have HT : Aside0 (Two w.heap.size w w4 w.heap.size ga gq Aa Ab Ba Bb ca cb a0 F [0, 0, 0] [0, 0, 0]) := ⟨by
    rw [hBa, hBb, hF]
    exact ⟨HLz.out.gb hg, hlb, cell_of (blk_kept HBz.out hg (by simp)) rfl, below_of_gb (World.grownBy.trans HGz.out hg), (World.grownBy.trans HGz.out hg).size⟩⟩
  clear hlb hg HLa3 HLz HB3 HG3 HBz HGz HZr HN q0 q1 q2 q3 q4 q5 q6 q7 hF hBa hBb HFU
  go_wp2_with fail
  go_loopg [11, 12, 56] n (fun k v11 v12 v56 wr => ∃ (j : Nat) (raw : Int) (faded : Bool) (xa xb : List Int), v11 = .int .i64 raw ∧ v12 = .bool faded ∧ v56 = .int .i64 j ∧ Aside0 (j + k = n) ∧ j ≤ n ∧ 0 ≤ raw ∧ raw ≤ 256 * (j : Int) ∧ Aside0 (Two w.heap.size w wr w.heap.size ga gq Aa Ab Ba Bb ca cb a0 F xa xb) ∧ Aside0 (LeL xb xa) ∧ Aside0 (NotF faded raw xa))
  case atStart => exact ⟨0, 0, false, _, _, rfl, rfl, rfl, ⟨by omega⟩, by omega, by omega, by omega, HT, ⟨fun k => Int.le_refl _⟩, ⟨fun _ => rfl⟩⟩
  case round =>
    obtain ⟨j, raw, faded, xa, xb, rfl, rfl, rfl, HD, hj, hr0, hr1, HT, HLe, HNf⟩ := hrel
    cases gk with
    | zero =>
      have hb1 : decide (j < n) = false := decide_eq_false (by have := HD.out; omega)
      obtain ⟨wo, rfl⟩ : ∃ wo, wo = wr := ⟨wr, rfl⟩
      have hr3 : raw ≤ 1125899906842624 := by omega
      go_wp2_with fail
      go_loopg [125] 3 (fun k v125 wi => ∃ i : Nat, v125 = .int .i64 i ∧ Aside0 (i + k = 3) ∧ i ≤ 3 ∧ Aside0 (Two w.heap.size w wi w.heap.size ga gq Aa Ab Ba Bb ca cb a0 F xa xb))
      case atStart => exact ⟨0, rfl, ⟨by omega⟩, by omega, HT⟩
      case round =>
        obtain ⟨i, rfl, HDi, hi, HTi⟩ := hrel
        cases gk with
        | zero =>
          have hb6 : decide ((i : Int) < 3) = false := decide_eq_false (by have := HDi.out; omega)
          have HOf := Aside0.mk (of_calls wr raw hr0 (by omega))
          have HU := Aside0.mk (capU (v := raw * 4294967296) (by omega))
          have HNf2 := Aside0.mk HNf.out
          unfold NotF at HNf2
          obtain ⟨u, hu⟩ : ∃ u, u = (capV (raw * 4294967296)).1 := ⟨_, rfl⟩
          obtain ⟨ok, hok⟩ : ∃ u, u = (capV (raw * 4294967296)).2 := ⟨_, rfl⟩
          rw [← hu, ← hok] at HOf
          rw [← hu] at HNf2
          have HBl := Aside0.mk HTi.out.bel
          clear hu hok HU HNf HT
          cases faded
          · have HO := Aside0.mk (HNf2.out rfl)
            cases ok
            · go_wp2_with fail
              refine (HOf.out).mono ?_
              rintro e w6 ⟨rfl, hb⟩
              have HB6 := Aside0.mk (below_gb HBl.out (gb_of_below hb none) HTi.out.big (by simp))
              clear hb
              go_wp2_with fail
              go_ret
              exact ⟨rfl, HB6.out⟩
            · go_wp2_with fail
              refine (HOf.out).mono ?_
              rintro e w6 ⟨rfl, hb⟩
              have HT6 := Aside0.mk (HTi.out.gb (gb_of_below hb none))
              have hvb : (u == u) = true := by simp
              have hvb2 : (u != u) = false := by simp
              clear hb
              go_wp2_with fail
              refine (Own_calls w6 ga Aa 3 ca _ 0 HT6.out.a.c0 HT6.out.a.rd).mono ?_
              rintro e w7 ⟨rfl, rfl⟩
              rw [HO.out]
              go_wp2_with fail
              go_ret
              exact ⟨rfl, HT6.out.bel⟩
          · go_wp2_with fail
            refine (HOf.out).mono ?_
            rintro e w6 ⟨rfl, hb⟩
            have HB6 := Aside0.mk (below_gb HBl.out (gb_of_below hb none) HTi.out.big (by simp))
            clear hb
            go_wp2_with fail
            go_ret
            exact ⟨rfl, HB6.out⟩
        | succ k2 =>
          have hlt2 : i < 3 := by have := HDi.out; omega
          have hb6 : decide ((i : Int) < 3) = true := decide_eq_true (by omega)
          have HTd := Aside0.mk (HTi.out.gb (gb_drew wr none))
          have hgt : decide (ownV xa (i : Int) < ownV xb (i : Int)) = false := decide_eq_false (by have := HLe.out (i : Int); omega)
          go_wp2_with fail
          refine start_ (n := 11) (S := fun w' => True) (ds := []) #[false, false, false, false, false, false, false, false, false, false, false] (by kernel_rfl) rfl rfl trivial (fun hHeld => ?_)
          refine pure_ (i := 0) (N := some 128) (v := ?_) (a' := ?_) #[true, false, false, false, false, false, false, false, false, false, false] rfl rfl (by kernel_rfl) (fun _ _ _ h => h) (Or.inl ⟨by rfl, ?_⟩) ?_ ?_
          rotate_left
          · intro w'
            go_simp
            with_reducible rfl
          rotate_left
          · simp only [Act.put, List.setIfInBounds_toArray, List.set_cons_zero, List.set_cons_succ, i64_w, i32_w]
            rfl
          refine pure_ (i := 1) (N := some 129) (v := ?_) (a' := ?_) #[true, true, false, false, false, false, false, false, false, false, false] rfl rfl (by kernel_rfl) (fun _ _ _ h => h) (Or.inl ⟨by rfl, ?_⟩) ?_ ?_
          rotate_left
          · intro w'
            go_simp
            with_reducible rfl
          rotate_left
          · simp only [Act.put, List.setIfInBounds_toArray, List.set_cons_zero, List.set_cons_succ, i64_w, i32_w]
            rfl
          refine pure_ (i := 2) (N := some 130) (v := ?_) (a' := ?_) #[true, true, true, false, false, false, false, false, false, false, false] rfl rfl (by kernel_rfl) (fun _ _ _ h => h) (Or.inl ⟨by rfl, ?_⟩) ?_ ?_
          rotate_left
          · intro w'
            go_simp
            with_reducible rfl
          rotate_left
          · simp only [Act.put, List.setIfInBounds_toArray, List.set_cons_zero, List.set_cons_succ, i64_w, i32_w]
            rfl
          refine pure_ (i := 3) (N := some 131) (v := ?_) (a' := ?_) #[true, true, true, true, false, false, false, false, false, false, false] rfl rfl (by kernel_rfl) (fun _ _ _ h => h) (Or.inl ⟨by rfl, ?_⟩) ?_ ?_
          rotate_left
          · intro w'
            go_simp
            with_reducible rfl
          rotate_left
          · simp only [Act.put, List.setIfInBounds_toArray, List.set_cons_zero, List.set_cons_succ, i64_w, i32_w]
            rfl
          refine pure_ (i := 5) (N := some 133) (v := ?_) (a' := ?_) #[true, true, true, true, false, true, false, false, false, false, false] rfl rfl (by kernel_rfl) (fun _ _ _ h => h) (Or.inl ⟨by rfl, ?_⟩) ?_ ?_
          rotate_left
          · intro w'
            go_simp
            with_reducible rfl
          rotate_left
          · simp only [Act.put, List.setIfInBounds_toArray, List.set_cons_zero, List.set_cons_succ, i64_w, i32_w]
            rfl
          refine pure_ (i := 6) (N := some 134) (v := ?_) (a' := ?_) #[true, true, true, true, false, true, true, false, false, false, false] rfl rfl (by kernel_rfl) (fun _ _ _ h => h) (Or.inl ⟨by rfl, ?_⟩) ?_ ?_
          rotate_left
          · intro w'
            go_simp
            with_reducible rfl
          rotate_left
          · simp only [Act.put, List.setIfInBounds_toArray, List.set_cons_zero, List.set_cons_succ, i64_w, i32_w]
            rfl
          refine pure_ (i := 7) (N := some 135) (v := ?_) (a' := ?_) #[true, true, true, true, false, true, true, true, false, false, false] rfl rfl (by kernel_rfl) (fun _ _ _ h => h) (Or.inl ⟨by rfl, ?_⟩) ?_ ?_
          rotate_left
          · intro w'
            go_simp
            with_reducible rfl
          rotate_left
          · simp only [Act.put, List.setIfInBounds_toArray, List.set_cons_zero, List.set_cons_succ, i64_w, i32_w]
            rfl
          refine pure_ (i := 8) (N := some 136) (v := ?_) (a' := ?_) #[true, true, true, true, false, true, true, true, true, false, false] rfl rfl (by kernel_rfl) (fun _ _ _ h => h) (Or.inl ⟨by rfl, ?_⟩) ?_ ?_
          rotate_left
          · intro w'
            go_simp
            with_reducible rfl
          rotate_left
          · simp only [Act.put, List.setIfInBounds_toArray, List.set_cons_zero, List.set_cons_succ, i64_w, i32_w]
            rfl
          refine one_ (i := 4) (N := some 132) #[true, true, true, true, true, true, true, true, true, false, false] rfl rfl (by kernel_rfl) (by decide) (fun K hK => ?_)
          refine goes_ Tryd.func23 (by kernel_rfl) rfl #[.pointer (some ⟨gq, 0, none⟩), .int .i64 (i : Int)] (by rfl) rfl rfl (by simp only [List.map_toArray, List.map_cons, List.map_nil]; try rfl) ?_
          with_reducible refine ((Own_calls _ gq Ab 3 cb _ (i : Int) HTd.out.b.c0 HTd.out.b.rd)).mono ?_
          rintro e w34 ⟨rfl, rfl⟩
          refine ⟨_, rfl, ?_⟩
          refine hK.out _ _ trivial (fun hHeld => ?_)
          clear hK K
          refine norm_ (a' := ?_) ?_ ?_
          rotate_left
          · show Act.put _ (some 132) _ = _
            simp only [Act.put, List.setIfInBounds_toArray, List.set_cons_zero, List.set_cons_succ, i64_w, i32_w]
            rfl
          refine one_ (i := 9) (N := some 137) #[true, true, true, true, true, true, true, true, true, true, false] rfl rfl (by kernel_rfl) (by decide) (fun K hK => ?_)
          refine goes_ Tryd.func23 (by kernel_rfl) rfl #[.pointer (some ⟨ga, 0, none⟩), .int .i64 (i : Int)] (by rfl) rfl rfl (by simp only [List.map_toArray, List.map_cons, List.map_nil]; try rfl) ?_
          with_reducible refine ((Own_calls _ ga Aa 3 ca _ (i : Int) HTd.out.a.c0 HTd.out.a.rd)).mono ?_
          rintro e w34 ⟨rfl, rfl⟩
          refine ⟨_, rfl, ?_⟩
          refine hK.out _ _ trivial (fun hHeld => ?_)
          clear hK K
          refine norm_ (a' := ?_) ?_ ?_
          rotate_left
          · show Act.put _ (some 137) _ = _
            simp only [Act.put, List.setIfInBounds_toArray, List.set_cons_zero, List.set_cons_succ, i64_w, i32_w]
            rfl
          refine pure_ (i := 10) (N := some 138) (v := ?_) (a' := ?_) #[true, true, true, true, true, true, true, true, true, true, true] rfl rfl (by kernel_rfl) (fun _ _ _ h => h) (Or.inl ⟨by rfl, ?_⟩) ?_ ?_
          rotate_left
          · intro w'
            go_simp
            with_reducible rfl
          rotate_left
          · simp only [Act.put, List.setIfInBounds_toArray, List.set_cons_zero, List.set_cons_succ, i64_w, i32_w]
            rfl
          refine done_ (by kernel_rfl) ?_
          go_wp2_with fail
          go_roundg k2
          case measure => omega
          case rel => exact ⟨i + 1, by go_num, ⟨by have := HDi.out; omega⟩, by omega, HTd⟩
    | succ k =>
      have hlt : j < n := by have := HD.out; omega
      have hb1 : decide (j < n) = true := decide_eq_true hlt
      have HRw := Aside0.mk (HR.out.below (w' := wr) ⟨HT.out.bel.os, HT.out.bel.tape, HT.out.bel.output, HT.out.bel.size, HT.out.bel.block⟩)
      obtain ⟨ad, x, rfl, hx, e1, e2, e3, e4⟩ := act_at HRw.out j hlt
      obtain ⟨x1, x2, x3, x4⟩ := x
      clear hx HRw
      obtain ⟨wo, rfl⟩ : ∃ wo, wo = wr := ⟨wr, rfl⟩
      have HTp := Aside0.mk (HT.out.gb (World.grownBy_alloc wo (.cells #[.int .i64 x1, .int .i64 x2, .int .i64 x3, .int .i64 x4] 40) none))
      have HP := Aside0.mk (heap_alloc_new wo (.cells #[.int .i64 x1, .int .i64 x2, .int .i64 x3, .int .i64 x4] 40))
      have HFa := Aside0.mk HT.out.a.foot
      have HFb := Aside0.mk HT.out.b.foot
      go_wp2_with fail
      refine (among_calls _ x1 5 (by omega)).mono ?_
      rintro e w5 ⟨rfl, rfl⟩
      clear e1 e2 e3 e4
      by_cases h5 : amongV x1 5 = 0
      · have hb5 : (amongV x1 5 == 0) = true := by simp [h5]
        clear h5
        go_wp2_with fail
        refine (List_calls _ _ ga Aa 3 ca _ _ _ HTp.out.a (by omega)).mono ?_
        rintro e w5 ⟨v5, rfl, ho, hg⟩
        rw [HTp.out.a.len] at ho
        obtain ⟨A5, c5, rfl, hr5, hc5, ha5⟩ := own_open HTp.out.a.len ho
        have HR5 := Aside0.mk hr5
        have HN5 : Aside0 (∀ ad, A5 = some ad → wo.heap.size < ad.block) := ⟨fun ad ha => by have := ha5 ad ha; simp at this; omega⟩
        have HT5 := Aside0.mk (HTp.out.gb hg)
        clear ho hg hr5 ha5 HTp HP
        go_wp2_with fail
        refine (Fade_calls w5 _ ga Aa 3 ca a0 F _ HT5.out.a (by omega)).mono ?_
        rintro e w6 ⟨rfl, hl, ht⟩
        have HT6 := Aside0.mk (Two.sa HS.out HT5.out hl ht)
        have HR6 := Aside0.mk (HR5.out.tn ht (fun ad ha _ hf => by have h1 := HN5.out ad ha; have h2 := (HFa.out _ hf).2; omega))
        clear hl ht HR5
        go_wp2_with fail
        refine (Fade_calls w6 _ gq Ab 3 cb a0 F _ HT6.out.b (by omega)).mono ?_
        rintro e w7 ⟨rfl, hl, ht⟩
        have HT7 := Aside0.mk (Two.sb HS.out HT6.out hl ht)
        have HR7 := Aside0.mk (HR6.out.tn ht (fun ad ha _ hf => by have h1 := HN5.out ad ha; have h2 := (HFb.out _ hf).2; omega))
        clear hl ht HR6 HT6
        have HLe7 := Aside0.mk (le_fade HT.out.a.fac HLe.out)
        have HFl := Aside0.mk (fade_le HT.out.a.val HT.out.a.fac)
        obtain ⟨ya, hya⟩ : ∃ y, y = xa.map (fun x => partV x F) := ⟨_, rfl⟩
        obtain ⟨yb, hyb⟩ : ∃ y, y = xb.map (fun x => partV x F) := ⟨_, rfl⟩
        rw [← hya] at HT7 HLe7 HFl
        rw [← hyb] at HT7 HLe7
        clear hya hyb HT5 HLe HNf
        go_wp2_with fail
        refine (List_calls _ _ ga Aa 3 ca _ _ _ HT7.out.a (by omega)).mono ?_
        rintro e w8 ⟨v8, rfl, ho, hg⟩
        rw [HT7.out.a.len] at ho
        obtain ⟨A8, c8, rfl, hr8, hc8, -⟩ := own_open HT7.out.a.len ho
        have HR8 := Aside0.mk hr8
        have HR78 := Aside0.mk (HR7.out.gb hg)
        have HT8 := Aside0.mk (HT7.out.gb hg)
        clear ho hg hr8 HR7 HT7
        go_wp2_with fail
        go_loopg [78] 3 (fun k v78 wi => ∃ i : Nat, v78 = .int .i64 i ∧ Aside0 (i + k = 3) ∧ i ≤ 3 ∧ w8 = wi)
        case atStart => exact ⟨0, rfl, ⟨by omega⟩, by omega, rfl⟩
        case round =>
          obtain ⟨i, rfl, HDi, hi, rfl⟩ := hrel
          cases gk with
          | zero =>
            have hb6 : decide ((i : Int) < 3) = false := decide_eq_false (by have := HDi.out; omega)
            go_wp2_with fail
            go_roundg k
            case measure => omega
            case rel => exact ⟨j + 1, raw, true, ya, yb, rfl, rfl, by go_num, ⟨by have := HD.out; omega⟩, by omega, hr0, by push_cast; omega, HT8, HLe7, ⟨fun h => by cases h⟩⟩
          | succ k2 =>
            have hlt2 : i < 3 := by have := HDi.out; omega
            have hb6 : decide ((i : Int) < 3) = true := decide_eq_true (by omega)
            obtain ⟨ad8, rfl, g8⟩ := HR8.out.int i hlt2
            obtain ⟨ad5, rfl, g5⟩ := HR78.out.int i hlt2
            have hgt : decide (rd xa (i : Int) < rd ya (i : Int)) = false := decide_eq_false (by
              have h1 := HFl.out (i : Int)
              unfold ownV at h1
              rw [if_pos (by omega), if_pos (by omega)] at h1
              omega)
            go_wp2_with fail
            go_roundg k2
            case measure => omega
            case rel => exact ⟨i + 1, by go_num, ⟨by have := HDi.out; omega⟩, by omega, rfl⟩
      · have hb5 : (amongV x1 5 == 0) = false := by simpa using h5
        clear h5
        have HWn : Aside0 (wrap64 (a0 + 1) = a0 + 1) := ⟨wrap64_in (by omega) (by omega)⟩
        have hm1 := among_bd x3 3 (by omega)
        have hm2 := among_bd x4 (a0 + 1) (by omega)
        have HTd := Aside0.mk (HTp.out.gb (gb_drew _ none))
        have HK : Aside0 ((wo.alloc (.cells #[.int .i64 x1, .int .i64 x2, .int .i64 x3, .int .i64 x4] 40)).drew.cell? ⟨wo.heap.size, 2, none⟩ = some (.int .i64 x3) ∧ (wo.alloc (.cells #[.int .i64 x1, .int .i64 x2, .int .i64 x3, .int .i64 x4] 40)).drew.cell? ⟨wo.heap.size, 3, none⟩ = some (.int .i64 x4) ∧ (wo.alloc (.cells #[.int .i64 x1, .int .i64 x2, .int .i64 x3, .int .i64 x4] 40)).drew.cell? ⟨w.heap.size, 0, none⟩ = some (.int .i64 a0)) := ⟨cell_of (j := 2) HP.out rfl, cell_of (j := 3) HP.out rfl, HTp.out.cfg⟩
        go_wp2_with fail
        refine start_ (n := 11) (S := fun w' => w'.cell? ⟨wo.heap.size, 2, none⟩ = some (.int .i64 x3) ∧ w'.cell? ⟨wo.heap.size, 3, none⟩ = some (.int .i64 x4) ∧ w'.cell? ⟨w.heap.size, 0, none⟩ = some (.int .i64 a0)) (ds := []) #[false, false, false, false, false, false, false, false, false, false, false] (by kernel_rfl) rfl rfl ⟨HK.out.1, HK.out.2.1, HK.out.2.2⟩ (fun hHeld => ?_)
        refine pure_ (i := 0) (N := some 90) (v := ?_) (a' := ?_) #[true, false, false, false, false, false, false, false, false, false, false] rfl rfl (by kernel_rfl) (fun _ _ _ h => h) (Or.inl ⟨by rfl, ?_⟩) ?_ ?_
        rotate_left
        · intro w'
          go_simp
          with_reducible rfl
        rotate_left
        · simp only [Act.put, List.setIfInBounds_toArray, List.set_cons_zero, List.set_cons_succ, i64_w, i32_w, HWn.out]
          rfl
        refine pure_ (i := 3) (N := some 93) (v := ?_) (a' := ?_) #[true, false, false, true, false, false, false, false, false, false, false] rfl rfl (by kernel_rfl) (fun _ _ _ h => h) (Or.inl ⟨by rfl, ?_⟩) ?_ ?_
        rotate_left
        · intro w'
          go_simp
          with_reducible rfl
        rotate_left
        · simp only [Act.put, List.setIfInBounds_toArray, List.set_cons_zero, List.set_cons_succ, i64_w, i32_w, HWn.out]
          rfl
        refine pure_ (i := 5) (N := some 95) (v := ?_) (a' := ?_) #[true, false, false, true, false, true, false, false, false, false, false] rfl rfl (by kernel_rfl) (fun _ _ _ h => h) (Or.inl ⟨by rfl, ?_⟩) ?_ ?_
        rotate_left
        · intro w'
          go_simp
          with_reducible rfl
        rotate_left
        · simp only [Act.put, List.setIfInBounds_toArray, List.set_cons_zero, List.set_cons_succ, i64_w, i32_w, HWn.out]
          rfl
        refine take_ (i := 1) (N := some 91) (v := ?_) (a' := ?_) #[true, true, false, true, false, true, false, false, false, false, false] rfl rfl (by kernel_rfl) (fun _ _ _ h => h) (Or.inl ⟨by rfl, ?_⟩) hHeld ?_ ?_
        rotate_left
        · rintro w' ⟨s0, s1, s2⟩
          go_simp
          with_reducible rfl
        rotate_left
        · simp only [Act.put, List.setIfInBounds_toArray, List.set_cons_zero, List.set_cons_succ, i64_w, i32_w, HWn.out]
          rfl
        refine take_ (i := 4) (N := some 94) (v := ?_) (a' := ?_) #[true, true, false, true, true, true, false, false, false, false, false] rfl rfl (by kernel_rfl) (fun _ _ _ h => h) (Or.inl ⟨by rfl, ?_⟩) hHeld ?_ ?_
        rotate_left
        · rintro w' ⟨s0, s1, s2⟩
          go_simp
          with_reducible rfl
        rotate_left
        · simp only [Act.put, List.setIfInBounds_toArray, List.set_cons_zero, List.set_cons_succ, i64_w, i32_w, HWn.out]
          rfl
        refine take_ (i := 6) (N := some 96) (v := ?_) (a' := ?_) #[true, true, false, true, true, true, true, false, false, false, false] rfl rfl (by kernel_rfl) (fun _ _ _ h => h) (Or.inl ⟨by rfl, ?_⟩) hHeld ?_ ?_
        rotate_left
        · rintro w' ⟨s0, s1, s2⟩
          go_simp
          with_reducible rfl
        rotate_left
        · simp only [Act.put, List.setIfInBounds_toArray, List.set_cons_zero, List.set_cons_succ, i64_w, i32_w, HWn.out]
          rfl
        refine pure_ (i := 7) (N := some 97) (v := ?_) (a' := ?_) #[true, true, false, true, true, true, true, true, false, false, false] rfl rfl (by kernel_rfl) (fun _ _ _ h => h) (Or.inl ⟨by rfl, ?_⟩) ?_ ?_
        rotate_left
        · intro w'
          go_simp
          with_reducible rfl
        rotate_left
        · simp only [Act.put, List.setIfInBounds_toArray, List.set_cons_zero, List.set_cons_succ, i64_w, i32_w, HWn.out]
          rfl
        refine one_ (i := 2) (N := some 92) #[true, true, true, true, true, true, true, true, false, false, false] rfl rfl (by kernel_rfl) (by decide) (fun K hK => ?_)
        refine goes_ Tryd.func12 (by kernel_rfl) rfl #[.int .i64 x3, .int .i64 3] (by rfl) rfl rfl (by simp only [List.map_toArray, List.map_cons, List.map_nil]; try rfl) ?_
        with_reducible refine ((among_calls _ x3 3 (by omega))).mono ?_
        rintro e w41 ⟨rfl, rfl⟩
        refine ⟨_, rfl, ?_⟩
        refine hK.out _ _ ⟨hHeld.1, hHeld.2.1, hHeld.2.2⟩ (fun hHeld => ?_)
        clear hK K
        refine norm_ (a' := ?_) ?_ ?_
        rotate_left
        · show Act.put _ (some 92) _ = _
          simp only [Act.put, List.setIfInBounds_toArray, List.set_cons_zero, List.set_cons_succ, i64_w, i32_w, HWn.out]
          rfl
        refine one_ (i := 8) (N := some 98) #[true, true, true, true, true, true, true, true, true, false, false] rfl rfl (by kernel_rfl) (by decide) (fun K hK => ?_)
        refine goes_ Tryd.func12 (by kernel_rfl) rfl #[.int .i64 x4, .int .i64 (a0 + 1)] (by rfl) rfl rfl (by simp only [List.map_toArray, List.map_cons, List.map_nil]; try rfl) ?_
        with_reducible refine ((among_calls _ x4 (a0 + 1) (by omega))).mono ?_
        rintro e w41 ⟨rfl, rfl⟩
        refine ⟨_, rfl, ?_⟩
        refine hK.out _ _ ⟨hHeld.1, hHeld.2.1, hHeld.2.2⟩ (fun hHeld => ?_)
        clear hK K
        refine norm_ (a' := ?_) ?_ ?_
        rotate_left
        · show Act.put _ (some 98) _ = _
          simp only [Act.put, List.setIfInBounds_toArray, List.set_cons_zero, List.set_cons_succ, i64_w, i32_w, HWn.out]
          rfl
        refine pure_ (i := 9) (N := some 18) (v := ?_) (a' := ?_) #[true, true, true, true, true, true, true, true, true, true, false] rfl rfl (by kernel_rfl) (fun _ _ _ h => h) (Or.inl ⟨by rfl, ?_⟩) ?_ ?_
        rotate_left
        · intro w'
          go_simp
          with_reducible rfl
        rotate_left
        · simp only [Act.put, List.setIfInBounds_toArray, List.set_cons_zero, List.set_cons_succ, i64_w, i32_w, HWn.out]
          rfl
        refine pure_ (i := 10) (N := some 19) (v := ?_) (a' := ?_) #[true, true, true, true, true, true, true, true, true, true, true] rfl rfl (by kernel_rfl) (fun _ _ _ h => h) (Or.inl ⟨by rfl, ?_⟩) ?_ ?_
        rotate_left
        · intro w'
          go_simp
          with_reducible rfl
        rotate_left
        · simp only [Act.put, List.setIfInBounds_toArray, List.set_cons_zero, List.set_cons_succ, i64_w, i32_w, HWn.out]
          rfl
        refine done_ (by kernel_rfl) ?_
        go_wp2_with fail
        refine (Charge_calls _ _ ga Aa 3 ca a0 F _ (amongV x3 3) (amongV x4 (a0 + 1)) HTd.out.a (by omega)).mono ?_
        rintro e w6 ⟨rfl, hl, ht⟩
        rw [charge_c0 hm1.1 hm1.2 hm2.1 (by omega)]
        have HT6 := Aside0.mk (Two.sa HS.out HTd.out hl ht)
        clear hl ht HTd HTp HP HK hHeld
        by_cases hsk0 : (j : Int) = amongV skip (n : Int)
        · have hsk : ((j : Int) == amongV skip (n : Int)) = true := by simpa using hsk0
          have hsk2 : ((j : Int) != amongV skip (n : Int)) = false := by simpa using hsk0
          clear hsk0
          go_wp2_with fail
          refine (among_calls w6 skip (n : Int) (by omega)).mono ?_
          rintro e w7 ⟨rfl, rfl⟩
          have HT7 := HT6
          have HLe7 : Aside0 (LeL xb (chargeL a0 3 xa (amongV x3 3) (amongV x4 (a0 + 1)))) := ⟨le_charge1 HT.out.a.len HT.out.a.val hm1.1 hm1.2 hm2.1 (by omega) HLe.out⟩
          have HNf7 := Aside0.mk (notF_charge HT.out.a.len hm1.1 hm1.2 hm2.1 (show amongV x4 (a0 + 1) ≤ a0 by omega) hn1 hr0 HNf.out)
          by_cases ha0 : amongV x3 3 = 0
          · have hz : (amongV x3 3 == 0) = true := by simpa using ha0
            rw [if_pos ha0] at HNf7
            clear ha0 HT6
            go_wp2_with fail
            go_roundg k
            case measure => omega
            case rel => exact ⟨j + 1, _, faded, _, _, rfl, rfl, by go_num, ⟨by have := HD.out; omega⟩, by omega, by omega, by push_cast; omega, HT7, HLe7, HNf7⟩
          · have hz : (amongV x3 3 == 0) = false := by simpa using ha0
            rw [if_neg ha0] at HNf7
            clear ha0 HT6
            go_wp2_with fail
            go_roundg k
            case measure => omega
            case rel => exact ⟨j + 1, _, faded, _, _, rfl, rfl, by go_num, ⟨by have := HD.out; omega⟩, by omega, by omega, by push_cast; omega, HT7, HLe7, HNf7⟩
        · have hsk : ((j : Int) == amongV skip (n : Int)) = false := by simpa using hsk0
          have hsk2 : ((j : Int) != amongV skip (n : Int)) = true := by simpa using hsk0
          clear hsk0
          go_wp2_with fail
          refine (among_calls w6 skip (n : Int) (by omega)).mono ?_
          rintro e w7 ⟨rfl, rfl⟩
          go_wp2_with fail
          refine (Charge_calls w6 _ gq Ab 3 cb a0 F _ (amongV x3 3) (amongV x4 (a0 + 1)) HT6.out.b (by omega)).mono ?_
          rintro e w7 ⟨rfl, hl, ht⟩
          rw [charge_c0 hm1.1 hm1.2 hm2.1 (by omega)]
          have HT7 := Aside0.mk (Two.sb HS.out HT6.out hl ht)
          have HLe7 : Aside0 (LeL (chargeL a0 3 xb (amongV x3 3) (amongV x4 (a0 + 1))) (chargeL a0 3 xa (amongV x3 3) (amongV x4 (a0 + 1)))) := ⟨le_charge HT.out.b.len HT.out.a.len hm1.1 hm1.2 hm2.1 (by omega) HLe.out⟩
          clear hl ht
          have HNf7 := Aside0.mk (notF_charge HT.out.a.len hm1.1 hm1.2 hm2.1 (show amongV x4 (a0 + 1) ≤ a0 by omega) hn1 hr0 HNf.out)
          by_cases ha0 : amongV x3 3 = 0
          · have hz : (amongV x3 3 == 0) = true := by simpa using ha0
            rw [if_pos ha0] at HNf7
            clear ha0 HT6
            go_wp2_with fail
            go_roundg k
            case measure => omega
            case rel => exact ⟨j + 1, _, faded, _, _, rfl, rfl, by go_num, ⟨by have := HD.out; omega⟩, by omega, by omega, by push_cast; omega, HT7, HLe7, HNf7⟩
          · have hz : (amongV x3 3 == 0) = false := by simpa using ha0
            rw [if_neg ha0] at HNf7
            clear ha0 HT6
            go_wp2_with fail
            go_roundg k
            case measure => omega
            case rel => exact ⟨j + 1, _, faded, _, _, rfl, rfl, by go_num, ⟨by have := HD.out; omega⟩, by omega, by omega, by push_cast; omega, HT7, HLe7, HNf7⟩
end Go.Proofs.YtgjjfnjnjnbfgaaDoor.L
