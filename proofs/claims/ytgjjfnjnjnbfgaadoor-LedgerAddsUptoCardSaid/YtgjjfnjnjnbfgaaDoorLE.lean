/- Contracts of the program's ledger: what each call answers and leaves. Conditions: each theorem's own. -/
import Derived.Test.YtgjjfnjnjnbfgaaDoorLN
namespace Go.Proofs.YtgjjfnjnjnbfgaaDoor.L
open Go.RowKit Go.Proofs.YtgjjfnjnjnbfgaaDoorW.PrintWords Go.Proofs.YtgjjfnjnjnbfgaaDoorW.PrintLast Go.Proofs.YtgjjfnjnjnbfgaaDoor.H Go.Proofs.YtgjjfnjnjnbfgaaDoor.Q Go.Proofs.YtgjjfnjnjnbfgaaDoor.GLG
set_option linter.unusedVariables false
set_option linter.unusedSimpArgs false

/-- A ledger of the program at block g: its usages lie in a row of its own, from block B on. -/
structure LedAt (w : World) (B g : Nat) (A : Option Addr) (n c : Nat) (nodes factor : Int) (xs : List Int) : Prop where
  blk : w.heap[g]? = some (.cells #[.slice A n c, .int .i64 nodes, .int .u64 factor] 50 (0, 0))
  own : w.ownsRow B 28 (Ei .u64).sz (.slice A n c) n (flat (Ei .u64) xs)
  len : xs.length = n
  ne : ∀ ad, A = some ad → ad.block ≠ g
  base : B ≤ g
  val : ∀ x ∈ xs, U x
  fac : U factor
  nod : 0 ≤ nodes ∧ nodes ≤ 9223372036854775807
def Foot (g : Nat) (A : Option Addr) (k : Nat) : Prop := k = g ∨ ∃ ad, A = some ad ∧ k = ad.block
theorem LedAt.tn {w w' : World} {B g : Nat} {A : Option Addr} {n c : Nat} {nodes factor : Int} {xs : List Int} {F : Nat → Prop} (h : LedAt w B g A n c nodes factor xs) (hg : Tn w w' F) (hF : ∀ k, Foot g A k → ¬ F k) : LedAt w' B g A n c nodes factor xs :=
  ⟨blk_tn h.blk hg (hF g (.inl rfl)), own_tn h.own hg (fun k hk => hF k (.inr (by cases A with | none => simp [Value.ownBlock] at hk | some ad => exact ⟨ad, rfl, by simpa [Value.ownBlock] using hk.symm⟩))), h.len, h.ne, h.base, h.val, h.fac, h.nod⟩
theorem LedAt.gb {w w' : World} {B g : Nat} {A : Option Addr} {n c : Nat} {nodes factor : Int} {xs : List Int} (h : LedAt w B g A n c nodes factor xs) (hg : w.grownBy w' none) : LedAt w' B g A n c nodes factor xs :=
  h.tn (Tn.gb0 hg (fun _ => False)) (fun _ _ => id)
theorem LedAt.rd {w : World} {B g : Nat} {A : Option Addr} {n c : Nat} {nodes factor : Int} {xs : List Int} (h : LedAt w B g A n c nodes factor xs) : Rd (Ei .u64) w A n xs := own_rd h.len h.own
theorem LedAt.lt {w : World} {B g : Nat} {A : Option Addr} {n c : Nat} {nodes factor : Int} {xs : List Int} (h : LedAt w B g A n c nodes factor xs) : g < w.heap.size := blk_lt' h.blk
theorem LedAt.foot {w : World} {B g : Nat} {A : Option Addr} {n c : Nat} {nodes factor : Int} {xs : List Int} (h : LedAt w B g A n c nodes factor xs) : ∀ k, Foot g A k → B ≤ k ∧ k < w.heap.size := by
  rintro k (rfl | ⟨ad, rfl, rfl⟩)
  · exact ⟨h.base, h.lt⟩
  · exact h.own.lt ad.block rfl
theorem LedAt.c0 {w : World} {B g : Nat} {A : Option Addr} {n c : Nat} {nodes factor : Int} {xs : List Int} (h : LedAt w B g A n c nodes factor xs) : w.cell? ⟨g, 0, none⟩ = some (.slice A n c) := cell_of h.blk rfl
theorem LedAt.c1 {w : World} {B g : Nat} {A : Option Addr} {n c : Nat} {nodes factor : Int} {xs : List Int} (h : LedAt w B g A n c nodes factor xs) : w.cell? ⟨g, 1, none⟩ = some (.int .i64 nodes) := cell_of h.blk rfl
theorem LedAt.c2 {w : World} {B g : Nat} {A : Option Addr} {n c : Nat} {nodes factor : Int} {xs : List Int} (h : LedAt w B g A n c nodes factor xs) : w.cell? ⟨g, 2, none⟩ = some (.int .u64 factor) := cell_of h.blk rfl

def thereB (n : Nat) (a : Int) : Bool := decide (0 ≤ a) && decide (a < (n : Int))
def ownV (xs : List Int) (a : Int) : Int := if 0 ≤ a then rd xs a else 0
set_option maxHeartbeats 8000000 in
set_option maxRecDepth 100000 in
theorem there_calls (w : World) (g : Nat) (A : Option Addr) (n c : Nat) (a : Int) (hc : w.cell? ⟨g, 0, none⟩ = some (.slice A n c)) :
    Calls Tryd.prog 45 #[.pointer (some ⟨g, 0, none⟩), .int .i64 a] w fun e w' => e = .returned (.bool (thereB n a)) ∧ w = w' := by
  by_cases h0 : 0 ≤ a
  · have hb : decide (0 ≤ a) = true := decide_eq_true h0
    by_cases h1 : a < (n : Int)
    · have hb1 : decide (a < (n : Int)) = true := decide_eq_true h1
      have HF := Aside0.mk (show thereB n a = true by unfold thereB; rw [hb, hb1]; rfl)
      go_enter Tryd.func45, Tryd.ntmps45
      go_wp2
      go_ret
      exact ⟨by rw [HF.out]; rfl, rfl⟩
    · have hb1 : decide (a < (n : Int)) = false := decide_eq_false h1
      have HF := Aside0.mk (show thereB n a = false by unfold thereB; rw [hb, hb1]; rfl)
      go_enter Tryd.func45, Tryd.ntmps45
      go_wp2
      go_ret
      exact ⟨by rw [HF.out]; rfl, rfl⟩
  · have hb : decide (0 ≤ a) = false := decide_eq_false h0
    have HF := Aside0.mk (show thereB n a = false by unfold thereB; rw [hb]; rfl)
    clear h0
    go_enter Tryd.func45, Tryd.ntmps45
    go_wp2
    go_ret
    exact ⟨by rw [HF.out]; rfl, rfl⟩
theorem there_true {n : Nat} {a : Int} (h : thereB n a = true) : ∃ k : Nat, a = k ∧ k < n := by
  unfold thereB at h
  simp only [Bool.and_eq_true, decide_eq_true_eq] at h
  exact ⟨a.toNat, by omega, by omega⟩
theorem there_false {xs : List Int} {a : Int} (h : thereB xs.length a = false) : ownV xs a = 0 := by
  unfold thereB at h
  unfold ownV
  by_cases h0 : 0 ≤ a
  · rw [if_pos h0]
    have h1 : xs.length ≤ a.toNat := by
      simp only [h0, decide_true, Bool.true_and, decide_eq_false_iff_not] at h
      omega
    simp [rd, List.getD_eq_getElem?_getD, List.getElem?_eq_none h1]
  · rw [if_neg h0]
set_option maxHeartbeats 8000000 in
set_option maxRecDepth 100000 in
theorem Own_calls (w : World) (g : Nat) (A : Option Addr) (n c : Nat) (xs : List Int) (a : Int) (hc : w.cell? ⟨g, 0, none⟩ = some (.slice A n c)) (hr : Rd (Ei .u64) w A n xs) :
    Calls Tryd.prog 23 #[.pointer (some ⟨g, 0, none⟩), .int .i64 a] w fun e w' => e = .returned (.int .u64 (ownV xs a)) ∧ w = w' := by
  have HT := Aside0.mk (there_calls w g A n c a hc)
  have HN := Aside0.mk hr.1
  have hl := hr.2.1
  cases hb : thereB n a
  · have HE := Aside0.mk (there_false (xs := xs) (by rw [HN.out]; exact hb))
    rw [hb] at HT
    clear hb hr
    go_enter Tryd.func23, Tryd.ntmps23
    go_wp2_with fail
    refine (HT.out).mono ?_
    rintro e w1 ⟨rfl, rfl⟩
    go_wp2
    go_ret
    exact ⟨by rw [HE.out]; rfl, rfl⟩
  · obtain ⟨k, rfl, hk⟩ := there_true hb
    obtain ⟨ad, rfl, hcell⟩ := hr.int k hk
    have HE := Aside0.mk (show ownV xs (k : Int) = rd xs (k : Int) by unfold ownV; rw [if_pos (by omega)])
    rw [hb] at HT
    clear hb hr
    go_enter Tryd.func23, Tryd.ntmps23
    go_wp2_with fail
    refine (HT.out).mono ?_
    rintro e w1 ⟨rfl, rfl⟩
    go_wp2
    go_ret
    exact ⟨by rw [HE.out]; rfl, rfl⟩
def sumV (xs acc : List Int) : Int := acc.foldl (fun s a => (capV (s + ownV xs a)).1) 0
theorem ownU {xs : List Int} (h : ∀ x ∈ xs, U x) (a : Int) : U (ownV xs a) := by
  unfold ownV
  split
  · unfold rd
    rw [List.getD_eq_getElem?_getD]
    cases e : xs[a.toNat]? with
    | none => exact ⟨by simp, by simp⟩
    | some y => exact h y (List.mem_of_getElem? e)
  · exact ⟨by omega, by omega⟩
theorem sum_foldU {xs : List Int} (h : ∀ x ∈ xs, U x) : ∀ (acc : List Int) (s : Int), U s → U (acc.foldl (fun s a => (capV (s + ownV xs a)).1) s)
  | [], s, hs => hs
  | a :: r, s, hs => sum_foldU h r _ (capU (by have := (ownU h a).1; have := hs.1; omega))
theorem sumU {xs : List Int} (h : ∀ x ∈ xs, U x) (acc : List Int) : U (sumV xs acc) := sum_foldU h acc 0 ⟨by omega, by omega⟩
theorem sum_step {xs acc : List Int} {j : Nat} (h : j < acc.length) : sumV xs (acc.take (j + 1)) = (capV (sumV xs (acc.take j) + ownV xs (rd acc (j : Int)))).1 := by
  unfold sumV
  rw [List.take_succ_eq_append_getElem h, List.foldl_append]
  simp [rd, List.getD_eq_getElem?_getD, List.getElem?_eq_getElem h]
set_option maxHeartbeats 8000000 in
set_option maxRecDepth 100000 in
theorem Sum_calls (w : World) (B g : Nat) (A : Option Addr) (q c : Nat) (nodes factor : Int) (xs : List Int) (D : Option Addr) (n d : Nat) (acc : List Int) (hL : LedAt w B g A q c nodes factor xs) (hr : Rd (Ei .i64) w D n acc) :
    Calls Tryd.prog 17 #[.pointer (some ⟨g, 0, none⟩), .slice D n d] w fun e w' => e = .returned (.int .u64 (sumV xs acc)) ∧ w.grownBy w' none := by
  have HL := Aside0.mk hL
  have HR := Aside0.mk hr
  have HN := Aside0.mk hr.1
  have hl := hr.2.1
  clear hL hr
  go_enter Tryd.func17, Tryd.ntmps17
  go_wp2_with fail
  go_loopg [5, 10] n (fun k v5 v10 wr => ∃ (j : Nat) (s : Int), v5 = .int .u64 s ∧ v10 = .int .i64 j ∧ Aside0 (j + k = n) ∧ j ≤ n ∧ Aside0 (s = sumV xs (acc.take j)) ∧ Aside0 (w.grownBy wr none))
  case atStart => exact ⟨0, 0, rfl, rfl, ⟨by omega⟩, by omega, ⟨rfl⟩, ⟨gb_refl _ _⟩⟩
  case round =>
    obtain ⟨j, s, rfl, rfl, HD, hj, HS, HG⟩ := hrel
    cases gk with
    | zero =>
      obtain rfl : j = n := by have := HD.out; omega
      go_wp2
      go_ret
      exact ⟨by rw [HS.out, List.take_of_length_le (by rw [HN.out]; exact Nat.le_refl _)]; rfl, HG.out⟩
    | succ k =>
      have hlt : j < n := by have := HD.out; omega
      have hb1 : decide (j < n) = true := decide_eq_true hlt
      obtain ⟨ad, rfl, hc⟩ := (HR.out.gb HG.out).int j hlt
      have HLr := Aside0.mk (HL.out.gb HG.out)
      have HO := Aside0.mk (Own_calls wr g A q c xs (rd acc (j : Int)) HLr.out.c0 HLr.out.rd)
      have HU := Aside0.mk (And.intro (show U s by rw [HS.out]; exact sumU HL.out.val _) (ownU HL.out.val (rd acc (j : Int))))
      go_wp2_with fail
      refine (HO.out).mono ?_
      rintro e w1 ⟨rfl, rfl⟩
      have HA := Aside0.mk (add_calls wr s (ownV xs (rd acc (j : Int))) HU.out.1 HU.out.2)
      go_wp2_with fail
      refine (HA.out).mono ?_
      rintro e w2 ⟨rfl, hb⟩
      have HG2 := Aside0.mk (World.grownBy.trans HG.out (gb_of_below hb none))
      clear hb
      go_wp2_with fail
      go_roundg k
      case measure => omega
      case rel => exact ⟨j + 1, _, rfl, by go_num, ⟨by have := HD.out; omega⟩, by omega, ⟨by rw [sum_step (by rw [HN.out]; exact hlt), ← HS.out]⟩, HG2⟩
/-- A row of one's own is answered; of what was there nothing has turned. -/
def NewRow (w : World) (xs : List Int) (e : Ending) (w' : World) : Prop := ∃ v, e = .returned v ∧ w'.ownsRow w.heap.size 28 (Ei .u64).sz v xs.length (flat (Ei .u64) xs) ∧ w.grownBy w' none
theorem rd_none {α : Type} {E : Enc α} {w : World} {n : Nat} {xs : List α} (h : Rd E w none n xs) : n = 0 ∧ xs = [] := by
  have h0 : n = 0 := by
    rcases Nat.eq_zero_or_pos n with h0 | h0
    · exact h0
    · obtain ⟨ad, e, _⟩ := h.2.2 h0; cases e
  exact ⟨h0, List.eq_nil_of_length_eq_zero (h.1.trans h0)⟩
theorem own_lit0 (w : World) : (w.alloc (.cells #[] 28)).ownsRow w.heap.size 28 (Ei .u64).sz (.slice (some ⟨w.heap.size, 0, none⟩) 0 0) 0 (flat (Ei .u64) []) :=
  World.ownsRow_lit (e := 28) (size := 1) w #[] 0 (Nat.le_refl _) (by simp [maxLen]) (by simp)
set_option maxHeartbeats 8000000 in
set_option maxRecDepth 100000 in
theorem clone_calls (w : World) (A : Option Addr) (n c : Nat) (xs : List Int) (hr : Rd (Ei .u64) w A n xs) (hs : n * 8 ≤ 140737488355328) :
    Calls Tryd.prog 31 #[.slice A n c] w (NewRow w xs) := by
  have HR := Aside0.mk hr
  have HN := Aside0.mk hr.1
  cases A with
  | none =>
    obtain ⟨rfl, rfl⟩ := rd_none hr
    have heq := fun (W : World) (a : Option Addr) (l c : Nat) => Lib.run_eql_slice_nil (P := Tryd.prog) W 24 28 a l c 0 0 Tryd.underlying24
    clear hr
    go_enter Tryd.func31, Tryd.ntmps31
    go_wp2
    go_ret
    exact ⟨_, rfl, World.ownsRow_nil _ _ _ _, gb_refl _ _⟩
  | some ad =>
    have heq := fun (W : World) (a : Option Addr) (l c : Nat) => Lib.run_eql_slice_nil (P := Tryd.prog) W 24 28 a l c 0 0 Tryd.underlying24
    have HR1 := Aside0.mk (rd_alloc hr (.cells #[] 28))
    have HN0 := Aside0.mk (own_lit0 w)
    have HG1 := Aside0.mk (World.grownBy_alloc w (.cells #[] 28) none)
    clear hr
    go_enter Tryd.func31, Tryd.ntmps31
    go_wp2_with (at_builtin; refine app (Ei .u64) w.heap.size rfl (.tmp 5) (.tmp 6) 24 28 (.int .u64 0) 8 rfl Tryd.underlying24 (by kernel_rfl) rfl (by decide) _ 0 [] xs _ n _ rfl rfl rfl HN0.out HR1.out HG1.out.size (by omega) ?_; intro v3 w3 ho hg hn; have HO3 := Aside0.mk ho; have HG3 := Aside0.mk (gb_new HG1.out hg (Nat.le_refl _)); clear ho hg hn)
    go_ret
    refine ⟨_, rfl, ?_, HG3.out⟩
    have h := HO3.out
    rw [List.nil_append, Nat.zero_add, ← HN.out] at h
    exact h
set_option maxHeartbeats 8000000 in
set_option maxRecDepth 100000 in
theorem List_calls (w : World) (B g : Nat) (A : Option Addr) (n c : Nat) (nodes factor : Int) (xs : List Int) (hL : LedAt w B g A n c nodes factor xs) (hs : n * 8 ≤ 140737488355328) :
    Calls Tryd.prog 20 #[.pointer (some ⟨g, 0, none⟩)] w (NewRow w xs) := by
  have hc0 := hL.c0
  have HC := Aside0.mk (clone_calls w A n c xs hL.rd hs)
  clear hL
  go_enter Tryd.func20, Tryd.ntmps20
  go_wp2_with fail
  refine (HC.out).mono ?_
  rintro e w1 ⟨v, rfl, ho, hg⟩
  have HO := Aside0.mk ho
  have HG := Aside0.mk hg
  clear ho hg
  go_wp2
  go_ret
  exact ⟨_, rfl, HO.out, HG.out⟩
end Go.Proofs.YtgjjfnjnjnbfgaaDoor.L
