/- Contracts of the program's ledger, where it is made or written: what each call answers and leaves. Conditions: each theorem's own. -/
import Derived.Test.YtgjjfnjnjnbfgaaDoorLE
namespace Go.Proofs.YtgjjfnjnjnbfgaaDoor.L
open Go.RowKit Go.Proofs.YtgjjfnjnjnbfgaaDoorW.PrintWords Go.Proofs.YtgjjfnjnjnbfgaaDoorW.PrintLast Go.Proofs.YtgjjfnjnjnbfgaaDoor.H Go.Proofs.YtgjjfnjnjnbfgaaDoor.Q Go.Proofs.YtgjjfnjnjnbfgaaDoor.GLG
set_option linter.unusedVariables false
set_option linter.unusedSimpArgs false

def cfgC (a0 a1 a2 a3 a4 a5 a6 a7 : Int) : Array Value := #[.int .i64 a0, .int .i64 a1, .int .i64 a2, .int .i64 a3, .int .i64 a4, .int .i64 a5, .int .i64 a6, .int .i64 a7]
theorem led_cell {w : World} {B g : Nat} {ab n c : Nat} {nodes factor : Int} {xs : List Int} (h : LedAt w B g (some ⟨ab, 0, none⟩) n c nodes factor xs) (k : Nat) (hk : k < n) : w.cell? ⟨ab, k, none⟩ = some (.int .u64 (rd xs (k : Int))) := by
  have hk' : k < xs.length := by rw [h.len]; exact hk
  have := own_cell h.own k 0 xs[k] (List.getElem?_eq_getElem hk') (by decide) (.int .u64 xs[k]) rfl
  simpa [Ei, rd, List.getD_eq_getElem?_getD, List.getElem?_eq_getElem hk'] using this
theorem led_form {w : World} {B g : Nat} {A : Option Addr} {n c : Nat} {nodes factor : Int} {xs : List Int} (h : LedAt w B g A n c nodes factor xs) (hp : 0 < n) : ∃ ab, A = some ⟨ab, 0, none⟩ ∧ ab ≠ g := by
  obtain ⟨ad, rfl, _⟩ := h.rd.2.2 hp
  have h1 := (own_form h.own).2 ad rfl
  exact ⟨ad.block, by rw [← h1], h.ne ad rfl⟩
/-- A store into the usages. -/
theorem LedAt.put {w : World} {B g : Nat} {ab n c : Nat} {nodes factor : Int} {xs : List Int} (h : LedAt w B g (some ⟨ab, 0, none⟩) n c nodes factor xs) (k : Nat) (hk : k < n) (y : Int) (hy : U y) :
    LedAt (w.setCell ⟨ab, k, none⟩ (.int .u64 y)) B g (some ⟨ab, 0, none⟩) n c nodes factor (xs.set k y) := by
  have hne := h.ne _ rfl
  have hk' : k < xs.length := by rw [h.len]; exact hk
  refine ⟨?_, ?_, by rw [List.length_set]; exact h.len, h.ne, h.base, ?_, h.fac, h.nod⟩
  · exact blk_tn h.blk (Tn.set ab k (.int .u64 y) (F := fun i => i = ab) rfl) (fun e => hne e.symm)
  · have := own_put h.own k 0 xs[k] y (.int .u64 y) (List.getElem?_eq_getElem hk') (by decide) rfl
    simpa [Ei] using this
  · intro x hx
    rcases List.mem_or_eq_of_mem_set hx with h1 | rfl
    · exact h.val x h1
    · exact hy
theorem a_below {A : Option Addr} {n c B : Nat} {w : World} {g : Nat} {e : TypeId} {sz : Nat} {xs : List Value} (h : w.ownsRow B e sz (.slice A n c) n xs) (hg : w.heap.size ≤ g) : ∀ ad, A = some ad → ad.block ≠ g := fun ad ha he => by
  subst ha
  have := (h.lt ad.block rfl).2
  omega

set_option maxHeartbeats 8000000 in
set_option maxRecDepth 100000 in
theorem New_bad (w : World) (a0 a1 a2 a3 a4 a5 a6 a7 : Int) (A : Option Addr) (n c : Nat) (h : checkV a0 a1 a2 a3 a4 a5 a6 a7 ≠ 0) :
    Calls Tryd.prog 9 #[.agg #[.int .i64 a0, .int .i64 a1, .int .i64 a2, .int .i64 a3, .int .i64 a4, .int .i64 a5, .int .i64 a6, .int .i64 a7], .slice A n c] w fun e w' => e = .returned (.tuple #[.pointer none, .int .i64 (checkV a0 a1 a2 a3 a4 a5 a6 a7)]) ∧ w.grownBy w' none := by
  obtain ⟨r, hr⟩ : ∃ r, r = checkV a0 a1 a2 a3 a4 a5 a6 a7 := ⟨_, rfl⟩
  rw [← hr] at h ⊢
  have HC := Aside0.mk (check_calls (w.alloc (.cells #[.int .i64 a0, .int .i64 a1, .int .i64 a2, .int .i64 a3, .int .i64 a4, .int .i64 a5, .int .i64 a6, .int .i64 a7] 23)) a0 a1 a2 a3 a4 a5 a6 a7)
  rw [← hr] at HC
  have hb1 : (r == 0) = false := by simpa using h
  have hb2 : (r != 0) = true := by simpa using h
  clear hr h
  go_enter Tryd.func9, Tryd.ntmps9
  go_wp2_with fail
  refine (HC.out).mono ?_
  rintro e w2 ⟨rfl, hb⟩
  have HG := Aside0.mk (World.grownBy.trans (World.grownBy_alloc w (.cells #[.int .i64 a0, .int .i64 a1, .int .i64 a2, .int .i64 a3, .int .i64 a4, .int .i64 a5, .int .i64 a6, .int .i64 a7] 23) none) (gb_of_below hb none))
  clear hb
  go_wp2_with fail
  go_ret2
  exact ⟨rfl, HG.out⟩
set_option maxHeartbeats 8000000 in
set_option maxRecDepth 100000 in
theorem New_many (w : World) (a0 a1 a2 a3 a4 a5 a6 a7 : Int) (A : Option Addr) (n c : Nat) (h : checkV a0 a1 a2 a3 a4 a5 a6 a7 = 0) (hn : 64 < n) :
    Calls Tryd.prog 9 #[.agg #[.int .i64 a0, .int .i64 a1, .int .i64 a2, .int .i64 a3, .int .i64 a4, .int .i64 a5, .int .i64 a6, .int .i64 a7], .slice A n c] w fun e w' => e = .returned (.tuple #[.pointer none, .int .i64 1]) ∧ w.grownBy w' none := by
  have HC := Aside0.mk (check_calls (w.alloc (.cells #[.int .i64 a0, .int .i64 a1, .int .i64 a2, .int .i64 a3, .int .i64 a4, .int .i64 a5, .int .i64 a6, .int .i64 a7] 23)) a0 a1 a2 a3 a4 a5 a6 a7)
  rw [h] at HC
  have hb1 : decide ((64 : Int) < (n : Int)) = true := decide_eq_true (by omega)
  have hb2 : decide (64 < n) = true := decide_eq_true hn
  clear h
  go_enter Tryd.func9, Tryd.ntmps9
  go_wp2_with fail
  refine (HC.out).mono ?_
  rintro e w2 ⟨rfl, hb⟩
  have HG := Aside0.mk (World.grownBy.trans (World.grownBy_alloc w (.cells #[.int .i64 a0, .int .i64 a1, .int .i64 a2, .int .i64 a3, .int .i64 a4, .int .i64 a5, .int .i64 a6, .int .i64 a7] 23) none) (gb_of_below hb none))
  clear hb
  go_wp2_with fail
  go_ret2
  exact ⟨rfl, HG.out⟩
/-- A new ledger is answered, of a row and a block of its own. -/
def NewLed (w : World) (nodes factor : Int) (n : Nat) (xs : List Int) (code : Int) (e : Ending) (w' : World) : Prop :=
  ∃ g A c, e = .returned (.tuple #[.pointer (some ⟨g, 0, none⟩), .int .i64 code]) ∧ LedAt w' w.heap.size g A n c nodes factor xs ∧ w.grownBy w' none
set_option maxHeartbeats 8000000 in
set_option maxRecDepth 100000 in
theorem New_ok (w : World) (hW : LaidW w) (a0 a1 a2 a3 a4 a5 a6 a7 : Int) (A : Option Addr) (n c : Nat) (xs : List Int) (h : checkV a0 a1 a2 a3 a4 a5 a6 a7 = 0) (hn : n ≤ 64) (hr : Rd (Ei .u64) w A n xs) (hv : ∀ x ∈ xs, U x) (hp0 : 0 ≤ a0) (hp1 : a0 ≤ 9223372036854775807) (hf : U (factV a6 a7).1) :
    Calls Tryd.prog 9 #[.agg #[.int .i64 a0, .int .i64 a1, .int .i64 a2, .int .i64 a3, .int .i64 a4, .int .i64 a5, .int .i64 a6, .int .i64 a7], .slice A n c] w (NewLed w a0 (factV a6 a7).1 n xs (factV a6 a7).2) := by
  have HC0 := Aside0.mk (check_calls (w.alloc (.cells #[.int .i64 a0, .int .i64 a1, .int .i64 a2, .int .i64 a3, .int .i64 a4, .int .i64 a5, .int .i64 a6, .int .i64 a7] 23)) a0 a1 a2 a3 a4 a5 a6 a7)
  rw [h] at HC0
  have HB0 := Aside0.mk (heap_alloc_new w (.cells #[.int .i64 a0, .int .i64 a1, .int .i64 a2, .int .i64 a3, .int .i64 a4, .int .i64 a5, .int .i64 a6, .int .i64 a7] 23))
  have HG0 := Aside0.mk (World.grownBy_alloc w (.cells #[.int .i64 a0, .int .i64 a1, .int .i64 a2, .int .i64 a3, .int .i64 a4, .int .i64 a5, .int .i64 a6, .int .i64 a7] 23) none)
  have HR0 := Aside0.mk hr
  have HLn := Aside0.mk hr.1
  have HV := Aside0.mk hv
  have HW := Aside0.mk hW
  have HF := Aside0.mk hf
  have hb1 : decide ((64 : Int) < (n : Int)) = false := decide_eq_false (by omega)
  have hb2 : decide (64 < n) = false := decide_eq_false (by omega)
  clear h hr hv hW hf
  go_enter Tryd.func9, Tryd.ntmps9
  go_wp2_with fail
  refine (HC0.out).mono ?_
  rintro e w1 ⟨rfl, hb⟩
  have HB1 := Aside0.mk (blk_kept HB0.out (gb_of_below hb none) (by simp))
  have HG1 := Aside0.mk (World.grownBy.trans HG0.out (gb_of_below hb none))
  clear hb HB0 HG0 HC0
  have hx6 : w1.cell? ⟨w.heap.size, 6, none⟩ = some (.int .i64 a6) := cell_of HB1.out rfl
  have hx7 : w1.cell? ⟨w.heap.size, 7, none⟩ = some (.int .i64 a7) := cell_of HB1.out rfl
  go_wp2_with fail
  refine (factor_calls w1 (laid_below HW.out (below_of_gb HG1.out)) a6 a7).mono ?_
  rintro e w2 ⟨rfl, hb⟩
  have HB2 := Aside0.mk (blk_kept HB1.out (gb_of_below hb none) (by simp))
  have HG2 := Aside0.mk (World.grownBy.trans HG1.out (gb_of_below hb none))
  clear hb HB1 HG1 hx6 hx7
  have HX := Aside0.mk (show w2.drew.cell? ⟨w.heap.size, 0, none⟩ = some (.int .i64 a0) from cell_of (j := 0) HB2.out rfl)
  have HGd := Aside0.mk (World.grownBy.trans HG2.out (gb_drew w2 none))
  have HSd := Aside0.mk HGd.out.size
  have HC := Aside0.mk (clone_calls w2.drew A n c xs (HR0.out.gb HGd.out) (by omega))
  clear HB2 HG2
  go_wp2_with fail
  refine start_ (n := 11) (S := fun w' => w'.cell? ⟨w.heap.size, 0, none⟩ = some (.int .i64 a0)) (ds := []) #[false, false, false, false, false, false, false, false, false, false, false] (by kernel_rfl) rfl rfl (HX.out) (fun hHeld => ?_)
  refine pure_ (i := 0) (N := some 25) (v := ?_) (a' := ?_) #[true, false, false, false, false, false, false, false, false, false, false] rfl rfl (by kernel_rfl) (fun _ _ _ h => h) (Or.inl ⟨by rfl, ?_⟩) ?_ ?_
  rotate_left
  · intro w'
    go_simp
    with_reducible rfl
  rotate_left
  · simp only [Act.put, List.setIfInBounds_toArray, List.set_cons_zero, List.set_cons_succ, i64_w, i32_w]
    rfl
  refine pure_ (i := 3) (N := some 28) (v := ?_) (a' := ?_) #[true, false, false, true, false, false, false, false, false, false, false] rfl rfl (by kernel_rfl) (fun _ _ _ h => h) (Or.inl ⟨by rfl, ?_⟩) ?_ ?_
  rotate_left
  · intro w'
    go_simp
    with_reducible rfl
  rotate_left
  · simp only [Act.put, List.setIfInBounds_toArray, List.set_cons_zero, List.set_cons_succ, i64_w, i32_w]
    rfl
  refine pure_ (i := 5) (N := some 30) (v := ?_) (a' := ?_) #[true, false, false, true, false, true, false, false, false, false, false] rfl rfl (by kernel_rfl) (fun _ _ _ h => h) (Or.inl ⟨by rfl, ?_⟩) ?_ ?_
  rotate_left
  · intro w'
    go_simp
    with_reducible rfl
  rotate_left
  · simp only [Act.put, List.setIfInBounds_toArray, List.set_cons_zero, List.set_cons_succ, i64_w, i32_w]
    rfl
  refine pure_ (i := 8) (N := some 33) (v := ?_) (a' := ?_) #[true, false, false, true, false, true, false, false, true, false, false] rfl rfl (by kernel_rfl) (fun _ _ _ h => h) (Or.inl ⟨by rfl, ?_⟩) ?_ ?_
  rotate_left
  · intro w'
    go_simp
    with_reducible rfl
  rotate_left
  · simp only [Act.put, List.setIfInBounds_toArray, List.set_cons_zero, List.set_cons_succ, i64_w, i32_w]
    rfl
  refine take_ (i := 4) (N := some 29) (v := ?_) (a' := ?_) #[true, false, false, true, true, true, false, false, true, false, false] rfl rfl (by kernel_rfl) (fun _ _ _ h => h) (Or.inl ⟨by rfl, ?_⟩) hHeld ?_ ?_
  rotate_left
  · intro w' s0
    go_simp
    with_reducible rfl
  rotate_left
  · simp only [Act.put, List.setIfInBounds_toArray, List.set_cons_zero, List.set_cons_succ, i64_w, i32_w]
    rfl
  refine one_ (i := 1) (N := some 26) #[true, true, false, true, true, true, false, false, true, false, false] rfl rfl (by kernel_rfl) (by decide) (fun K hK => ?_)
  refine goes_ Tryd.func31 (by kernel_rfl) rfl #[.slice A n c] (by rfl) rfl rfl (by simp only [List.map_toArray, List.map_cons, List.map_nil]; try rfl) ?_
  with_reducible refine (HC.out).mono ?_
  rintro e w3 ⟨v3, rfl, ho, hg⟩
  rw [HLn.out] at ho
  obtain ⟨A3, c3, rfl, -, -, -⟩ := own_open HLn.out ho
  refine ⟨_, rfl, ?_⟩
  have HO3 := Aside0.mk ho; have HG3 := Aside0.mk (World.grownBy.trans HGd.out hg); have HX3 := Aside0.mk (hg.cell HX.out (by simp)); clear ho hg HC HGd HX
  refine hK.out _ _ (HX3.out) (fun hHeld => ?_)
  clear hK K
  refine norm_ (a' := ?_) ?_ ?_
  rotate_left
  · show Act.put _ (some 26) _ = _
    simp only [Act.put, List.setIfInBounds_toArray, List.set_cons_zero, List.set_cons_succ, i64_w, i32_w]
    rfl
  refine pure_ (i := 2) (N := some 27) (v := ?_) (a' := ?_) #[true, true, true, true, true, true, false, false, true, false, false] rfl rfl (by kernel_rfl) (fun _ _ _ h => h) (Or.inl ⟨by rfl, ?_⟩) ?_ ?_
  rotate_left
  · intro w'
    go_simp
    with_reducible rfl
  rotate_left
  · simp only [Act.put, List.setIfInBounds_toArray, List.set_cons_zero, List.set_cons_succ, i64_w, i32_w]
    rfl
  refine pure_ (i := 6) (N := some 31) (v := ?_) (a' := ?_) #[true, true, true, true, true, true, true, false, true, false, false] rfl rfl (by kernel_rfl) (fun _ _ _ h => h) (Or.inl ⟨by rfl, ?_⟩) ?_ ?_
  rotate_left
  · intro w'
    go_simp
    with_reducible rfl
  rotate_left
  · simp only [Act.put, List.setIfInBounds_toArray, List.set_cons_zero, List.set_cons_succ, i64_w, i32_w]
    rfl
  refine one_ (i := 7) (N := some 32) #[true, true, true, true, true, true, true, true, true, false, false] rfl rfl (by kernel_rfl) (by decide) (fun K hK => ?_)
  refine value_ (w1 := ?_) (v := ?_) (by rfl) rfl ?_ ?_
  rotate_left 2
  · go_simp
    constructor
    · rfl
    · rfl
  have HB7 := Aside0.mk (heap_alloc_new w3 (.cells #[.slice A3 n c3, .int .i64 a0, .int .u64 (factV a6 a7).1] 50)); have HO7 := Aside0.mk (own_kept HO3.out (World.grownBy_alloc w3 (.cells #[.slice A3 n c3, .int .i64 a0, .int .u64 (factV a6 a7).1] 50) none) (by simp)); have HG7 := Aside0.mk (World.grownBy.trans HG3.out (World.grownBy_alloc w3 (.cells #[.slice A3 n c3, .int .i64 a0, .int .u64 (factV a6 a7).1] 50) none)); have HX7 := Aside0.mk ((World.grownBy_alloc w3 (.cells #[.slice A3 n c3, .int .i64 a0, .int .u64 (factV a6 a7).1] 50) none).cell HX3.out (by simp)); have HN7 := Aside0.mk (a_below HO3.out (Nat.le_refl _)); have HS7 := Aside0.mk HG3.out.size; clear HO3 HG3 HX3
  refine hK.out _ _ (HX7.out) (fun hHeld => ?_)
  clear hK K
  refine norm_ (a' := ?_) ?_ ?_
  rotate_left
  · show Act.put _ (some 32) _ = _
    simp only [Act.put, List.setIfInBounds_toArray, List.set_cons_zero, List.set_cons_succ, i64_w, i32_w]
    rfl
  refine pure_ (i := 9) (N := some 4) (v := ?_) (a' := ?_) #[true, true, true, true, true, true, true, true, true, true, false] rfl rfl (by kernel_rfl) (fun _ _ _ h => h) (Or.inl ⟨by rfl, ?_⟩) ?_ ?_
  rotate_left
  · intro w'
    go_simp
    with_reducible rfl
  rotate_left
  · simp only [Act.put, List.setIfInBounds_toArray, List.set_cons_zero, List.set_cons_succ, i64_w, i32_w]
    rfl
  refine pure_ (i := 10) (N := some 5) (v := ?_) (a' := ?_) #[true, true, true, true, true, true, true, true, true, true, true] rfl rfl (by kernel_rfl) (fun _ _ _ h => h) (Or.inl ⟨by rfl, ?_⟩) ?_ ?_
  rotate_left
  · intro w'
    go_simp
    with_reducible rfl
  rotate_left
  · simp only [Act.put, List.setIfInBounds_toArray, List.set_cons_zero, List.set_cons_succ, i64_w, i32_w]
    rfl
  refine done_ (by kernel_rfl) ?_
  go_wp2
  go_ret2
  exact ⟨_, _, _, rfl, ⟨HB7.out, own_mono HO7.out HSd.out, HLn.out, HN7.out, HS7.out, HV.out, HF.out, hp0, hp1⟩, HG7.out⟩
/-- What Open answers and leaves. -/
def OpenI (w : World) (B g : Nat) (A : Option Addr) (n : Nat) (nodes factor : Int) (xs : List Int) (e : Ending) (w' : World) : Prop :=
  ∃ A' c', e = .returned (.int .i64 (n : Int)) ∧ LedAt w' B g A' (n + 1) c' nodes factor (xs ++ [0]) ∧ Tn w w' (Foot g A) ∧ ∀ ad, A' = some ad → (∃ a0, A = some a0 ∧ ad.block = a0.block) ∨ w.heap.size ≤ ad.block
set_option maxHeartbeats 8000000 in
set_option maxRecDepth 100000 in
theorem Open_calls (w : World) (B g : Nat) (A : Option Addr) (n c : Nat) (nodes factor : Int) (xs : List Int) (h : LedAt w B g A n c nodes factor xs) (hn : n ≤ 1000) :
    Calls Tryd.prog 29 #[.pointer (some ⟨g, 0, none⟩)] w (OpenI w B g A n nodes factor xs) := by
  have HL := Aside0.mk h
  have HL1 := Aside0.mk (h.gb (World.grownBy_alloc w (.cells #[.int .u64 0] 28) none))
  have hc0 := h.c0
  have HB1 : Aside0 (B ≤ (w.alloc (.cells #[.int .u64 0] 28)).heap.size) := ⟨by have := h.lt; have := h.base; simp; omega⟩
  have HR1 := Aside0.mk (show Rd (Ei .u64) (w.alloc (.cells #[.int .u64 0] 28)) (some ⟨w.heap.size, 0, none⟩) 1 [0] from rd_lit (Ei .u64) w 28 [0] (by simp))
  have HLn := Aside0.mk (show (xs ++ [0]).length = n + 1 by rw [List.length_append, h.len]; rfl)
  clear h
  go_enter Tryd.func29, Tryd.ntmps29
  go_wp2_with (at_builtin; refine app_at (Ei .u64) B rfl (.tmp 7) (.tmp 8) 24 28 (.int .u64 0) 8 rfl Tryd.underlying24 (by kernel_rfl) rfl (by decide) (.slice A n c) n xs [0] ⟨w.heap.size, 0, none⟩ 1 1 rfl rfl HL1.out.own HR1.out HB1.out (by omega) ?_; intro v3 w3 ho hg hat; obtain ⟨A3, c3, rfl, -, -, -⟩ := own_open HLn.out ho; have HO3 := Aside0.mk ho; have HG3 := Aside0.mk hg; have HA3 := Aside0.mk hat; have HK3 := Aside0.mk (blk_kept HL1.out.blk hg (by cases A with | none => simp [Value.ownBlock] | some ad => have := HL1.out.ne ad rfl; simp [Value.ownBlock]; omega)); have hk3 := cell_of (j := 0) HK3.out rfl; have hf3 := frozen_of (j := 0) HK3.out; clear ho hg hat)
  go_ret
  have hL := HL.out
  have hne : ∀ ad, A3 = some ad → (∃ a0, A = some a0 ∧ ad.block = a0.block) ∨ w.heap.size < ad.block := fun ad ha => by
    subst ha
    rcases HA3.out with h1 | h1
    · cases A with
      | none => simp [Value.ownBlock] at h1
      | some a0 => exact .inl ⟨a0, rfl, by simpa [Value.ownBlock] using h1⟩
    · exact .inr (by simp [Value.ownBlock] at h1; omega)
  have hng : ∀ ad, A3 = some ad → ad.block ≠ g := fun ad ha => by
    rcases hne ad ha with ⟨a0, h1, h2⟩ | h1
    · rw [h2]; exact hL.ne a0 h1
    · have := hL.lt; omega
  have hT : Tn w w3 (Foot g A) := (Tn.alloc w _ _).trans' (Tn.of_gb HG3.out (fun k hk => .inr (by cases A with | none => simp [Value.ownBlock] at hk | some ad => exact ⟨ad, rfl, by simpa [Value.ownBlock] using hk.symm⟩)))
  refine ⟨A3, c3, rfl, ⟨?_, ?_, HLn.out, hng, hL.base, ?_, hL.fac, hL.nod⟩, hT.trans' (Tn.set g 0 _ (.inl rfl)), fun ad ha => (hne ad ha).imp id Nat.le_of_lt⟩
  · have := blk_set 0 (.slice A3 (n + 1) c3) HK3.out
    simpa using this
  · exact own_tn HO3.out (Tn.set g 0 _ (F := fun k => k = g) rfl) (fun k hk he => by cases A3 with | none => simp [Value.ownBlock] at hk | some ad => exact hng ad rfl (by simp [Value.ownBlock] at hk; omega))
  · intro x hx
    rcases List.mem_append.1 hx with h1 | h1
    · exact hL.val x h1
    · simp at h1; subst h1; exact ⟨by decide, by decide⟩
end Go.Proofs.YtgjjfnjnjnbfgaaDoor.L
