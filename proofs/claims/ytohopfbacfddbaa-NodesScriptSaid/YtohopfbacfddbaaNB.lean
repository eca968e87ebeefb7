/- Contracts of the functions of package nodes, part B: what each call answers and leaves. Conditions: each theorem's own. -/
import Derived.Test.YtohopfbacfddbaaNA
namespace Go.Proofs.Ytohopfbacfddbaa.N
open Go.RowKit Go.Proofs.YtohopfbacfddbaaW.PrintWords

/-- The free ones below m, rising. -/
def freeTo (n : Nat) (t : Nat → Nat) (m : Nat) : List Int := ((List.range m).filter (fun i : Nat => hasB n t (i : Int))).map (fun i : Nat => (i : Int))
theorem freeTo_len (n : Nat) (t : Nat → Nat) (m : Nat) : (freeTo n t m).length ≤ m := by
  unfold freeTo; rw [List.length_map]; exact Nat.le_trans (List.length_filter_le _ _) (by simp)
theorem freeTo_succ (n : Nat) (t : Nat → Nat) (m : Nat) : freeTo n t (m + 1) = if hasB n t (m : Int) then freeTo n t m ++ [(m : Int)] else freeTo n t m := by
  unfold freeTo
  rw [List.range_succ, List.filter_append, List.map_append]
  split <;> simp [*]
/-- A list of the call's own is answered; nothing that was there has turned. -/
def OwnList (w : World) (xs : List Int) (e : Ending) (w' : World) : Prop := ∃ v, e = .returned v ∧ w'.ownsRow w.heap.size 3 1 v xs.length (nums .i64 xs) ∧ w.grownBy w' none

set_option maxHeartbeats 8000000 in
set_option maxRecDepth 100000 in
theorem List_calls (w : World) (g n : Nat) (t : Nat → Nat) (hs : SetAt w g n t) :
    Calls Try.prog 9 #[.pointer (some ⟨g, 0, none⟩)] w (OwnList w (freeTo n t n)) := by
  have hn := hs.le
  have hc0 := hs.cell0
  have HS := Aside0.mk hs
  clear hs
  go_enter Try.func9, Try.ntmps9
  go_wp2
  go_loopg [3, 9] n (fun k v3 v9 wr => ∃ j : Nat, v9 = .int .i64 j ∧ Aside0 (j + k = n) ∧ j ≤ n ∧ Aside0 (wr.ownsRow w.heap.size 3 1 v3 (freeTo n t j).length (nums .i64 (freeTo n t j))) ∧ Aside0 (Below w.heap.size w wr))
  case atStart => exact ⟨0, rfl, ⟨by omega⟩, by omega, ⟨by exact own_nil _ _ _ _⟩, ⟨Below.refl _ _⟩⟩
  case round =>
    obtain ⟨j, rfl, HD, hj, HO, HB⟩ := hrel
    have hl := freeTo_len n t j
    cases gk with
    | zero =>
      obtain rfl : j = n := by have := HD.out; omega
      go_wp2
      go_ret
      exact ⟨_, rfl, HO.out, gb_of_below HB.out _⟩
    | succ d =>
      have hlt : j < n := by have := HD.out; omega
      have hlt1 : decide ((j : Int) < n) = true := decide_eq_true (by omega)
      have HS1 := Aside0.mk (HS.out.kept (gb_of_below HB.out none) (by simp))
      have hf := freeTo_succ n t j
      by_cases hq : hasB n t (j : Int) = true
      · rw [if_pos hq] at hf
        have HF := Aside0.mk hf
        clear hf
        go_wp2_with (first | (go_at_call 13; refine (Has_calls _ g n t _ HS1.out).mono ?_; rintro e w' ⟨rfl, rfl⟩) | (at_builtin; go_loud (refine print_append_num (w0 := w) w.heap.size rfl (.tmp 15) (.tmp 17) 22 3 .i64 8 rfl Try.underlying22 (by kernel_rfl) (by decide) _ (freeTo n t j) (j : Int) rfl rfl HO.out HB.out HB.out.size (by omega) ?_); intro v1 w1 ho hb hg hat; have HO1 := Aside0.mk ho; have HB1 := Aside0.mk hb; clear ho hb hg hat HO HB))
        go_roundg d
        case measure => omega
        case rel => exact ⟨j + 1, by go_num, ⟨by have := HD.out; omega⟩, by omega, ⟨by rw [HF.out]; exact HO1.out⟩, HB1⟩
      · have hq1 : hasB n t (j : Int) = false := by simpa using hq
        rw [if_neg hq] at hf
        have HF := Aside0.mk hf
        clear hf hq
        go_wp2_with (first | (go_at_call 13; refine (Has_calls _ g n t _ HS1.out).mono ?_; rintro e w' ⟨rfl, rfl⟩))
        go_roundg d
        case measure => omega
        case rel => exact ⟨j + 1, by go_num, ⟨by have := HD.out; omega⟩, by omega, ⟨by rw [HF.out]; exact HO.out⟩, HB⟩

set_option maxHeartbeats 8000000 in
set_option maxRecDepth 100000 in
theorem New_bad (w : World) (n : Int) (h : n < 1 ∨ 256 < n) :
    Calls Try.prog 7 #[.int .i64 n] w fun e w' => e = .returned (.tuple #[.pointer none, .int .i64 20]) ∧ w = w' := by
  rcases h with h | h
  · have h1 : decide (n < 1) = true := decide_eq_true h
    clear h
    go_enter Try.func7, Try.ntmps7
    go_wp2
    go_ret2
    exact ⟨rfl, rfl⟩
  · have h1 : decide (n < 1) = false := decide_eq_false (by omega)
    have h2 : decide (256 < n) = true := decide_eq_true h
    clear h
    go_enter Try.func7, Try.ntmps7
    go_wp2
    go_ret2
    exact ⟨rfl, rfl⟩
set_option maxHeartbeats 8000000 in
set_option maxRecDepth 100000 in
theorem New_ok (w : World) (n : Nat) (h0 : 1 ≤ n) (h1 : n ≤ 256) :
    Calls Try.prog 7 #[.int .i64 n] w fun e w' => e = .returned (.tuple #[.pointer (some ⟨w.heap.size, 0, none⟩), .int .i64 0]) ∧ SetAt w' w.heap.size n (fun _ => 0) ∧ w.grownBy w' none := by
  have h2 : decide ((n : Int) < 1) = false := decide_eq_false (by omega)
  have h3 : decide (256 < (n : Int)) = false := decide_eq_false (by omega)
  go_enter Try.func7, Try.ntmps7
  go_wp2
  go_ret2
  exact ⟨rfl, ⟨heap_alloc_new w _, h1, fun _ => by decide, fun _ _ _ => by simp [bitT]⟩, World.grownBy_alloc w _ _⟩

theorem nums_take (k : IntKind) (xs : List Int) (m : Nat) : nums k (xs.take m) = (nums k xs).take m := by simp [nums, List.map_take]
theorem own_of_block {w : World} {base g m : Nat} {xs : List Int} (hb : base ≤ g) (hx : xs.length = m) (hm : m ≤ 140737488355328) (h : w.heap[g]? = some (.cells (nums .i64 xs).toArray 3 (0, 0))) : w.ownsRow base 3 1 (.slice (some ⟨g, 0, none⟩) m m) m (nums .i64 xs) :=
  ⟨by simp [nums, hx], .inr ⟨g, m, _, rfl, hb, h, Nat.le_refl _, by simp only [maxLen]; omega, by simp [nums, hx], by rw [List.take_of_length_le (by simp [nums, hx])]⟩⟩
theorem freeTo_mem {n : Nat} {t : Nat → Nat} {m : Nat} {x : Int} (h : x ∈ freeTo n t m) : 0 ≤ x ∧ x < (n : Int) := by
  unfold freeTo at h
  obtain ⟨i, hi, rfl⟩ := List.mem_map.1 h
  have := (List.mem_filter.1 hi).2
  simp only [hasB, Bool.and_eq_true, decide_eq_true_eq] at this
  omega

set_option maxHeartbeats 8000000 in
set_option maxRecDepth 100000 in
theorem Take_small (w : World) (g : Nat) (many : Int) (h : many < 1) :
    Calls Try.prog 10 #[.pointer (some ⟨g, 0, none⟩), .int .i64 many] w fun e w' => e = .returned (.tuple #[.slice none 0 0, .int .i64 20]) ∧ w = w' := by
  have h1 : decide (many < 1) = true := decide_eq_true h
  clear h
  go_enter Try.func10, Try.ntmps10
  go_wp2
  go_ret2
  exact ⟨rfl, rfl⟩
set_option maxHeartbeats 8000000 in
set_option maxRecDepth 100000 in
theorem Take_many (w : World) (g n : Nat) (t : Nat → Nat) (many : Int) (hs : SetAt w g n t) (h : ((freeTo n t n).length : Int) < many) (h0 : 1 ≤ many) :
    Calls Try.prog 10 #[.pointer (some ⟨g, 0, none⟩), .int .i64 many] w fun e w' => e = .returned (.tuple #[.slice none 0 0, .int .i64 21]) ∧ w.grownBy w' none := by
  have h1 : decide (many < 1) = false := decide_eq_false (by omega)
  have h2 : decide (((freeTo n t n).length : Int) < many) = true := decide_eq_true h
  clear h
  have HS := Aside0.mk hs
  clear hs
  go_enter Try.func10, Try.ntmps10
  go_wp2_with (go_at_call 9; refine (List_calls _ g n t HS.out).mono ?_; rintro e w1 ⟨v, rfl, ho, hg⟩; obtain ⟨A, c, rfl, hr⟩ := own_reads ho; have HG := Aside0.mk hg; clear ho hg hr)
  go_ret2
  exact ⟨rfl, HG.out⟩
/-- So many are taken: the lowest ones. -/
def Taken (w : World) (g n : Nat) (t : Nat → Nat) (xs : List Int) (e : Ending) (w' : World) : Prop :=
  ∃ v, e = .returned (.tuple #[v, .int .i64 0]) ∧ w'.ownsRow w.heap.size 3 1 v xs.length (nums .i64 xs) ∧ SetAt w' g n (turnT t xs) ∧ w.grownBy w' (some g)
set_option maxHeartbeats 8000000 in
set_option maxRecDepth 100000 in
theorem Take_ok (w : World) (g n : Nat) (t : Nat → Nat) (m : Nat) (hs : SetAt w g n t) (h : m ≤ (freeTo n t n).length) (h0 : 1 ≤ m) :
    Calls Try.prog 10 #[.pointer (some ⟨g, 0, none⟩), .int .i64 m] w (Taken w g n t ((freeTo n t n).take m)) := by
  have h1 : decide ((m : Int) < 1) = false := decide_eq_false (by omega)
  have h2 : decide (((freeTo n t n).length : Int) < (m : Int)) = false := decide_eq_false (by omega)
  have hl := freeTo_len n t n
  have hle := hs.le
  have hgl : g < w.heap.size := (Array.getElem?_eq_some_iff.1 hs.blk).1
  have hml : ((freeTo n t n).take m).length = m := by rw [List.length_take]; omega
  have HS := Aside0.mk hs
  have HL := Aside0.mk hml
  have hmk := print_make (P := Try.prog) 22 3 .i64 8 Try.underlying22 (by kernel_rfl) (by decide) m (by omega)
  clear hs hml
  go_enter Try.func10, Try.ntmps10
  go_wp2_with (first | (go_at_call 9; refine (List_calls _ g n t HS.out).mono ?_; rintro e w1 ⟨v, rfl, ho, hg⟩; obtain ⟨A, c, rfl, hr⟩ := own_reads ho; have HG := Aside0.mk hg; have HR := Aside0.mk hr; have HO := Aside0.mk ho; clear ho hg hr) | (with_reducible refine wpList_copy_splice rfl (.tmp 18) (.tmp 19) 22 22 rfl 3 Try.underlying22 (by kernel_rfl) _ _ _ _ _ _ rfl rfl w1.heap.size 0 (madeCells #[.int .i64 0] m).toList 3 ?c1 (nums .i64 ((freeTo n t n).take m)) ?c2 ?c3 ?c4 ?c5 w.heap.size w ?c6 ?c7 ?_))
  case c1 => exact heap_alloc_new _ _
  case c2 => simp only [nums_length, List.length_take]; show min m _ = min _ m; omega
  case c3 =>
    intro _
    obtain ⟨ad, rfl, hc⟩ := HR.out.2.2 (by omega)
    refine ⟨ad, rfl, fun j v hv => ?_⟩
    have hj : j < m := by
      rcases Nat.lt_or_ge j m with h | h
      · exact h
      · rw [List.getElem?_eq_none (by simp [nums]; omega)] at hv; cases hv
    have e := pw_cell_below (Below.alloc (Below.refl w1.heap.size w1) (Nat.le_refl _) (.cells (madeCells #[.int .i64 0] m) 3)) (hc j (by omega))
    rw [e, ← hv]
    simp only [nums, List.getElem?_map, List.getElem?_take, if_pos hj, List.getD_eq_getElem?_getD]
    rw [List.getElem?_eq_getElem (by omega)]; rfl
  case c4 => simp [nums, madeCells]; omega
  case c5 => intro v hv; simp only [nums, List.mem_map] at hv; obtain ⟨q, _, rfl⟩ := hv; rfl
  case c6 => exact Below.alloc (below_of_gb HG.out) HG.out.size _
  case c7 => exact HG.out.size
  intro w2 hH hB
  have hg2 : w2.heap[w1.heap.size]? = some (.cells (nums .i64 ((freeTo n t n).take m)).toArray 3 (0, 0)) := by
    rw [hH.out]
    congr 3
    simp only [splice, List.take_zero, List.nil_append, Nat.zero_add]
    rw [List.drop_of_length_le (by simp [nums, madeCells]; omega), List.append_nil]
  have hs2 := HS.out.kept (gb_of_below hB none) (by simp)
  have hO := own_of_block (base := w.heap.size) HG.out.size HL.out (by omega) hg2
  obtain ⟨A2, c2, he, hr2⟩ := own_reads hO
  obtain ⟨rfl, -, rfl⟩ : some (⟨w1.heap.size, 0, none⟩ : Addr) = A2 ∧ m = m ∧ m = c2 := by injection he with h1 h2 h3; exact ⟨h1, rfl, h3⟩
  have HO2 := Aside0.mk hO
  have HS2 := Aside0.mk hs2
  have HR2 := Aside0.mk hr2
  have HB2 := Aside0.mk hB
  have hgs := HG.out.size
  have HN : Aside0 (∀ ad : Addr, some (⟨w1.heap.size, 0, none⟩ : Addr) = some ad → some ad.block ≠ some g) := ⟨fun ad h => by cases h; simp; omega⟩
  clear hH hB hg2 hs2 hO hr2 he
  have HT := Aside0.mk (turn_calls w2 g n t (some ⟨w1.heap.size, 0, none⟩) m ((freeTo n t n).take m) HS2.out (by rw [HL.out]; exact HR2.out) HN.out (fun x hx => freeTo_mem (List.mem_of_mem_take hx)))
  rw [HL.out] at HT
  go_wp2_with (go_at_call 21; refine (HT.out).mono ?_; rintro e w' ⟨rfl, hA, hG⟩; have HA := Aside0.mk hA; have HG3 := Aside0.mk hG; clear hA hG)
  go_ret2
  refine ⟨_, rfl, ?_, HA.out, World.grownBy.trans (gb_of_below HB2.out _) HG3.out⟩
  rw [HL.out]
  exact HO2.out.kept HG3.out (.inr (by simp [Value.ownBlock]; omega))
end Go.Proofs.Ytohopfbacfddbaa.N
