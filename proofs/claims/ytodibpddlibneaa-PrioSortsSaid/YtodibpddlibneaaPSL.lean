/- The law PrioSorts, walked: it answers true. Conditions: each theorem's own. -/
import Derived.Test.YtodibpddlibneaaGPTx10
import Derived.Test.YtodibpddlibneaaPSA
namespace Go.Proofs.Ytodibpddlibneaa.S
open Go.RowKit Go.Proofs.YtodibpddlibneaaW.PrintWords Go.Proofs.YtodibpddlibneaaW.PrintLast Go.Proofs.Ytodibpddlibneaa.H
set_option linter.unusedVariables false
set_option linter.unusedSimpArgs false

/-- append to a row of one's own, where the row lies told too. -/
theorem app_at {P : Program} {ops : Array Oper} {rest : List Oper} {o : Oper} {a : Act} {Q : Exit → Act → World → Prop} {α : Type} (E : Enc α) {w : World} (base : Nat) (hgd : o.guard = none) (s x : Operand) (t e : TypeId) (z : Value) (bytes : Nat)
    (ho : o.op = .call { callee := .builtin .append, args := #[s, x], argTypes := #[t, t] })
    (ht : P.underlying t = some (.slice e)) (hinfo : (P.info? e).map (fun i => (i.zero, i.size, i.bytes)) = some (some z, E.sz, bytes)) (hz : z.cells.size = E.sz) (hb0 : 0 < bytes)
    (v : Value) (n : Nat) (xs ys : List α) (ad : Addr) (m c : Nat) (hs : a.eval s = v) (hx : a.eval x = .slice (some ad) m c)
    (HO : w.ownsRow base e E.sz v n (flat E xs)) (HR : Rd E w (some ad) m ys) (hbase : base ≤ w.heap.size) (hl : (n + m) * bytes ≤ 140737488355328)
    (h : ∀ v1 w1, w1.ownsRow base e E.sz v1 (n + m) (flat E (xs ++ ys)) → w.grownBy w1 v.ownBlock → (v1.ownBlock = v.ownBlock ∨ v1.ownBlock = some w.heap.size) → wpList P ops Q rest (a.put o.dst v1) w1) : wpList P ops Q (o :: rest) a w := by
  obtain ⟨i0, hi, hz0, hz1, hz2⟩ := info_parts hinfo
  have hlen : n + m ≤ 140737488355328 := Nat.le_trans (Nat.le_mul_of_pos_right _ hb0) hl
  obtain ⟨v1, w1, hr, h2, h3, _, h5⟩ := run_append_own_at (P := P) w base t o.type e i0 z E.sz bytes ht hi hz0 hz1 hz2 hz E.pos v n (flat E xs) HO ad m c (flat E ys) (by rw [flat_len, HR.1])
    (fun j u hu => by
      rcases Nat.eq_zero_or_pos m with h0 | h0
      · obtain rfl : ys = [] := List.eq_nil_of_length_eq_zero (HR.1.trans h0)
        simp [flat_nil] at hu
      · obtain ⟨ad', e', hc⟩ := HR.2.2 h0
        injection e' with e'
        subst e'
        exact hc j u hu) (flat_oneCell E ys) (by simp only [maxLen]; omega) hl hbase
  refine wpList_plain hgd fun K hK => ?_
  unfold Oper.wp execOp
  simp only [ho, resolve, invoke, builtin, Sem.run_bind, Sem.run_pure, Result.andThen_ok, List.map_toArray, List.map_cons, List.map_nil, hs, hx, hr]
  exact hK _ _ (h v1 w1 (by rw [flat_append]; exact h2) h3 h5)
/-- The list as it stands when the first i have got their numbers; the mark behind it. -/
def stL (ls : List (Int × Int)) (i : Nat) : List (Int × Int) := ls.mapIdx (fun k x => if k < i then (x.1, (k : Int)) else x) ++ [((-77 : Int), (0 : Int))]
theorem stL_zero (ls : List (Int × Int)) : stL ls 0 = ls ++ [((-77 : Int), (0 : Int))] := by
  have : ls.mapIdx (fun k x => if k < 0 then (x.1, (k : Int)) else x) = ls := by
    apply List.ext_getElem?
    intro i
    rw [List.getElem?_mapIdx]
    cases ls[i]? <;> simp
  rw [stL, this]
theorem stL_all (ls : List (Int × Int)) : stL ls ls.length = inL ls ++ [((-77 : Int), (0 : Int))] := by
  unfold stL inL
  congr 1
  apply List.ext_getElem?
  intro i
  rw [List.getElem?_mapIdx, List.getElem?_mapIdx]
  by_cases h : i < ls.length
  · simp [List.getElem?_eq_getElem h, h]
  · simp [List.getElem?_eq_none (Nat.le_of_not_lt h)]
theorem stL_len (ls : List (Int × Int)) (i : Nat) : (stL ls i).length = ls.length + 1 := by simp [stL]
theorem flat_set {α : Type} (E : Enc α) : ∀ (xs : List α) (j i : Nat) (x y : α) (v : Value), xs[j]? = some x → i < E.sz → (E.enc x).set i v = E.enc y → (flat E xs).set (j * E.sz + i) v = flat E (xs.set j y)
  | [], j, i, x, y, v, h, _, _ => by simp at h
  | z :: r, 0, i, x, y, v, h, hi, he => by
    have : z = x := by simpa using h
    subst this
    rw [flat_cons, Nat.zero_mul, Nat.zero_add, List.set_append_left _ _ (by rw [E.len]; exact hi), he, List.set_cons_zero, flat_cons]
  | z :: r, j + 1, i, x, y, v, h, hi, he => by
    have h' : r[j]? = some x := by simpa using h
    rw [flat_cons, List.set_append_right _ _ (by rw [E.len, Nat.add_mul]; omega), List.set_cons_succ, flat_cons, ← flat_set E r j i x y v h' hi he]
    congr 2
    rw [E.len, Nat.add_mul]; omega
theorem stL_at {ls : List (Int × Int)} {i : Nat} {x : Int × Int} (h : ls[i]? = some x) : (stL ls i)[i]? = some x := by
  have hl := (List.getElem?_eq_some_iff.1 h).1
  rw [stL, List.getElem?_append_left (by simpa using hl), List.getElem?_mapIdx, h]
  simp
theorem stL_step {ls : List (Int × Int)} {i : Nat} {x : Int × Int} (h : ls[i]? = some x) : (stL ls i).set i (x.1, (i : Int)) = stL ls (i + 1) := by
  have hl := (List.getElem?_eq_some_iff.1 h).1
  rw [stL, List.set_append_left _ _ (by simpa using hl), stL]
  congr 1
  apply List.ext_getElem?
  intro k
  rw [List.getElem?_set, List.getElem?_mapIdx, List.getElem?_mapIdx]
  by_cases e : i = k
  · subst e
    have e2 := (List.getElem?_eq_some_iff.1 h).2
    simp [h, hl]
    rw [e2]
  · rw [if_neg e]
    cases hk : ls[k]? with
    | none => rfl
    | some y =>
      simp only [Option.map_some]
      congr 1
      by_cases h1 : k < i
      · rw [if_pos h1, if_pos (by omega)]
      · rw [if_neg h1, if_neg (by omega)]
theorem pw_at {α : Type} {R : α → α → Prop} {xs : List α} (h : xs.Pairwise R) {i : Nat} {x y : α} (h0 : xs[i]? = some x) (h1 : xs[i + 1]? = some y) : R x y := by
  obtain ⟨a0, e0⟩ := List.getElem?_eq_some_iff.1 h0
  obtain ⟨a1, e1⟩ := List.getElem?_eq_some_iff.1 h1
  have := List.pairwise_iff_getElem.1 h i (i + 1) a0 a1 (by omega)
  rwa [e0, e1] at this
theorem cell_zero {w : World} {g k : Nat} {v : Value} (h : w.cell? ((⟨g, 0, none⟩ : Addr).add k) = some v) : w.cell? ⟨g, k, none⟩ = some v := by
  unfold Addr.add at h
  split at h
  · rename_i e; subst e; exact h
  · simpa using h
theorem own_nilrow (w : World) (base : Nat) (hb : base ≤ w.heap.size) : (w.alloc (.cells #[] 25)).ownsRow base 25 2 (.slice (some ⟨w.heap.size, 0, none⟩) 0 0) 0 (flat Et []) :=
  World.ownsRow_lit (e := 25) (size := 2) w #[] 0 hb (by simp [maxLen]) (by simp)
theorem et_lit (w : World) (k n : Int) : Rd Et (w.alloc (.cells #[.int .i64 k, .int .i64 n] 25)) (some ⟨w.heap.size, 0, none⟩) 1 [(k, n)] := rd_lit Et w 25 [(k, n)] (by simp)

theorem gb_row {w0 w1 w2 : World} {row vb : Option Nat} (h : w0.grownBy w1 row) (hg : w1.grownBy w2 vb) (hv : vb = row ∨ ∃ g, vb = some g ∧ w0.heap.size ≤ g) : w0.grownBy w2 row := by
  rcases hv with rfl | ⟨g, rfl, h2⟩
  · exact World.grownBy.trans h hg
  · exact gb_new h hg h2
set_option maxHeartbeats 8000000 in
set_option maxRecDepth 100000 in
theorem Sorts_calls (w : World) (L : Option Addr) (n c : Nat) (ls : List (Int × Int)) (odd : Int) (hl : Rd Et w L n ls) (hc : n ≤ c) (hs : n * 16 ≤ 140737488351232) :
    Calls Try.prog 3 #[.slice L n c, .int .i64 odd] w fun e w' => e = .returned (.bool true) ∧ Below w.heap.size w w' := by
  have HL := Aside0.mk hl
  have HLn := Aside0.mk hl.1
  have HO := Aside0.mk (show OneAt w.heap.size odd (w.alloc (.cells #[.int .i64 odd] 3)) from heap_alloc_new w _)
  have HB0 := Aside0.mk (show Below w.heap.size w (w.alloc (.cells #[.int .i64 odd] 3)) from Below.alloc (Below.refl _ _) (Nat.le_refl _) _)
  clear hl
  go_enter Try.func3, Try.ntmps3
  go_wp2_with fail
  refine (GPT.backfilllaw14_shown.calls true _ rfl).mono ?_
  rintro e w2 ⟨rfl, hb⟩
  have HO2 := Aside0.mk (show OneAt w.heap.size odd w2 from blk_kept HO.out (gb_of_below hb none) (by simp))
  have HB2 := Aside0.mk (below_step HB0.out hb)
  have HS2 := Aside0.mk (blk_lt' HO2.out)
  clear hb HO HB0
  have HR1 := Aside0.mk (rd_alloc (HL.out.below HB2.out) (.cells #[] 25))
  have HN0 := Aside0.mk (own_nilrow w2 w2.heap.size (Nat.le_refl _))
  have HG1 := Aside0.mk (World.grownBy_alloc w2 (.cells #[] 25) none)
  go_wp2_with (first | (at_builtin; refine app Et w2.heap.size rfl (.tmp 20) (.tmp 21) 22 25 (.agg #[.int .i64 0, .int .i64 0]) 16 rfl Try.underlying22 (by kernel_rfl) rfl (by decide) _ 0 [] ls _ n _ rfl rfl rfl HN0.out HR1.out HG1.out.size (by omega) ?_; intro v3 w3 ho hg hn; have HO3 := Aside0.mk ho; have HG3 := Aside0.mk (gb_own HG1.out HN0.out hg (Nat.le_refl _)); clear ho hg hn) | (at_builtin; refine app Et w2.heap.size rfl (.tmp 23) (.tmp 25) 22 25 (.agg #[.int .i64 0, .int .i64 0]) 16 rfl Try.underlying22 (by kernel_rfl) rfl (by decide) _ (0 + n) ([] ++ ls) [((-77 : Int), (0 : Int))] _ 1 1 rfl rfl (by rw [List.nil_append, Nat.zero_add]; exact HLn.out) (own_kept HO3.out (World.grownBy_alloc _ _ none) (by simp)) (et_lit w3 (-77) 0) (by have h2 := HG3.out.size; simp; omega) (by omega) ?_; intro v4 w4 ho hg hn; have HO4 := Aside0.mk ho; have HG4 := Aside0.mk (gb_own (World.grownBy.trans HG3.out (World.grownBy_alloc w3 (.cells #[.int .i64 (-77), .int .i64 0] 25) none)) (own_kept HO3.out (World.grownBy_alloc w3 (.cells #[.int .i64 (-77), .int .i64 0] 25) none) (by simp)) hg (Nat.le_refl _)); clear ho hg hn; have hx4 : w4.ownsRow w2.heap.size 25 2 v4 (n + 1) (flat Et (stL ls 0)) := (by have h := HO4.out; rw [List.nil_append, Nat.zero_add] at h; rw [stL_zero]; exact h); obtain ⟨gx, cx, rfl, hgb, hgl⟩ := hx4.form (by omega); have HX4 := Aside0.mk hx4; have HL4 := Aside0.mk ((HL.out.below HB2.out).gb HG4.out); have HP4 := Aside0.mk (blk_kept HO2.out HG4.out (by simp)); have HB4 := Aside0.mk (below_gb HB2.out HG4.out (Nat.le_of_lt HS2.out) (by simp)); have hcx : n + 1 ≤ cx := own_cap hx4; clear hx4 HO4 HO3 HG3 HN0 HR1 HG1 HO2; obtain ⟨i3, hi3, hz0, hz1, hz2⟩ := info_parts (show (Try.prog.info? 25).map (fun i => (i.zero, i.size, i.bytes)) = some (some (.agg #[.int .i64 0, .int .i64 0]), 2, 16) by kernel_rfl); have hcut := cut_to (P := Try.prog) 22 25 .i64 Try.underlying22 hi3 (some ⟨gx, 0, none⟩) (n + 1) cx (n : Int) (by omega) (by omega) (by omega); rw [Int.toNat_natCast] at hcut))
  go_loopg [7] n (fun k v7 wr => ∃ j : Nat, v7 = .int .i64 j ∧ Aside0 (j + k = n) ∧ j ≤ n ∧ Aside0 (wr.ownsRow w2.heap.size 25 2 (.slice (some ⟨gx, 0, none⟩) (n + 1) cx) (n + 1) (flat Et (stL ls j))) ∧ Aside0 (w4.grownBy wr (some gx)))
  case atStart => exact ⟨0, rfl, ⟨by omega⟩, by omega, HX4, ⟨gb_refl _ _⟩⟩
  case round =>
    obtain ⟨j, rfl, HD, hj, HX5, HG5⟩ := hrel
    cases gk with
    | zero =>
      obtain rfl : n = j := by have := HD.out; omega
      obtain ⟨w5, rfl⟩ : ∃ w5, w5 = wr := ⟨wr, rfl⟩
      have hl0 : ls.length = n := HLn.out
      have hn7 : w.heap.size < w2.heap.size := HS2.out
      have hg7 : gx < w5.heap.size := Nat.lt_of_lt_of_le hgl HG5.out.size
      have hi6 : Rd Et w5 (some ⟨gx, 0, none⟩) n (inL ls) := by
        obtain ⟨A, c', he, hr, _, _⟩ := own_open (E := Et) (show (stL ls n).length = n + 1 by rw [stL_len]; omega) HX5.out
        cases he
        have h := hr.take_ n (by omega)
        have e : (stL ls n).take n = inL ls := by rw [← hl0, stL_all]; exact List.take_left' (inL_len ls)
        rwa [e] at h
      have HI7 := Aside0.mk (rd_alloc hi6 (.cells #[.int .i64 0] 3))
      have HL7 := Aside0.mk (rd_alloc (rd_at_zero HL4.out HG5.out (fun ad ha h0 he => by have := rd_lt HL.out ad ha h0; cases he; omega)) (.cells #[.int .i64 0] 3))
      have HP7 := Aside0.mk (blk_kept (blk_kept HP4.out HG5.out (fun he => by cases he; omega)) (World.grownBy_alloc w5 (.cells #[.int .i64 0] 3) none) (by simp))
      have HB6 := Aside0.mk (below_gb HB4.out HG5.out (by omega) (fun k he => by cases he; omega))
      have HB7 := Aside0.mk (below_gb HB6.out (World.grownBy_alloc w5 (.cells #[.int .i64 0] 3) none) (by omega) (by simp))
      have HX7 := Aside0.mk (own_kept HX5.out (World.grownBy_alloc w5 (.cells #[.int .i64 0] 3) none) (by simp))
      have HN7 : Aside0 (NumAt w5.heap.size (w5.alloc (.cells #[.int .i64 0] 3))) := ⟨⟨0, heap_alloc_new w5 _⟩⟩
      clear HX4 HL4 HP4 HB4 HX5 HG5 HB6 hi6 HB2 HS2
      go_wp2_with fail
      refine (SortT_calls Try.func8 (by kernel_rfl) (by kernel_rfl) (byKey_order w5.heap.size) _ (some ⟨gx, 0, none⟩) n cx (inL ls) HI7.out (by omega) (by omega) HN7.out (fun g hg => by cases hg; simp) (fun ad ha _ => by cases ha; simp; omega)).mono ?_
      rintro e w6 ⟨va, rfl, hoa, hg, _⟩
      have hlA : (sortL ltK (inL ls)).length = n := by rw [sortL_len ltK _ _ (Nat.le_refl _), inL_len, hl0]
      obtain ⟨Aa, ca, rfl, hra, hca, hba⟩ := own_open (E := Et) hlA hoa
      have HX8 := Aside0.mk (HX7.out.kept hg (.inr (by simp [Value.ownBlock]; omega)))
      have HI8 := Aside0.mk (HI7.out.kept hg (fun ad ha => by cases ha; simp; omega))
      have HL8 := Aside0.mk (rd_at_zero HL7.out hg (fun ad ha h0 he => by have h1 := rd_lt HL.out ad ha h0; have h2 := Option.some.inj he; omega))
      have HP8 := Aside0.mk (blk_kept HP7.out hg (by simp; omega))
      have HB8 := Aside0.mk (below_gb HB7.out hg (by simp; omega) (fun k he => by cases he; omega))
      have HOA := Aside0.mk hoa
      have HAB : Aside0 (∀ g, Aa.map Addr.block = some g → w5.heap.size < g ∧ g < w6.heap.size) := ⟨fun g hg' => by
        have h := hoa.lt g (by cases Aa <;> simp_all [Value.ownBlock])
        simp at h
        omega⟩
      have HRA := Aside0.mk hra
      have HBA := Aside0.mk hba
      have hs6 : w5.heap.size < w6.heap.size := by have := hg.size; simp at this; omega
      clear HX7 HI7 HL7 HP7 HB7 hg hoa hra hba HN7
      go_wp2_with fail
      refine (SortT_calls Try.func9 (by kernel_rfl) (by kernel_rfl) (odd_order w.heap.size odd) _ (some ⟨gx, 0, none⟩) n cx (inL ls) HI8.out (by omega) (by omega) HP8.out (fun g hg => by cases hg; omega) (fun ad ha _ he => by cases ha; have h2 := Option.some.inj he; simp only at h2; omega)).mono ?_
      rintro e w7 ⟨vb, rfl, hob, hg, hp⟩
      have hlB : (sortL (oddB odd) (inL ls)).length = n := by rw [sortL_len _ _ _ (Nat.le_refl _), inL_len, hl0]
      obtain ⟨Ab, cb, rfl, hrb, hcb, hbb⟩ := own_open (E := Et) hlB hob
      have HX9 := Aside0.mk (HX8.out.kept hg (.inr (by simp [Value.ownBlock]; omega)))
      have HI9 := Aside0.mk (HI8.out.kept hg (fun ad ha he => by cases ha; have h2 := Option.some.inj he; simp only at h2; omega))
      have HL9 := Aside0.mk (rd_at_zero HL8.out hg (fun ad ha h0 he => by have h1 := rd_lt HL.out ad ha h0; have h2 := Option.some.inj he; omega))
      have HA9 := Aside0.mk (own_kept HOA.out hg (fun k he => by cases he; simp; omega))
      have HRA9 := Aside0.mk (HRA.out.kept hg (fun ad ha he => by have h1 := HBA.out ad ha; have h2 := Option.some.inj he; simp at h1; omega))
      have HB9 := Aside0.mk (below_gb HB8.out hg (by omega) (fun k he => by cases he; omega))
      have HOB := Aside0.mk hob
      have HRB := Aside0.mk hrb
      have HBB := Aside0.mk hbb
      have hs7 : w6.heap.size ≤ w7.heap.size := hg.size
      clear HX8 HI8 HL8 HP8 HB8 hg hob hrb hbb hp HOA HRA
      go_wp2_with fail
      refine (SortT_calls Try.func10 (by kernel_rfl) (by kernel_rfl) always_order _ (some ⟨gx, 0, none⟩) n cx (inL ls) HI9.out (by omega) (by omega) trivial (by simp) (by simp)).mono ?_
      rintro e w8 ⟨vc, rfl, hoc, hg, _⟩
      have hlC : (sortL (fun _ _ => true) (inL ls)).length = n := by rw [sortL_len _ _ _ (Nat.le_refl _), inL_len, hl0]
      obtain ⟨Ac, cc, rfl, hrc, hcc, hbc⟩ := own_open (E := Et) hlC hoc
      have HX10 := Aside0.mk (HX9.out.kept hg (.inr (by simp [Value.ownBlock])))
      have HI10 := Aside0.mk (HI9.out.gb hg)
      have HL10 := Aside0.mk (HL9.out.gb hg)
      have HA10 := Aside0.mk (own_kept HA9.out hg (by simp))
      have HRA10 := Aside0.mk (HRA9.out.gb hg)
      have HRB10 := Aside0.mk (HRB.out.gb hg)
      have HRC10 := Aside0.mk hrc
      have HB10 := Aside0.mk (below_gb HB9.out hg (by omega) (by simp))
      have HBC := Aside0.mk hbc
      have hs8 : w7.heap.size ≤ w8.heap.size := hg.size
      clear HX9 HI9 HL9 HA9 HRA9 HB9 hg hoc hrc hbc HOB HRB
      go_wp2_with fail
      go_loopg [12] n (fun k v12 wr => ∃ i : Nat, v12 = .int .i64 i ∧ Aside0 (i + k = n) ∧ i ≤ n ∧ Aside0 (w8.grownBy wr none))
      case atStart => exact ⟨0, rfl, ⟨by omega⟩, by omega, ⟨gb_refl _ _⟩⟩
      case round =>
        obtain ⟨i, rfl, HDi, hi, HG11⟩ := hrel
        cases gk with
        | zero =>
          obtain rfl : n = i := by have := HDi.out; omega
          obtain ⟨w11, rfl⟩ : ∃ w11, w11 = wr := ⟨wr, rfl⟩
          have hmark : ∀ {W : World}, W.ownsRow w2.heap.size 25 2 (.slice (some ⟨gx, 0, none⟩) (n + 1) cx) (n + 1) (flat Et (stL ls n)) → W.cell? ⟨gx, n * 2, none⟩ = some (.int .i64 (-77)) := fun h => by
            rw [h.cellAt _ (by omega)]
            exact (flat_at Et (stL ls n) n 0 (-77, 0) (by rw [← hl0, stL_all, List.getElem?_append_right (by rw [inL_len]; exact Nat.le_refl _)]; simp [inL_len]) (by decide)).trans rfl
          have HX11 := Aside0.mk (own_kept HX10.out HG11.out (by simp))
          have hq1 := hmark HX11.out
          have HB11 := Aside0.mk (below_gb HB10.out HG11.out (by omega) (by simp))
          go_wp2_with fail
          refine (all_calls _ Aa L ca c n _ ls (HRA10.out.gb HG11.out) (HL10.out.gb HG11.out) (by omega) (all_sort _ ls)).mono ?_
          rintro e w12 ⟨rfl, hb⟩
          have HG12 := Aside0.mk (World.grownBy.trans HG11.out (gb_of_below hb none))
          clear hb
          go_wp2_with fail
          refine (all_calls _ Ab L cb c n _ ls (HRB10.out.gb HG12.out) (HL10.out.gb HG12.out) (by omega) (all_sort _ ls)).mono ?_
          rintro e w13 ⟨rfl, hb⟩
          have HG13 := Aside0.mk (World.grownBy.trans HG12.out (gb_of_below hb none))
          clear hb
          go_wp2_with fail
          refine (all_calls _ Ac L cc c n _ ls (HRC10.out.gb HG13.out) (HL10.out.gb HG13.out) (by omega) (all_sort _ ls)).mono ?_
          rintro e w14 ⟨rfl, hb⟩
          have HG14 := Aside0.mk (World.grownBy.trans HG13.out (gb_of_below hb none))
          clear hb
          go_wp2_with fail
          go_loopg [13] (n - 1) (fun k v13 wr => ∃ i : Nat, v13 = .int .i64 ((i + 1 : Nat) : Int) ∧ Aside0 (i + k = n - 1) ∧ Aside0 (w8.grownBy wr none))
          case atStart => exact ⟨0, rfl, ⟨by omega⟩, HG14⟩
          case round =>
            obtain ⟨i, rfl, HDi, HG15⟩ := hrel
            cases gk with
            | zero =>
              have hb1 : decide ((i : Int) + 1 < (n : Int)) = false := decide_eq_false (by have := HDi.out; omega)
              obtain ⟨w15, rfl⟩ : ∃ w15, w15 = wr := ⟨wr, rfl⟩
              go_wp2_with fail
              go_loopg [14] n (fun k v14 wr => ∃ i : Nat, v14 = .int .i64 i ∧ Aside0 (i + k = n) ∧ i ≤ n ∧ Aside0 (∃ xs : List (Int × Int), wr.ownsRow (w5.alloc (.cells #[.int .i64 0] 3)).heap.size 25 2 (.slice Aa n ca) n (flat Et xs)) ∧ Aside0 (w8.grownBy wr (Aa.map Addr.block)))
              case atStart => exact ⟨0, rfl, ⟨by omega⟩, by omega, ⟨⟨_, own_kept HA10.out HG15.out (by simp)⟩⟩, ⟨gb_any HG15.out _⟩⟩
              case round =>
                obtain ⟨i2, rfl, HDj, hi2, HA16, HG16⟩ := hrel
                cases gk with
                | zero =>
                  obtain rfl : n = i2 := by have := HDj.out; omega
                  obtain ⟨w16, rfl⟩ : ∃ w16, w16 = wr := ⟨wr, rfl⟩
                  go_wp2_with fail
                  go_loopg [15, 16] 9 (fun k v15 v16 wr => ∃ (i : Nat), v16 = .int .i64 i ∧ Aside0 (i + k = 9) ∧ i ≤ 9 ∧ Aside0 (∃ xs : List (Int × Int), wr.ownsRow (w5.alloc (.cells #[.int .i64 0] 3)).heap.size 25 2 v15 (n + i) (flat Et xs)) ∧ Aside0 (v15.ownBlock = Aa.map Addr.block ∨ ∃ g, v15.ownBlock = some g ∧ w8.heap.size ≤ g) ∧ Aside0 (w8.grownBy wr (Aa.map Addr.block)))
                  case atStart => exact ⟨0, rfl, ⟨by omega⟩, by omega, HA16, ⟨.inl (by cases Aa <;> rfl)⟩, HG16⟩
                  case round =>
                    obtain ⟨i5, rfl, HD5, hi5, HA5, HV5, HG5⟩ := hrel
                    cases gk with
                    | succ k =>
                      have hlt5 : i5 < 9 := by have := HD5.out; omega
                      have hb5 : decide ((i5 : Int) < 9) = true := decide_eq_true (by omega)
                      obtain ⟨xs5, hx5⟩ := HA5.out
                      have HX5 := Aside0.mk (own_kept hx5 (World.grownBy_alloc wr (.cells #[.int .i64 (-6), .int .i64 0] 25) none) (by simp))
                      have HS5 : Aside0 ((w5.alloc (.cells #[.int .i64 0] 3)).heap.size ≤ (wr.alloc (.cells #[.int .i64 (-6), .int .i64 0] 25)).heap.size) := ⟨by have := HG5.out.size; simp; omega⟩
                      clear hx5
                      go_wp2_with (at_builtin; refine app_at Et (w5.alloc (.cells #[.int .i64 0] 3)).heap.size rfl (.tmp 162) (.tmp 164) 22 25 (.agg #[.int .i64 0, .int .i64 0]) 16 rfl Try.underlying22 (by kernel_rfl) rfl (by decide) _ (n + i5) xs5 [((-6 : Int), (0 : Int))] ⟨wr.heap.size, 0, none⟩ 1 1 rfl rfl HX5.out (et_lit wr (-6) 0) HS5.out (by omega) ?_; intro v6 w6' ho hg hat; have HO6 := Aside0.mk ho; have HG6 := Aside0.mk (gb_row (World.grownBy.trans HG5.out (World.grownBy_alloc wr (.cells #[.int .i64 (-6), .int .i64 0] 25) _)) hg HV5.out); have HV6 := Aside0.mk (show v6.ownBlock = Aa.map Addr.block ∨ ∃ g, v6.ownBlock = some g ∧ w8.heap.size ≤ g from hat.elim (fun h => HV5.out.imp (fun h2 => h.trans h2) (fun ⟨g, h2, h3⟩ => ⟨g, h.trans h2, h3⟩)) (fun h => .inr ⟨_, h, Nat.le_trans HG5.out.size (by simp)⟩)); clear ho hg hat)
                      go_roundg k
                      case measure => omega
                      case rel => exact ⟨i5 + 1, by go_num, ⟨by have := HD5.out; omega⟩, by omega, ⟨⟨_, HO6.out⟩⟩, HV6, HG6⟩
                    | zero =>
                      have hb5 : decide ((i5 : Int) < 9) = false := decide_eq_false (by have := HD5.out; omega)
                      obtain ⟨w17, rfl⟩ : ∃ w17, w17 = wr := ⟨wr, rfl⟩
                      have hneA : ∀ g, (∀ k, Aa.map Addr.block = some k → k ≠ g) → some g ≠ Aa.map Addr.block := fun g h e => h g e.symm rfl
                      have HRB17 : Aside0 (Rd Et w17 Ab n (sortL (oddB odd) (inL ls))) := ⟨rd_at_zero HRB10.out HG5.out (fun ad ha h0 => hneA _ fun k hk e => by have h1 := HBB.out ad ha; have h2 := HAB.out k hk; omega)⟩
                      have HRC17 : Aside0 (Rd Et w17 Ac n (sortL (fun _ _ => true) (inL ls))) := ⟨rd_at_zero HRC10.out HG5.out (fun ad ha h0 => hneA _ fun k hk e => by have h1 := HBC.out ad ha; have h2 := HAB.out k hk; omega)⟩
                      have HL17 : Aside0 (Rd Et w17 L n ls) := ⟨rd_at_zero HL10.out HG5.out (fun ad ha h0 => hneA _ fun k hk e => by have h1 := rd_lt HL.out ad ha h0; have h2 := HAB.out k hk; omega)⟩
                      have HI17 : Aside0 (Rd Et w17 (some ⟨gx, 0, none⟩) n (inL ls)) := ⟨rd_at_zero HI10.out HG5.out (fun ad ha h0 => hneA _ fun k hk e => by cases ha; have h2 := HAB.out k hk; simp only at e; omega)⟩
                      have HX17 := Aside0.mk (HX10.out.kept HG5.out (.inr (by simp only [Value.ownBlock]; exact hneA _ fun k hk e => by have h2 := HAB.out k hk; omega)))
                      have HB17 := Aside0.mk (below_gb HB10.out HG5.out (by omega) (fun k hk => by have h2 := HAB.out k hk; omega))
                      clear hneA HA5 HV5 HG5 HRB10 HRC10 HL10 HI10 HX10 HB10 HA16 HG16 HG14 HG15 HG13 HG12 HX11 HB11
                      go_wp2_with fail
                      refine (all_calls _ Ab L cb c n _ ls HRB17.out HL17.out (by omega) (all_sort _ ls)).mono ?_
                      rintro e w18 ⟨rfl, hb⟩
                      have HG18 := Aside0.mk (gb_of_below hb none)
                      clear hb
                      go_wp2_with fail
                      refine (all_calls _ Ac L cc c n _ ls (HRC17.out.gb HG18.out) (HL17.out.gb HG18.out) (by omega) (all_sort _ ls)).mono ?_
                      rintro e w19 ⟨rfl, hb⟩
                      have HG19 := Aside0.mk (World.grownBy.trans HG18.out (gb_of_below hb none))
                      clear hb HG18
                      have hq19 := hmark (own_kept HX17.out HG19.out (by simp))
                      have HB19 := Aside0.mk (below_gb HB17.out HG19.out (by have := HB17.out.size; omega) (by simp))
                      rcases Nat.eq_zero_or_pos n with h0 | h0
                      · have hz1 : ((n : Int) == 0) = true := by rw [h0]; rfl
                        have hz2 : (n == 0) = true := by rw [h0]; rfl
                        clear h0
                        go_wp2
                        go_ret
                        exact ⟨rfl, HB19.out⟩
                      · have hz1 : ((n : Int) == 0) = false := by simp; omega
                        have hz2 : (n == 0) = false := by simp; omega
                        obtain ⟨pd, y, he, hy0, hci⟩ := (HI17.out.gb HG19.out).at_ 0 h0
                        cases he
                        obtain ⟨x0, hx0⟩ : ∃ x0, ls[0]? = some x0 := ⟨_, List.getElem?_eq_getElem (by omega)⟩
                        rw [inL_at, hx0] at hy0
                        obtain rfl := Option.some.inj hy0
                        have hc0 : w19.cell? ⟨gx, 1, none⟩ = some (.int .i64 0) := cell_zero (hci 1 _ rfl)
                        clear hci hx0 hy0
                        go_wp2
                        go_ret
                        exact ⟨rfl, HB19.out⟩
                | succ k =>
                  have hlt : i2 < n := by have := HDj.out; omega
                  have hb1 : decide (i2 < n) = true := decide_eq_true hlt
                  obtain ⟨xs, hxs⟩ := HA16.out
                  obtain ⟨ga, ca', he, hga, hgl2⟩ := hxs.form (by omega)
                  cases he
                  have hfr1 : wr.frozen? ⟨ga, i2 * 2, none⟩ = false := hxs.frozenAt _
                  have hfr2 : wr.frozen? ⟨ga, i2 * 2 + 1, none⟩ = false := hxs.frozenAt _
                  have hxl : xs.length = n := by have := hxs.1; rw [flat_len] at this; have : xs.length * 2 = n * 2 := this; omega
                  obtain ⟨x, hx⟩ : ∃ x, xs[i2]? = some x := ⟨_, List.getElem?_eq_getElem (by omega)⟩
                  have hv1 : wr.cell? ⟨ga, i2 * 2, none⟩ = some (.int .i64 x.1) := by
                    rw [hxs.cellAt _ (by omega)]
                    exact (flat_at Et _ i2 0 x hx (by decide)).trans rfl
                  have hv2 : wr.cell? ⟨ga, i2 * 2 + 1, none⟩ = some (.int .i64 x.2) := by
                    rw [hxs.cellAt _ (by omega)]
                    exact (flat_at Et _ i2 1 x hx (by decide)).trans rfl
                  have h17 := hxs.stored (i2 * 2) (.int .i64 (-5))
                  have h18 := h17.1.stored (i2 * 2 + 1) (.int .i64 0)
                  have e1 : (flat Et xs).set (i2 * 2) (.int .i64 (-5)) = flat Et (xs.set i2 (-5, x.2)) := flat_set Et _ i2 0 x (-5, x.2) _ hx (by decide) rfl
                  have e2 : (flat Et (xs.set i2 (-5, x.2))).set (i2 * 2 + 1) (.int .i64 0) = flat Et ((xs.set i2 (-5, x.2)).set i2 (-5, 0)) := flat_set Et _ i2 1 (-5, x.2) (-5, 0) _ (by rw [List.getElem?_set_self (by omega)]) (by decide) rfl
                  rw [e1] at h18
                  rw [e2] at h18
                  have H18 := Aside0.mk h18
                  have HG18 := Aside0.mk (World.grownBy.trans HG16.out (World.grownBy.trans h17.2 h18.2))
                  clear h17 h18
                  go_wp2_with fail
                  go_roundg k
                  case measure => omega
                  case rel => exact ⟨i2 + 1, by go_num, ⟨by have := HDj.out; omega⟩, by omega, ⟨⟨_, H18.out.1⟩⟩, HG18⟩
            | succ k =>
              have hlt : i + 1 < n := by have := HDi.out; omega
              have hb1 : decide ((i : Int) + 1 < (n : Int)) = true := decide_eq_true (by omega)
              have HRw := Aside0.mk (HRA10.out.gb HG15.out)
              obtain ⟨pa, x, rfl, hx0, hcx0⟩ := HRw.out.at_ i (by omega)
              obtain ⟨pb, y, he, hy0, hcy0⟩ := HRw.out.at_ (i + 1) hlt
              cases he
              obtain ⟨k0, n0⟩ := x
              obtain ⟨k1, n1⟩ := y
              have hrk : Rk (k0, n0) (k1, n1) := pw_at (sort_rises _ (inL ls) (Nat.le_refl _) (inL_nums ls)) hx0 hy0
              have hc1 : wr.cell? (pa.add (i * 2)) = some (.int .i64 k0) := hcx0 0 _ rfl
              have hc2 : wr.cell? ⟨(pa.add (i * 2)).block, (pa.add (i * 2)).off + 1, none⟩ = some (.int .i64 n0) := num_cell (hcx0 1 _ rfl)
              have hc3 : wr.cell? (pa.add ((i + 1) * 2)) = some (.int .i64 k1) := hcy0 0 _ rfl
              have hc4 : wr.cell? ⟨(pa.add ((i + 1) * 2)).block, (pa.add ((i + 1) * 2)).off + 1, none⟩ = some (.int .i64 n1) := num_cell (hcy0 1 _ rfl)
              have HK : Aside0 (wr.drew.cell? (pa.add (i * 2)) = some (.int .i64 k0) ∧ wr.drew.cell? ⟨(pa.add (i * 2)).block, (pa.add (i * 2)).off + 1, none⟩ = some (.int .i64 n0) ∧ wr.drew.cell? (pa.add ((i + 1) * 2)) = some (.int .i64 k1) ∧ wr.drew.cell? ⟨(pa.add ((i + 1) * 2)).block, (pa.add ((i + 1) * 2)).off + 1, none⟩ = some (.int .i64 n1)) := ⟨hc1, hc2, hc3, hc4⟩
              have HWa : Aside0 (wrap64 ((i : Int) + 1 - 1) = (i : Int)) := ⟨by unfold wrap64; omega⟩
              have HWb : Aside0 (wrap64 (i : Int) = (i : Int)) := ⟨by unfold wrap64; omega⟩
              have hq0 : (0 : Int) ≤ (i : Int) := by omega
              have hq1 : (i : Int) < (n : Int) := by omega
              have hq2 : (i : Int) + 1 < (n : Int) := by omega
              have hp1 : (0 : Int) ≤ (i : Int) + 1 := by omega
              have hp2 : ((i : Int) + 1).toNat = i + 1 := by omega
              clear hx0 hy0 hcx0 hcy0 HRw hc1 hc2 hc3 hc4
              have hk01 : decide (k1 < k0) = false := decide_eq_false (by unfold Rk at hrk; simp only at hrk; omega)
              have HRK := Aside0.mk hrk
              clear hrk
              go_wp2_with fail
              by_cases heq : k0 = k1
              · subst heq
                have hn01 : decide (n1 < n0) = false := decide_eq_false (by have hrk := HRK.out; unfold Rk at hrk; simp only at hrk; omega)
                have hkk : (k0 == k0) = true := by simp
                refine start_ (n := 40) (S := fun w' => w'.cell? (pa.add (i * 2)) = some (.int .i64 k0) ∧ w'.cell? ⟨(pa.add (i * 2)).block, (pa.add (i * 2)).off + 1, none⟩ = some (.int .i64 n0) ∧ w'.cell? (pa.add ((i + 1) * 2)) = some (.int .i64 k0) ∧ w'.cell? ⟨(pa.add ((i + 1) * 2)).block, (pa.add ((i + 1) * 2)).off + 1, none⟩ = some (.int .i64 n1)) (ds := []) #[false, false, false, false, false, false, false, false, false, false, false, false, false, false, false, false, false, false, false, false, false, false, false, false, false, false, false, false, false, false, false, false, false, false, false, false, false, false, false, false] (by kernel_rfl) rfl rfl ⟨HK.out.1, HK.out.2.1, HK.out.2.2.1, HK.out.2.2.2⟩ (fun hHeld => ?_)
                refine pure_ (i := 0) (N := some 107) (v := ?_) (a' := ?_) #[true, false, false, false, false, false, false, false, false, false, false, false, false, false, false, false, false, false, false, false, false, false, false, false, false, false, false, false, false, false, false, false, false, false, false, false, false, false, false, false] rfl rfl (by kernel_rfl) (fun _ _ _ h => h) (Or.inl ⟨by rfl, ?_⟩) ?_ ?_
                rotate_left
                · intro w'
                  go_simp
                  with_reducible rfl
                rotate_left
                · simp only [Act.put, List.setIfInBounds_toArray, List.set_cons_zero, List.set_cons_succ, i64_w, i32_w, HWa.out, HWb.out]
                  rfl
                refine pure_ (i := 1) (N := some 108) (v := ?_) (a' := ?_) #[true, true, false, false, false, false, false, false, false, false, false, false, false, false, false, false, false, false, false, false, false, false, false, false, false, false, false, false, false, false, false, false, false, false, false, false, false, false, false, false] rfl rfl (by kernel_rfl) (fun _ _ _ h => h) (Or.inl ⟨by rfl, ?_⟩) ?_ ?_
                rotate_left
                · intro w'
                  go_simp
                  with_reducible rfl
                rotate_left
                · simp only [Act.put, List.setIfInBounds_toArray, List.set_cons_zero, List.set_cons_succ, i64_w, i32_w, HWa.out, HWb.out]
                  rfl
                refine pure_ (i := 2) (N := some 109) (v := ?_) (a' := ?_) #[true, true, true, false, false, false, false, false, false, false, false, false, false, false, false, false, false, false, false, false, false, false, false, false, false, false, false, false, false, false, false, false, false, false, false, false, false, false, false, false] rfl rfl (by kernel_rfl) (fun _ _ _ h => h) (Or.inl ⟨by rfl, ?_⟩) ?_ ?_
                rotate_left
                · intro w'
                  go_simp
                  with_reducible rfl
                rotate_left
                · simp only [Act.put, List.setIfInBounds_toArray, List.set_cons_zero, List.set_cons_succ, i64_w, i32_w, HWa.out, HWb.out]
                  rfl
                refine pure_ (i := 3) (N := some 110) (v := ?_) (a' := ?_) #[true, true, true, true, false, false, false, false, false, false, false, false, false, false, false, false, false, false, false, false, false, false, false, false, false, false, false, false, false, false, false, false, false, false, false, false, false, false, false, false] rfl rfl (by kernel_rfl) (fun _ _ _ h => h) (Or.inl ⟨by rfl, ?_⟩) ?_ ?_
                rotate_left
                · intro w'
                  go_simp
                  with_reducible rfl
                rotate_left
                · simp only [Act.put, List.setIfInBounds_toArray, List.set_cons_zero, List.set_cons_succ, i64_w, i32_w, HWa.out, HWb.out]
                  rfl
                refine pure_ (i := 4) (N := some 111) (v := ?_) (a' := ?_) #[true, true, true, true, true, false, false, false, false, false, false, false, false, false, false, false, false, false, false, false, false, false, false, false, false, false, false, false, false, false, false, false, false, false, false, false, false, false, false, false] rfl rfl (by kernel_rfl) (fun _ _ _ h => h) (Or.inl ⟨by rfl, ?_⟩) ?_ ?_
                rotate_left
                · intro w'
                  go_simp
                  with_reducible rfl
                rotate_left
                · simp only [Act.put, List.setIfInBounds_toArray, List.set_cons_zero, List.set_cons_succ, i64_w, i32_w, HWa.out, HWb.out]
                  rfl
                refine pure_ (i := 6) (N := some 113) (v := ?_) (a' := ?_) #[true, true, true, true, true, false, true, false, false, false, false, false, false, false, false, false, false, false, false, false, false, false, false, false, false, false, false, false, false, false, false, false, false, false, false, false, false, false, false, false] rfl rfl (by kernel_rfl) (fun _ _ _ h => h) (Or.inl ⟨by rfl, ?_⟩) ?_ ?_
                rotate_left
                · intro w'
                  go_simp
                  with_reducible rfl
                rotate_left
                · simp only [Act.put, List.setIfInBounds_toArray, List.set_cons_zero, List.set_cons_succ, i64_w, i32_w, HWa.out, HWb.out]
                  rfl
                refine pure_ (i := 7) (N := some 114) (v := ?_) (a' := ?_) #[true, true, true, true, true, false, true, true, false, false, false, false, false, false, false, false, false, false, false, false, false, false, false, false, false, false, false, false, false, false, false, false, false, false, false, false, false, false, false, false] rfl rfl (by kernel_rfl) (fun _ _ _ h => h) (Or.inl ⟨by rfl, ?_⟩) ?_ ?_
                rotate_left
                · intro w'
                  go_simp
                  with_reducible rfl
                rotate_left
                · simp only [Act.put, List.setIfInBounds_toArray, List.set_cons_zero, List.set_cons_succ, i64_w, i32_w, HWa.out, HWb.out]
                  rfl
                refine pure_ (i := 8) (N := some 115) (v := ?_) (a' := ?_) #[true, true, true, true, true, false, true, true, true, false, false, false, false, false, false, false, false, false, false, false, false, false, false, false, false, false, false, false, false, false, false, false, false, false, false, false, false, false, false, false] rfl rfl (by kernel_rfl) (fun _ _ _ h => h) (Or.inl ⟨by rfl, ?_⟩) ?_ ?_
                rotate_left
                · intro w'
                  go_simp
                  with_reducible rfl
                rotate_left
                · simp only [Act.put, List.setIfInBounds_toArray, List.set_cons_zero, List.set_cons_succ, i64_w, i32_w, HWa.out, HWb.out]
                  rfl
                refine pure_ (i := 9) (N := some 116) (v := ?_) (a' := ?_) #[true, true, true, true, true, false, true, true, true, true, false, false, false, false, false, false, false, false, false, false, false, false, false, false, false, false, false, false, false, false, false, false, false, false, false, false, false, false, false, false] rfl rfl (by kernel_rfl) (fun _ _ _ h => h) (Or.inl ⟨by rfl, ?_⟩) ?_ ?_
                rotate_left
                · intro w'
                  go_simp
                  with_reducible rfl
                rotate_left
                · simp only [Act.put, List.setIfInBounds_toArray, List.set_cons_zero, List.set_cons_succ, i64_w, i32_w, HWa.out, HWb.out]
                  rfl
                refine take_ (i := 5) (N := some 112) (v := ?_) (a' := ?_) #[true, true, true, true, true, true, true, true, true, true, false, false, false, false, false, false, false, false, false, false, false, false, false, false, false, false, false, false, false, false, false, false, false, false, false, false, false, false, false, false] rfl rfl (by kernel_rfl) (fun _ _ _ h => h) (Or.inl ⟨by rfl, ?_⟩) hHeld ?_ ?_
                rotate_left
                · rintro w' ⟨s0, s1, s2, s3⟩
                  go_simp
                  with_reducible rfl
                rotate_left
                · simp only [Act.put, List.setIfInBounds_toArray, List.set_cons_zero, List.set_cons_succ, i64_w, i32_w, HWa.out, HWb.out]
                  rfl
                refine take_ (i := 10) (N := some 117) (v := ?_) (a' := ?_) #[true, true, true, true, true, true, true, true, true, true, true, false, false, false, false, false, false, false, false, false, false, false, false, false, false, false, false, false, false, false, false, false, false, false, false, false, false, false, false, false] rfl rfl (by kernel_rfl) (fun _ _ _ h => h) (Or.inl ⟨by rfl, ?_⟩) hHeld ?_ ?_
                rotate_left
                · rintro w' ⟨s0, s1, s2, s3⟩
                  go_simp
                  with_reducible rfl
                rotate_left
                · simp only [Act.put, List.setIfInBounds_toArray, List.set_cons_zero, List.set_cons_succ, i64_w, i32_w, HWa.out, HWb.out]
                  rfl
                refine pure_ (i := 11) (N := some 118) (v := ?_) (a' := ?_) #[true, true, true, true, true, true, true, true, true, true, true, true, false, false, false, false, false, false, false, false, false, false, false, false, false, false, false, false, false, false, false, false, false, false, false, false, false, false, false, false] rfl rfl (by kernel_rfl) (fun _ _ _ h => h) (Or.inl ⟨by rfl, ?_⟩) ?_ ?_
                rotate_left
                · intro w'
                  go_simp
                  with_reducible rfl
                rotate_left
                · simp only [Act.put, List.setIfInBounds_toArray, List.set_cons_zero, List.set_cons_succ, i64_w, i32_w, HWa.out, HWb.out]
                  rfl
                refine pure_ (i := 12) (N := some 119) (v := ?_) (a' := ?_) #[true, true, true, true, true, true, true, true, true, true, true, true, true, false, false, false, false, false, false, false, false, false, false, false, false, false, false, false, false, false, false, false, false, false, false, false, false, false, false, false] rfl rfl (by kernel_rfl) (fun _ _ _ h => h) (Or.inl ⟨by rfl, ?_⟩) ?_ ?_
                rotate_left
                · intro w'
                  go_simp
                  with_reducible rfl
                rotate_left
                · simp only [Act.put, List.setIfInBounds_toArray, List.set_cons_zero, List.set_cons_succ, i64_w, i32_w, HWa.out, HWb.out]
                  rfl
                refine pure_ (i := 13) (N := some 120) (v := ?_) (a' := ?_) #[true, true, true, true, true, true, true, true, true, true, true, true, true, true, false, false, false, false, false, false, false, false, false, false, false, false, false, false, false, false, false, false, false, false, false, false, false, false, false, false] rfl rfl (by kernel_rfl) (fun _ _ _ h => h) (Or.inl ⟨by rfl, ?_⟩) ?_ ?_
                rotate_left
                · intro w'
                  go_simp
                  with_reducible rfl
                rotate_left
                · simp only [Act.put, List.setIfInBounds_toArray, List.set_cons_zero, List.set_cons_succ, i64_w, i32_w, HWa.out, HWb.out]
                  rfl
                refine pure_ (i := 14) (N := some 121) (v := ?_) (a' := ?_) #[true, true, true, true, true, true, true, true, true, true, true, true, true, true, true, false, false, false, false, false, false, false, false, false, false, false, false, false, false, false, false, false, false, false, false, false, false, false, false, false] rfl rfl (by kernel_rfl) (fun _ _ _ h => h) (Or.inl ⟨by rfl, ?_⟩) ?_ ?_
                rotate_left
                · intro w'
                  go_simp
                  with_reducible rfl
                rotate_left
                · simp only [Act.put, List.setIfInBounds_toArray, List.set_cons_zero, List.set_cons_succ, i64_w, i32_w, HWa.out, HWb.out]
                  rfl
                refine pure_ (i := 15) (N := some 122) (v := ?_) (a' := ?_) #[true, true, true, true, true, true, true, true, true, true, true, true, true, true, true, true, false, false, false, false, false, false, false, false, false, false, false, false, false, false, false, false, false, false, false, false, false, false, false, false] rfl rfl (by kernel_rfl) (fun _ _ _ h => h) (Or.inl ⟨by rfl, ?_⟩) ?_ ?_
                rotate_left
                · intro w'
                  go_simp
                  with_reducible rfl
                rotate_left
                · simp only [Act.put, List.setIfInBounds_toArray, List.set_cons_zero, List.set_cons_succ, i64_w, i32_w, HWa.out, HWb.out]
                  rfl
                refine pure_ (i := 16) (N := some 123) (v := ?_) (a' := ?_) #[true, true, true, true, true, true, true, true, true, true, true, true, true, true, true, true, true, false, false, false, false, false, false, false, false, false, false, false, false, false, false, false, false, false, false, false, false, false, false, false] rfl rfl (by kernel_rfl) (fun _ _ _ h => h) (Or.inl ⟨by rfl, ?_⟩) ?_ ?_
                rotate_left
                · intro w'
                  go_simp
                  with_reducible rfl
                rotate_left
                · simp only [Act.put, List.setIfInBounds_toArray, List.set_cons_zero, List.set_cons_succ, i64_w, i32_w, HWa.out, HWb.out]
                  rfl
                refine pure_ (i := 17) (N := some 124) (v := ?_) (a' := ?_) #[true, true, true, true, true, true, true, true, true, true, true, true, true, true, true, true, true, true, false, false, false, false, false, false, false, false, false, false, false, false, false, false, false, false, false, false, false, false, false, false] rfl rfl (by kernel_rfl) (fun _ _ _ h => h) (Or.inl ⟨by rfl, ?_⟩) ?_ ?_
                rotate_left
                · intro w'
                  go_simp
                  with_reducible rfl
                rotate_left
                · simp only [Act.put, List.setIfInBounds_toArray, List.set_cons_zero, List.set_cons_succ, i64_w, i32_w, HWa.out, HWb.out]
                  rfl
                refine pure_ (i := 19) (N := some 126) (v := ?_) (a' := ?_) #[true, true, true, true, true, true, true, true, true, true, true, true, true, true, true, true, true, true, false, true, false, false, false, false, false, false, false, false, false, false, false, false, false, false, false, false, false, false, false, false] rfl rfl (by kernel_rfl) (fun _ _ _ h => h) (Or.inl ⟨by rfl, ?_⟩) ?_ ?_
                rotate_left
                · intro w'
                  go_simp
                  with_reducible rfl
                rotate_left
                · simp only [Act.put, List.setIfInBounds_toArray, List.set_cons_zero, List.set_cons_succ, i64_w, i32_w, HWa.out, HWb.out]
                  rfl
                refine pure_ (i := 20) (N := some 127) (v := ?_) (a' := ?_) #[true, true, true, true, true, true, true, true, true, true, true, true, true, true, true, true, true, true, false, true, true, false, false, false, false, false, false, false, false, false, false, false, false, false, false, false, false, false, false, false] rfl rfl (by kernel_rfl) (fun _ _ _ h => h) (Or.inl ⟨by rfl, ?_⟩) ?_ ?_
                rotate_left
                · intro w'
                  go_simp
                  with_reducible rfl
                rotate_left
                · simp only [Act.put, List.setIfInBounds_toArray, List.set_cons_zero, List.set_cons_succ, i64_w, i32_w, HWa.out, HWb.out]
                  rfl
                refine pure_ (i := 21) (N := some 128) (v := ?_) (a' := ?_) #[true, true, true, true, true, true, true, true, true, true, true, true, true, true, true, true, true, true, false, true, true, true, false, false, false, false, false, false, false, false, false, false, false, false, false, false, false, false, false, false] rfl rfl (by kernel_rfl) (fun _ _ _ h => h) (Or.inl ⟨by rfl, ?_⟩) ?_ ?_
                rotate_left
                · intro w'
                  go_simp
                  with_reducible rfl
                rotate_left
                · simp only [Act.put, List.setIfInBounds_toArray, List.set_cons_zero, List.set_cons_succ, i64_w, i32_w, HWa.out, HWb.out]
                  rfl
                refine pure_ (i := 22) (N := some 129) (v := ?_) (a' := ?_) #[true, true, true, true, true, true, true, true, true, true, true, true, true, true, true, true, true, true, false, true, true, true, true, false, false, false, false, false, false, false, false, false, false, false, false, false, false, false, false, false] rfl rfl (by kernel_rfl) (fun _ _ _ h => h) (Or.inl ⟨by rfl, ?_⟩) ?_ ?_
                rotate_left
                · intro w'
                  go_simp
                  with_reducible rfl
                rotate_left
                · simp only [Act.put, List.setIfInBounds_toArray, List.set_cons_zero, List.set_cons_succ, i64_w, i32_w, HWa.out, HWb.out]
                  rfl
                refine take_ (i := 18) (N := some 125) (v := ?_) (a' := ?_) #[true, true, true, true, true, true, true, true, true, true, true, true, true, true, true, true, true, true, true, true, true, true, true, false, false, false, false, false, false, false, false, false, false, false, false, false, false, false, false, false] rfl rfl (by kernel_rfl) (fun _ _ _ h => h) (Or.inl ⟨by rfl, ?_⟩) hHeld ?_ ?_
                rotate_left
                · rintro w' ⟨s0, s1, s2, s3⟩
                  go_simp
                  with_reducible rfl
                rotate_left
                · simp only [Act.put, List.setIfInBounds_toArray, List.set_cons_zero, List.set_cons_succ, i64_w, i32_w, HWa.out, HWb.out]
                  rfl
                refine take_ (i := 23) (N := some 130) (v := ?_) (a' := ?_) #[true, true, true, true, true, true, true, true, true, true, true, true, true, true, true, true, true, true, true, true, true, true, true, true, false, false, false, false, false, false, false, false, false, false, false, false, false, false, false, false] rfl rfl (by kernel_rfl) (fun _ _ _ h => h) (Or.inl ⟨by rfl, ?_⟩) hHeld ?_ ?_
                rotate_left
                · rintro w' ⟨s0, s1, s2, s3⟩
                  go_simp
                  with_reducible rfl
                rotate_left
                · simp only [Act.put, List.setIfInBounds_toArray, List.set_cons_zero, List.set_cons_succ, i64_w, i32_w, HWa.out, HWb.out]
                  rfl
                refine pure_ (i := 24) (N := some 131) (v := ?_) (a' := ?_) #[true, true, true, true, true, true, true, true, true, true, true, true, true, true, true, true, true, true, true, true, true, true, true, true, true, false, false, false, false, false, false, false, false, false, false, false, false, false, false, false] rfl rfl (by kernel_rfl) (fun _ _ _ h => h) (Or.inl ⟨by rfl, ?_⟩) ?_ ?_
                rotate_left
                · intro w'
                  go_simp
                  with_reducible rfl
                rotate_left
                · simp only [Act.put, List.setIfInBounds_toArray, List.set_cons_zero, List.set_cons_succ, i64_w, i32_w, HWa.out, HWb.out]
                  rfl
                refine pure_ (i := 25) (N := some 132) (v := ?_) (a' := ?_) #[true, true, true, true, true, true, true, true, true, true, true, true, true, true, true, true, true, true, true, true, true, true, true, true, true, true, false, false, false, false, false, false, false, false, false, false, false, false, false, false] rfl rfl (by kernel_rfl) (fun _ _ _ h => h) (Or.inl ⟨by rfl, ?_⟩) ?_ ?_
                rotate_left
                · intro w'
                  go_simp
                  with_reducible rfl
                rotate_left
                · simp only [Act.put, List.setIfInBounds_toArray, List.set_cons_zero, List.set_cons_succ, i64_w, i32_w, HWa.out, HWb.out]
                  rfl
                refine pure_ (i := 26) (N := some 133) (v := ?_) (a' := ?_) #[true, true, true, true, true, true, true, true, true, true, true, true, true, true, true, true, true, true, true, true, true, true, true, true, true, true, true, false, false, false, false, false, false, false, false, false, false, false, false, false] rfl rfl (by kernel_rfl) (fun _ _ _ h => h) (Or.inl ⟨by rfl, ?_⟩) ?_ ?_
                rotate_left
                · intro w'
                  go_simp
                  with_reducible rfl
                rotate_left
                · simp only [Act.put, List.setIfInBounds_toArray, List.set_cons_zero, List.set_cons_succ, i64_w, i32_w, HWa.out, HWb.out]
                  rfl
                refine pure_ (i := 27) (N := some 134) (v := ?_) (a' := ?_) #[true, true, true, true, true, true, true, true, true, true, true, true, true, true, true, true, true, true, true, true, true, true, true, true, true, true, true, true, false, false, false, false, false, false, false, false, false, false, false, false] rfl rfl (by kernel_rfl) (fun _ _ _ h => h) (Or.inl ⟨by rfl, ?_⟩) ?_ ?_
                rotate_left
                · intro w'
                  go_simp
                  with_reducible rfl
                rotate_left
                · simp only [Act.put, List.setIfInBounds_toArray, List.set_cons_zero, List.set_cons_succ, i64_w, i32_w, HWa.out, HWb.out]
                  rfl
                refine pure_ (i := 28) (N := some 135) (v := ?_) (a' := ?_) #[true, true, true, true, true, true, true, true, true, true, true, true, true, true, true, true, true, true, true, true, true, true, true, true, true, true, true, true, true, false, false, false, false, false, false, false, false, false, false, false] rfl rfl (by kernel_rfl) (fun _ _ _ h => h) (Or.inl ⟨by rfl, ?_⟩) ?_ ?_
                rotate_left
                · intro w'
                  go_simp
                  with_reducible rfl
                rotate_left
                · simp only [Act.put, List.setIfInBounds_toArray, List.set_cons_zero, List.set_cons_succ, i64_w, i32_w, HWa.out, HWb.out]
                  rfl
                refine pure_ (i := 29) (N := some 136) (v := ?_) (a' := ?_) #[true, true, true, true, true, true, true, true, true, true, true, true, true, true, true, true, true, true, true, true, true, true, true, true, true, true, true, true, true, true, false, false, false, false, false, false, false, false, false, false] rfl rfl (by kernel_rfl) (fun _ _ _ h => h) (Or.inl ⟨by rfl, ?_⟩) ?_ ?_
                rotate_left
                · intro w'
                  go_simp
                  with_reducible rfl
                rotate_left
                · simp only [Act.put, List.setIfInBounds_toArray, List.set_cons_zero, List.set_cons_succ, i64_w, i32_w, HWa.out, HWb.out]
                  rfl
                refine pure_ (i := 30) (N := some 137) (v := ?_) (a' := ?_) #[true, true, true, true, true, true, true, true, true, true, true, true, true, true, true, true, true, true, true, true, true, true, true, true, true, true, true, true, true, true, true, false, false, false, false, false, false, false, false, false] rfl rfl (by kernel_rfl) (fun _ _ _ h => h) (Or.inl ⟨by rfl, ?_⟩) ?_ ?_
                rotate_left
                · intro w'
                  go_simp
                  with_reducible rfl
                rotate_left
                · simp only [Act.put, List.setIfInBounds_toArray, List.set_cons_zero, List.set_cons_succ, i64_w, i32_w, HWa.out, HWb.out]
                  rfl
                refine pure_ (i := 32) (N := some 139) (v := ?_) (a' := ?_) #[true, true, true, true, true, true, true, true, true, true, true, true, true, true, true, true, true, true, true, true, true, true, true, true, true, true, true, true, true, true, true, false, true, false, false, false, false, false, false, false] rfl rfl (by kernel_rfl) (fun _ _ _ h => h) (Or.inl ⟨by rfl, ?_⟩) ?_ ?_
                rotate_left
                · intro w'
                  go_simp
                  with_reducible rfl
                rotate_left
                · simp only [Act.put, List.setIfInBounds_toArray, List.set_cons_zero, List.set_cons_succ, i64_w, i32_w, HWa.out, HWb.out]
                  rfl
                refine pure_ (i := 33) (N := some 140) (v := ?_) (a' := ?_) #[true, true, true, true, true, true, true, true, true, true, true, true, true, true, true, true, true, true, true, true, true, true, true, true, true, true, true, true, true, true, true, false, true, true, false, false, false, false, false, false] rfl rfl (by kernel_rfl) (fun _ _ _ h => h) (Or.inl ⟨by rfl, ?_⟩) ?_ ?_
                rotate_left
                · intro w'
                  go_simp
                  with_reducible rfl
                rotate_left
                · simp only [Act.put, List.setIfInBounds_toArray, List.set_cons_zero, List.set_cons_succ, i64_w, i32_w, HWa.out, HWb.out]
                  rfl
                refine pure_ (i := 34) (N := some 141) (v := ?_) (a' := ?_) #[true, true, true, true, true, true, true, true, true, true, true, true, true, true, true, true, true, true, true, true, true, true, true, true, true, true, true, true, true, true, true, false, true, true, true, false, false, false, false, false] rfl rfl (by kernel_rfl) (fun _ _ _ h => h) (Or.inl ⟨by rfl, ?_⟩) ?_ ?_
                rotate_left
                · intro w'
                  go_simp
                  with_reducible rfl
                rotate_left
                · simp only [Act.put, List.setIfInBounds_toArray, List.set_cons_zero, List.set_cons_succ, i64_w, i32_w, HWa.out, HWb.out]
                  rfl
                refine pure_ (i := 35) (N := some 142) (v := ?_) (a' := ?_) #[true, true, true, true, true, true, true, true, true, true, true, true, true, true, true, true, true, true, true, true, true, true, true, true, true, true, true, true, true, true, true, false, true, true, true, true, false, false, false, false] rfl rfl (by kernel_rfl) (fun _ _ _ h => h) (Or.inl ⟨by rfl, ?_⟩) ?_ ?_
                rotate_left
                · intro w'
                  go_simp
                  with_reducible rfl
                rotate_left
                · simp only [Act.put, List.setIfInBounds_toArray, List.set_cons_zero, List.set_cons_succ, i64_w, i32_w, HWa.out, HWb.out]
                  rfl
                refine take_ (i := 31) (N := some 138) (v := ?_) (a' := ?_) #[true, true, true, true, true, true, true, true, true, true, true, true, true, true, true, true, true, true, true, true, true, true, true, true, true, true, true, true, true, true, true, true, true, true, true, true, false, false, false, false] rfl rfl (by kernel_rfl) (fun _ _ _ h => h) (Or.inl ⟨by rfl, ?_⟩) hHeld ?_ ?_
                rotate_left
                · rintro w' ⟨s0, s1, s2, s3⟩
                  go_simp
                  with_reducible rfl
                rotate_left
                · simp only [Act.put, List.setIfInBounds_toArray, List.set_cons_zero, List.set_cons_succ, i64_w, i32_w, HWa.out, HWb.out]
                  rfl
                refine take_ (i := 36) (N := some 143) (v := ?_) (a' := ?_) #[true, true, true, true, true, true, true, true, true, true, true, true, true, true, true, true, true, true, true, true, true, true, true, true, true, true, true, true, true, true, true, true, true, true, true, true, true, false, false, false] rfl rfl (by kernel_rfl) (fun _ _ _ h => h) (Or.inl ⟨by rfl, ?_⟩) hHeld ?_ ?_
                rotate_left
                · rintro w' ⟨s0, s1, s2, s3⟩
                  go_simp
                  with_reducible rfl
                rotate_left
                · simp only [Act.put, List.setIfInBounds_toArray, List.set_cons_zero, List.set_cons_succ, i64_w, i32_w, HWa.out, HWb.out]
                  rfl
                refine pure_ (i := 37) (N := some 144) (v := ?_) (a' := ?_) #[true, true, true, true, true, true, true, true, true, true, true, true, true, true, true, true, true, true, true, true, true, true, true, true, true, true, true, true, true, true, true, true, true, true, true, true, true, true, false, false] rfl rfl (by kernel_rfl) (fun _ _ _ h => h) (Or.inl ⟨by rfl, ?_⟩) ?_ ?_
                rotate_left
                · intro w'
                  go_simp
                  with_reducible rfl
                rotate_left
                · simp only [Act.put, List.setIfInBounds_toArray, List.set_cons_zero, List.set_cons_succ, i64_w, i32_w, HWa.out, HWb.out]
                  rfl
                refine pure_ (i := 38) (N := some 145) (v := ?_) (a' := ?_) #[true, true, true, true, true, true, true, true, true, true, true, true, true, true, true, true, true, true, true, true, true, true, true, true, true, true, true, true, true, true, true, true, true, true, true, true, true, true, true, false] rfl rfl (by kernel_rfl) (fun _ _ _ h => h) (Or.inl ⟨by rfl, ?_⟩) ?_ ?_
                rotate_left
                · intro w'
                  go_simp
                  with_reducible rfl
                rotate_left
                · simp only [Act.put, List.setIfInBounds_toArray, List.set_cons_zero, List.set_cons_succ, i64_w, i32_w, HWa.out, HWb.out]
                  rfl
                refine pure_ (i := 39) (N := some 146) (v := ?_) (a' := ?_) #[true, true, true, true, true, true, true, true, true, true, true, true, true, true, true, true, true, true, true, true, true, true, true, true, true, true, true, true, true, true, true, true, true, true, true, true, true, true, true, true] rfl rfl (by kernel_rfl) (fun _ _ _ h => h) (Or.inl ⟨by rfl, ?_⟩) ?_ ?_
                rotate_left
                · intro w'
                  go_simp
                  with_reducible rfl
                rotate_left
                · simp only [Act.put, List.setIfInBounds_toArray, List.set_cons_zero, List.set_cons_succ, i64_w, i32_w, HWa.out, HWb.out]
                  rfl
                refine done_ (by kernel_rfl) ?_
                go_wp2_with fail
                go_roundg k
                case measure => omega
                case rel => exact ⟨i + 1, by go_num, ⟨by have := HDi.out; omega⟩, ⟨World.grownBy.trans HG15.out (gb_drew _ none)⟩⟩
              · have hne : (k0 == k1) = false := by simpa using heq
                refine start_ (n := 40) (S := fun w' => w'.cell? (pa.add (i * 2)) = some (.int .i64 k0) ∧ w'.cell? ⟨(pa.add (i * 2)).block, (pa.add (i * 2)).off + 1, none⟩ = some (.int .i64 n0) ∧ w'.cell? (pa.add ((i + 1) * 2)) = some (.int .i64 k1) ∧ w'.cell? ⟨(pa.add ((i + 1) * 2)).block, (pa.add ((i + 1) * 2)).off + 1, none⟩ = some (.int .i64 n1)) (ds := []) #[false, false, false, false, false, false, false, false, false, false, false, false, false, false, false, false, false, false, false, false, false, false, false, false, false, false, false, false, false, false, false, false, false, false, false, false, false, false, false, false] (by kernel_rfl) rfl rfl ⟨HK.out.1, HK.out.2.1, HK.out.2.2.1, HK.out.2.2.2⟩ (fun hHeld => ?_)
                refine pure_ (i := 0) (N := some 107) (v := ?_) (a' := ?_) #[true, false, false, false, false, false, false, false, false, false, false, false, false, false, false, false, false, false, false, false, false, false, false, false, false, false, false, false, false, false, false, false, false, false, false, false, false, false, false, false] rfl rfl (by kernel_rfl) (fun _ _ _ h => h) (Or.inl ⟨by rfl, ?_⟩) ?_ ?_
                rotate_left
                · intro w'
                  go_simp
                  with_reducible rfl
                rotate_left
                · simp only [Act.put, List.setIfInBounds_toArray, List.set_cons_zero, List.set_cons_succ, i64_w, i32_w, HWa.out, HWb.out]
                  rfl
                refine pure_ (i := 1) (N := some 108) (v := ?_) (a' := ?_) #[true, true, false, false, false, false, false, false, false, false, false, false, false, false, false, false, false, false, false, false, false, false, false, false, false, false, false, false, false, false, false, false, false, false, false, false, false, false, false, false] rfl rfl (by kernel_rfl) (fun _ _ _ h => h) (Or.inl ⟨by rfl, ?_⟩) ?_ ?_
                rotate_left
                · intro w'
                  go_simp
                  with_reducible rfl
                rotate_left
                · simp only [Act.put, List.setIfInBounds_toArray, List.set_cons_zero, List.set_cons_succ, i64_w, i32_w, HWa.out, HWb.out]
                  rfl
                refine pure_ (i := 2) (N := some 109) (v := ?_) (a' := ?_) #[true, true, true, false, false, false, false, false, false, false, false, false, false, false, false, false, false, false, false, false, false, false, false, false, false, false, false, false, false, false, false, false, false, false, false, false, false, false, false, false] rfl rfl (by kernel_rfl) (fun _ _ _ h => h) (Or.inl ⟨by rfl, ?_⟩) ?_ ?_
                rotate_left
                · intro w'
                  go_simp
                  with_reducible rfl
                rotate_left
                · simp only [Act.put, List.setIfInBounds_toArray, List.set_cons_zero, List.set_cons_succ, i64_w, i32_w, HWa.out, HWb.out]
                  rfl
                refine pure_ (i := 3) (N := some 110) (v := ?_) (a' := ?_) #[true, true, true, true, false, false, false, false, false, false, false, false, false, false, false, false, false, false, false, false, false, false, false, false, false, false, false, false, false, false, false, false, false, false, false, false, false, false, false, false] rfl rfl (by kernel_rfl) (fun _ _ _ h => h) (Or.inl ⟨by rfl, ?_⟩) ?_ ?_
                rotate_left
                · intro w'
                  go_simp
                  with_reducible rfl
                rotate_left
                · simp only [Act.put, List.setIfInBounds_toArray, List.set_cons_zero, List.set_cons_succ, i64_w, i32_w, HWa.out, HWb.out]
                  rfl
                refine pure_ (i := 4) (N := some 111) (v := ?_) (a' := ?_) #[true, true, true, true, true, false, false, false, false, false, false, false, false, false, false, false, false, false, false, false, false, false, false, false, false, false, false, false, false, false, false, false, false, false, false, false, false, false, false, false] rfl rfl (by kernel_rfl) (fun _ _ _ h => h) (Or.inl ⟨by rfl, ?_⟩) ?_ ?_
                rotate_left
                · intro w'
                  go_simp
                  with_reducible rfl
                rotate_left
                · simp only [Act.put, List.setIfInBounds_toArray, List.set_cons_zero, List.set_cons_succ, i64_w, i32_w, HWa.out, HWb.out]
                  rfl
                refine pure_ (i := 6) (N := some 113) (v := ?_) (a' := ?_) #[true, true, true, true, true, false, true, false, false, false, false, false, false, false, false, false, false, false, false, false, false, false, false, false, false, false, false, false, false, false, false, false, false, false, false, false, false, false, false, false] rfl rfl (by kernel_rfl) (fun _ _ _ h => h) (Or.inl ⟨by rfl, ?_⟩) ?_ ?_
                rotate_left
                · intro w'
                  go_simp
                  with_reducible rfl
                rotate_left
                · simp only [Act.put, List.setIfInBounds_toArray, List.set_cons_zero, List.set_cons_succ, i64_w, i32_w, HWa.out, HWb.out]
                  rfl
                refine pure_ (i := 7) (N := some 114) (v := ?_) (a' := ?_) #[true, true, true, true, true, false, true, true, false, false, false, false, false, false, false, false, false, false, false, false, false, false, false, false, false, false, false, false, false, false, false, false, false, false, false, false, false, false, false, false] rfl rfl (by kernel_rfl) (fun _ _ _ h => h) (Or.inl ⟨by rfl, ?_⟩) ?_ ?_
                rotate_left
                · intro w'
                  go_simp
                  with_reducible rfl
                rotate_left
                · simp only [Act.put, List.setIfInBounds_toArray, List.set_cons_zero, List.set_cons_succ, i64_w, i32_w, HWa.out, HWb.out]
                  rfl
                refine pure_ (i := 8) (N := some 115) (v := ?_) (a' := ?_) #[true, true, true, true, true, false, true, true, true, false, false, false, false, false, false, false, false, false, false, false, false, false, false, false, false, false, false, false, false, false, false, false, false, false, false, false, false, false, false, false] rfl rfl (by kernel_rfl) (fun _ _ _ h => h) (Or.inl ⟨by rfl, ?_⟩) ?_ ?_
                rotate_left
                · intro w'
                  go_simp
                  with_reducible rfl
                rotate_left
                · simp only [Act.put, List.setIfInBounds_toArray, List.set_cons_zero, List.set_cons_succ, i64_w, i32_w, HWa.out, HWb.out]
                  rfl
                refine pure_ (i := 9) (N := some 116) (v := ?_) (a' := ?_) #[true, true, true, true, true, false, true, true, true, true, false, false, false, false, false, false, false, false, false, false, false, false, false, false, false, false, false, false, false, false, false, false, false, false, false, false, false, false, false, false] rfl rfl (by kernel_rfl) (fun _ _ _ h => h) (Or.inl ⟨by rfl, ?_⟩) ?_ ?_
                rotate_left
                · intro w'
                  go_simp
                  with_reducible rfl
                rotate_left
                · simp only [Act.put, List.setIfInBounds_toArray, List.set_cons_zero, List.set_cons_succ, i64_w, i32_w, HWa.out, HWb.out]
                  rfl
                refine take_ (i := 5) (N := some 112) (v := ?_) (a' := ?_) #[true, true, true, true, true, true, true, true, true, true, false, false, false, false, false, false, false, false, false, false, false, false, false, false, false, false, false, false, false, false, false, false, false, false, false, false, false, false, false, false] rfl rfl (by kernel_rfl) (fun _ _ _ h => h) (Or.inl ⟨by rfl, ?_⟩) hHeld ?_ ?_
                rotate_left
                · rintro w' ⟨s0, s1, s2, s3⟩
                  go_simp
                  with_reducible rfl
                rotate_left
                · simp only [Act.put, List.setIfInBounds_toArray, List.set_cons_zero, List.set_cons_succ, i64_w, i32_w, HWa.out, HWb.out]
                  rfl
                refine take_ (i := 10) (N := some 117) (v := ?_) (a' := ?_) #[true, true, true, true, true, true, true, true, true, true, true, false, false, false, false, false, false, false, false, false, false, false, false, false, false, false, false, false, false, false, false, false, false, false, false, false, false, false, false, false] rfl rfl (by kernel_rfl) (fun _ _ _ h => h) (Or.inl ⟨by rfl, ?_⟩) hHeld ?_ ?_
                rotate_left
                · rintro w' ⟨s0, s1, s2, s3⟩
                  go_simp
                  with_reducible rfl
                rotate_left
                · simp only [Act.put, List.setIfInBounds_toArray, List.set_cons_zero, List.set_cons_succ, i64_w, i32_w, HWa.out, HWb.out]
                  rfl
                refine pure_ (i := 11) (N := some 118) (v := ?_) (a' := ?_) #[true, true, true, true, true, true, true, true, true, true, true, true, false, false, false, false, false, false, false, false, false, false, false, false, false, false, false, false, false, false, false, false, false, false, false, false, false, false, false, false] rfl rfl (by kernel_rfl) (fun _ _ _ h => h) (Or.inl ⟨by rfl, ?_⟩) ?_ ?_
                rotate_left
                · intro w'
                  go_simp
                  with_reducible rfl
                rotate_left
                · simp only [Act.put, List.setIfInBounds_toArray, List.set_cons_zero, List.set_cons_succ, i64_w, i32_w, HWa.out, HWb.out]
                  rfl
                refine pure_ (i := 12) (N := some 119) (v := ?_) (a' := ?_) #[true, true, true, true, true, true, true, true, true, true, true, true, true, false, false, false, false, false, false, false, false, false, false, false, false, false, false, false, false, false, false, false, false, false, false, false, false, false, false, false] rfl rfl (by kernel_rfl) (fun _ _ _ h => h) (Or.inl ⟨by rfl, ?_⟩) ?_ ?_
                rotate_left
                · intro w'
                  go_simp
                  with_reducible rfl
                rotate_left
                · simp only [Act.put, List.setIfInBounds_toArray, List.set_cons_zero, List.set_cons_succ, i64_w, i32_w, HWa.out, HWb.out]
                  rfl
                refine pure_ (i := 13) (N := some 120) (v := ?_) (a' := ?_) #[true, true, true, true, true, true, true, true, true, true, true, true, true, true, false, false, false, false, false, false, false, false, false, false, false, false, false, false, false, false, false, false, false, false, false, false, false, false, false, false] rfl rfl (by kernel_rfl) (fun _ _ _ h => h) (Or.inl ⟨by rfl, ?_⟩) ?_ ?_
                rotate_left
                · intro w'
                  go_simp
                  with_reducible rfl
                rotate_left
                · simp only [Act.put, List.setIfInBounds_toArray, List.set_cons_zero, List.set_cons_succ, i64_w, i32_w, HWa.out, HWb.out]
                  rfl
                refine pure_ (i := 14) (N := some 121) (v := ?_) (a' := ?_) #[true, true, true, true, true, true, true, true, true, true, true, true, true, true, true, false, false, false, false, false, false, false, false, false, false, false, false, false, false, false, false, false, false, false, false, false, false, false, false, false] rfl rfl (by kernel_rfl) (fun _ _ _ h => h) (Or.inl ⟨by rfl, ?_⟩) ?_ ?_
                rotate_left
                · intro w'
                  go_simp
                  with_reducible rfl
                rotate_left
                · simp only [Act.put, List.setIfInBounds_toArray, List.set_cons_zero, List.set_cons_succ, i64_w, i32_w, HWa.out, HWb.out]
                  rfl
                refine pure_ (i := 15) (N := some 122) (v := ?_) (a' := ?_) #[true, true, true, true, true, true, true, true, true, true, true, true, true, true, true, true, false, false, false, false, false, false, false, false, false, false, false, false, false, false, false, false, false, false, false, false, false, false, false, false] rfl rfl (by kernel_rfl) (fun _ _ _ h => h) (Or.inl ⟨by rfl, ?_⟩) ?_ ?_
                rotate_left
                · intro w'
                  go_simp
                  with_reducible rfl
                rotate_left
                · simp only [Act.put, List.setIfInBounds_toArray, List.set_cons_zero, List.set_cons_succ, i64_w, i32_w, HWa.out, HWb.out]
                  rfl
                refine pure_ (i := 16) (N := some 123) (v := ?_) (a' := ?_) #[true, true, true, true, true, true, true, true, true, true, true, true, true, true, true, true, true, false, false, false, false, false, false, false, false, false, false, false, false, false, false, false, false, false, false, false, false, false, false, false] rfl rfl (by kernel_rfl) (fun _ _ _ h => h) (Or.inl ⟨by rfl, ?_⟩) ?_ ?_
                rotate_left
                · intro w'
                  go_simp
                  with_reducible rfl
                rotate_left
                · simp only [Act.put, List.setIfInBounds_toArray, List.set_cons_zero, List.set_cons_succ, i64_w, i32_w, HWa.out, HWb.out]
                  rfl
                refine pure_ (i := 17) (N := some 124) (v := ?_) (a' := ?_) #[true, true, true, true, true, true, true, true, true, true, true, true, true, true, true, true, true, true, false, false, false, false, false, false, false, false, false, false, false, false, false, false, false, false, false, false, false, false, false, false] rfl rfl (by kernel_rfl) (fun _ _ _ h => h) (Or.inl ⟨by rfl, ?_⟩) ?_ ?_
                rotate_left
                · intro w'
                  go_simp
                  with_reducible rfl
                rotate_left
                · simp only [Act.put, List.setIfInBounds_toArray, List.set_cons_zero, List.set_cons_succ, i64_w, i32_w, HWa.out, HWb.out]
                  rfl
                refine pure_ (i := 19) (N := some 126) (v := ?_) (a' := ?_) #[true, true, true, true, true, true, true, true, true, true, true, true, true, true, true, true, true, true, false, true, false, false, false, false, false, false, false, false, false, false, false, false, false, false, false, false, false, false, false, false] rfl rfl (by kernel_rfl) (fun _ _ _ h => h) (Or.inl ⟨by rfl, ?_⟩) ?_ ?_
                rotate_left
                · intro w'
                  go_simp
                  with_reducible rfl
                rotate_left
                · simp only [Act.put, List.setIfInBounds_toArray, List.set_cons_zero, List.set_cons_succ, i64_w, i32_w, HWa.out, HWb.out]
                  rfl
                refine pure_ (i := 20) (N := some 127) (v := ?_) (a' := ?_) #[true, true, true, true, true, true, true, true, true, true, true, true, true, true, true, true, true, true, false, true, true, false, false, false, false, false, false, false, false, false, false, false, false, false, false, false, false, false, false, false] rfl rfl (by kernel_rfl) (fun _ _ _ h => h) (Or.inl ⟨by rfl, ?_⟩) ?_ ?_
                rotate_left
                · intro w'
                  go_simp
                  with_reducible rfl
                rotate_left
                · simp only [Act.put, List.setIfInBounds_toArray, List.set_cons_zero, List.set_cons_succ, i64_w, i32_w, HWa.out, HWb.out]
                  rfl
                refine pure_ (i := 21) (N := some 128) (v := ?_) (a' := ?_) #[true, true, true, true, true, true, true, true, true, true, true, true, true, true, true, true, true, true, false, true, true, true, false, false, false, false, false, false, false, false, false, false, false, false, false, false, false, false, false, false] rfl rfl (by kernel_rfl) (fun _ _ _ h => h) (Or.inl ⟨by rfl, ?_⟩) ?_ ?_
                rotate_left
                · intro w'
                  go_simp
                  with_reducible rfl
                rotate_left
                · simp only [Act.put, List.setIfInBounds_toArray, List.set_cons_zero, List.set_cons_succ, i64_w, i32_w, HWa.out, HWb.out]
                  rfl
                refine pure_ (i := 22) (N := some 129) (v := ?_) (a' := ?_) #[true, true, true, true, true, true, true, true, true, true, true, true, true, true, true, true, true, true, false, true, true, true, true, false, false, false, false, false, false, false, false, false, false, false, false, false, false, false, false, false] rfl rfl (by kernel_rfl) (fun _ _ _ h => h) (Or.inl ⟨by rfl, ?_⟩) ?_ ?_
                rotate_left
                · intro w'
                  go_simp
                  with_reducible rfl
                rotate_left
                · simp only [Act.put, List.setIfInBounds_toArray, List.set_cons_zero, List.set_cons_succ, i64_w, i32_w, HWa.out, HWb.out]
                  rfl
                refine take_ (i := 18) (N := some 125) (v := ?_) (a' := ?_) #[true, true, true, true, true, true, true, true, true, true, true, true, true, true, true, true, true, true, true, true, true, true, true, false, false, false, false, false, false, false, false, false, false, false, false, false, false, false, false, false] rfl rfl (by kernel_rfl) (fun _ _ _ h => h) (Or.inl ⟨by rfl, ?_⟩) hHeld ?_ ?_
                rotate_left
                · rintro w' ⟨s0, s1, s2, s3⟩
                  go_simp
                  with_reducible rfl
                rotate_left
                · simp only [Act.put, List.setIfInBounds_toArray, List.set_cons_zero, List.set_cons_succ, i64_w, i32_w, HWa.out, HWb.out]
                  rfl
                refine take_ (i := 23) (N := some 130) (v := ?_) (a' := ?_) #[true, true, true, true, true, true, true, true, true, true, true, true, true, true, true, true, true, true, true, true, true, true, true, true, false, false, false, false, false, false, false, false, false, false, false, false, false, false, false, false] rfl rfl (by kernel_rfl) (fun _ _ _ h => h) (Or.inl ⟨by rfl, ?_⟩) hHeld ?_ ?_
                rotate_left
                · rintro w' ⟨s0, s1, s2, s3⟩
                  go_simp
                  with_reducible rfl
                rotate_left
                · simp only [Act.put, List.setIfInBounds_toArray, List.set_cons_zero, List.set_cons_succ, i64_w, i32_w, HWa.out, HWb.out]
                  rfl
                refine pure_ (i := 24) (N := some 131) (v := ?_) (a' := ?_) #[true, true, true, true, true, true, true, true, true, true, true, true, true, true, true, true, true, true, true, true, true, true, true, true, true, false, false, false, false, false, false, false, false, false, false, false, false, false, false, false] rfl rfl (by kernel_rfl) (fun _ _ _ h => h) (Or.inl ⟨by rfl, ?_⟩) ?_ ?_
                rotate_left
                · intro w'
                  go_simp
                  with_reducible rfl
                rotate_left
                · simp only [Act.put, List.setIfInBounds_toArray, List.set_cons_zero, List.set_cons_succ, i64_w, i32_w, HWa.out, HWb.out]
                  rfl
                refine pure_ (i := 25) (N := some 132) (v := ?_) (a' := ?_) #[true, true, true, true, true, true, true, true, true, true, true, true, true, true, true, true, true, true, true, true, true, true, true, true, true, true, false, false, false, false, false, false, false, false, false, false, false, false, false, false] rfl rfl (by kernel_rfl) (fun _ _ _ h => h) (Or.inl ⟨by rfl, ?_⟩) ?_ ?_
                rotate_left
                · intro w'
                  go_simp
                  with_reducible rfl
                rotate_left
                · simp only [Act.put, List.setIfInBounds_toArray, List.set_cons_zero, List.set_cons_succ, i64_w, i32_w, HWa.out, HWb.out]
                  rfl
                refine pure_ (i := 26) (N := some 133) (v := undef) (a' := ?_) #[true, true, true, true, true, true, true, true, true, true, true, true, true, true, true, true, true, true, true, true, true, true, true, true, true, true, true, false, false, false, false, false, false, false, false, false, false, false, false, false] rfl rfl (by kernel_rfl) (fun _ _ _ h => h) (Or.inr ⟨by rfl, rfl⟩) ?_ ?_
                rotate_left
                · simp only [Act.put, List.setIfInBounds_toArray, List.set_cons_zero, List.set_cons_succ, i64_w, i32_w, HWa.out, HWb.out]
                  rfl
                refine pure_ (i := 27) (N := some 134) (v := undef) (a' := ?_) #[true, true, true, true, true, true, true, true, true, true, true, true, true, true, true, true, true, true, true, true, true, true, true, true, true, true, true, true, false, false, false, false, false, false, false, false, false, false, false, false] rfl rfl (by kernel_rfl) (fun _ _ _ h => h) (Or.inr ⟨by rfl, rfl⟩) ?_ ?_
                rotate_left
                · simp only [Act.put, List.setIfInBounds_toArray, List.set_cons_zero, List.set_cons_succ, i64_w, i32_w, HWa.out, HWb.out]
                  rfl
                refine pure_ (i := 28) (N := some 135) (v := undef) (a' := ?_) #[true, true, true, true, true, true, true, true, true, true, true, true, true, true, true, true, true, true, true, true, true, true, true, true, true, true, true, true, true, false, false, false, false, false, false, false, false, false, false, false] rfl rfl (by kernel_rfl) (fun _ _ _ h => h) (Or.inr ⟨by rfl, rfl⟩) ?_ ?_
                rotate_left
                · simp only [Act.put, List.setIfInBounds_toArray, List.set_cons_zero, List.set_cons_succ, i64_w, i32_w, HWa.out, HWb.out]
                  rfl
                refine pure_ (i := 29) (N := some 136) (v := undef) (a' := ?_) #[true, true, true, true, true, true, true, true, true, true, true, true, true, true, true, true, true, true, true, true, true, true, true, true, true, true, true, true, true, true, false, false, false, false, false, false, false, false, false, false] rfl rfl (by kernel_rfl) (fun _ _ _ h => h) (Or.inr ⟨by rfl, rfl⟩) ?_ ?_
                rotate_left
                · simp only [Act.put, List.setIfInBounds_toArray, List.set_cons_zero, List.set_cons_succ, i64_w, i32_w, HWa.out, HWb.out]
                  rfl
                refine pure_ (i := 30) (N := some 137) (v := undef) (a' := ?_) #[true, true, true, true, true, true, true, true, true, true, true, true, true, true, true, true, true, true, true, true, true, true, true, true, true, true, true, true, true, true, true, false, false, false, false, false, false, false, false, false] rfl rfl (by kernel_rfl) (fun _ _ _ h => h) (Or.inr ⟨by rfl, rfl⟩) ?_ ?_
                rotate_left
                · simp only [Act.put, List.setIfInBounds_toArray, List.set_cons_zero, List.set_cons_succ, i64_w, i32_w, HWa.out, HWb.out]
                  rfl
                refine pure_ (i := 31) (N := some 138) (v := undef) (a' := ?_) #[true, true, true, true, true, true, true, true, true, true, true, true, true, true, true, true, true, true, true, true, true, true, true, true, true, true, true, true, true, true, true, true, false, false, false, false, false, false, false, false] rfl rfl (by kernel_rfl) (fun _ _ _ h => h) (Or.inr ⟨by rfl, rfl⟩) ?_ ?_
                rotate_left
                · simp only [Act.put, List.setIfInBounds_toArray, List.set_cons_zero, List.set_cons_succ, i64_w, i32_w, HWa.out, HWb.out]
                  rfl
                refine pure_ (i := 32) (N := some 139) (v := undef) (a' := ?_) #[true, true, true, true, true, true, true, true, true, true, true, true, true, true, true, true, true, true, true, true, true, true, true, true, true, true, true, true, true, true, true, true, true, false, false, false, false, false, false, false] rfl rfl (by kernel_rfl) (fun _ _ _ h => h) (Or.inr ⟨by rfl, rfl⟩) ?_ ?_
                rotate_left
                · simp only [Act.put, List.setIfInBounds_toArray, List.set_cons_zero, List.set_cons_succ, i64_w, i32_w, HWa.out, HWb.out]
                  rfl
                refine pure_ (i := 33) (N := some 140) (v := undef) (a' := ?_) #[true, true, true, true, true, true, true, true, true, true, true, true, true, true, true, true, true, true, true, true, true, true, true, true, true, true, true, true, true, true, true, true, true, true, false, false, false, false, false, false] rfl rfl (by kernel_rfl) (fun _ _ _ h => h) (Or.inr ⟨by rfl, rfl⟩) ?_ ?_
                rotate_left
                · simp only [Act.put, List.setIfInBounds_toArray, List.set_cons_zero, List.set_cons_succ, i64_w, i32_w, HWa.out, HWb.out]
                  rfl
                refine pure_ (i := 34) (N := some 141) (v := undef) (a' := ?_) #[true, true, true, true, true, true, true, true, true, true, true, true, true, true, true, true, true, true, true, true, true, true, true, true, true, true, true, true, true, true, true, true, true, true, true, false, false, false, false, false] rfl rfl (by kernel_rfl) (fun _ _ _ h => h) (Or.inr ⟨by rfl, rfl⟩) ?_ ?_
                rotate_left
                · simp only [Act.put, List.setIfInBounds_toArray, List.set_cons_zero, List.set_cons_succ, i64_w, i32_w, HWa.out, HWb.out]
                  rfl
                refine pure_ (i := 35) (N := some 142) (v := undef) (a' := ?_) #[true, true, true, true, true, true, true, true, true, true, true, true, true, true, true, true, true, true, true, true, true, true, true, true, true, true, true, true, true, true, true, true, true, true, true, true, false, false, false, false] rfl rfl (by kernel_rfl) (fun _ _ _ h => h) (Or.inr ⟨by rfl, rfl⟩) ?_ ?_
                rotate_left
                · simp only [Act.put, List.setIfInBounds_toArray, List.set_cons_zero, List.set_cons_succ, i64_w, i32_w, HWa.out, HWb.out]
                  rfl
                refine pure_ (i := 36) (N := some 143) (v := undef) (a' := ?_) #[true, true, true, true, true, true, true, true, true, true, true, true, true, true, true, true, true, true, true, true, true, true, true, true, true, true, true, true, true, true, true, true, true, true, true, true, true, false, false, false] rfl rfl (by kernel_rfl) (fun _ _ _ h => h) (Or.inr ⟨by rfl, rfl⟩) ?_ ?_
                rotate_left
                · simp only [Act.put, List.setIfInBounds_toArray, List.set_cons_zero, List.set_cons_succ, i64_w, i32_w, HWa.out, HWb.out]
                  rfl
                refine pure_ (i := 37) (N := some 144) (v := undef) (a' := ?_) #[true, true, true, true, true, true, true, true, true, true, true, true, true, true, true, true, true, true, true, true, true, true, true, true, true, true, true, true, true, true, true, true, true, true, true, true, true, true, false, false] rfl rfl (by kernel_rfl) (fun _ _ _ h => h) (Or.inr ⟨by rfl, rfl⟩) ?_ ?_
                rotate_left
                · simp only [Act.put, List.setIfInBounds_toArray, List.set_cons_zero, List.set_cons_succ, i64_w, i32_w, HWa.out, HWb.out]
                  rfl
                refine pure_ (i := 38) (N := some 145) (v := ?_) (a' := ?_) #[true, true, true, true, true, true, true, true, true, true, true, true, true, true, true, true, true, true, true, true, true, true, true, true, true, true, true, true, true, true, true, true, true, true, true, true, true, true, true, false] rfl rfl (by kernel_rfl) (fun _ _ _ h => h) (Or.inl ⟨by rfl, ?_⟩) ?_ ?_
                rotate_left
                · intro w'
                  go_simp
                  with_reducible rfl
                rotate_left
                · simp only [Act.put, List.setIfInBounds_toArray, List.set_cons_zero, List.set_cons_succ, i64_w, i32_w, HWa.out, HWb.out]
                  rfl
                refine pure_ (i := 39) (N := some 146) (v := ?_) (a' := ?_) #[true, true, true, true, true, true, true, true, true, true, true, true, true, true, true, true, true, true, true, true, true, true, true, true, true, true, true, true, true, true, true, true, true, true, true, true, true, true, true, true] rfl rfl (by kernel_rfl) (fun _ _ _ h => h) (Or.inl ⟨by rfl, ?_⟩) ?_ ?_
                rotate_left
                · intro w'
                  go_simp
                  with_reducible rfl
                rotate_left
                · simp only [Act.put, List.setIfInBounds_toArray, List.set_cons_zero, List.set_cons_succ, i64_w, i32_w, HWa.out, HWb.out]
                  rfl
                refine done_ (by kernel_rfl) ?_
                go_wp2_with fail
                go_roundg k
                case measure => omega
                case rel => exact ⟨i + 1, by go_num, ⟨by have := HDi.out; omega⟩, ⟨World.grownBy.trans HG15.out (gb_drew _ none)⟩⟩
        | succ k =>
          have hlt : i < n := by have := HDi.out; omega
          have hb1 : decide (i < n) = true := decide_eq_true hlt
          obtain ⟨ld, x, rfl, hx0, hcl⟩ := (HL10.out.gb HG11.out).at_ i hlt
          obtain ⟨ke, nu⟩ := x
          obtain ⟨pd, y, he, hy0, hci⟩ := (HI10.out.gb HG11.out).at_ i hlt
          cases he
          rw [inL_at, hx0] at hy0
          obtain rfl := Option.some.inj hy0
          have hc1 : wr.cell? ⟨gx, i * 2, none⟩ = some (.int .i64 ke) := cell_zero (hci 0 _ rfl)
          have hc2 : wr.cell? ⟨gx, i * 2 + 1, none⟩ = some (.int .i64 (i : Int)) := cell_zero (hci 1 _ rfl)
          have hc3 : wr.cell? (ld.add (i * 2)) = some (.int .i64 ke) := hcl 0 _ rfl
          have HK : Aside0 (wr.drew.cell? ⟨gx, i * 2, none⟩ = some (.int .i64 ke) ∧ wr.drew.cell? ⟨gx, i * 2 + 1, none⟩ = some (.int .i64 (i : Int)) ∧ wr.drew.cell? (ld.add (i * 2)) = some (.int .i64 ke)) := ⟨hc1, hc2, hc3⟩
          clear hx0 hci hcl hy0
          go_wp2_with fail
          refine start_ (n := 20) (S := fun w' => w'.cell? ⟨gx, i * 2, none⟩ = some (.int .i64 ke) ∧ w'.cell? ⟨gx, i * 2 + 1, none⟩ = some (.int .i64 (i : Int)) ∧ w'.cell? (ld.add (i * 2)) = some (.int .i64 ke)) (ds := []) #[false, false, false, false, false, false, false, false, false, false, false, false, false, false, false, false, false, false, false, false] (by kernel_rfl) rfl rfl ⟨HK.out.1, HK.out.2.1, HK.out.2.2⟩ (fun hHeld => ?_)
          refine pure_ (i := 0) (N := some 56) (v := ?_) (a' := ?_) #[true, false, false, false, false, false, false, false, false, false, false, false, false, false, false, false, false, false, false, false] rfl rfl (by kernel_rfl) (fun _ _ _ h => h) (Or.inl ⟨by rfl, ?_⟩) ?_ ?_
          rotate_left
          · intro w'
            go_simp
            with_reducible rfl
          rotate_left
          · simp only [Act.put, List.setIfInBounds_toArray, List.set_cons_zero, List.set_cons_succ, i64_w, i32_w]
            rfl
          refine pure_ (i := 1) (N := some 57) (v := ?_) (a' := ?_) #[true, true, false, false, false, false, false, false, false, false, false, false, false, false, false, false, false, false, false, false] rfl rfl (by kernel_rfl) (fun _ _ _ h => h) (Or.inl ⟨by rfl, ?_⟩) ?_ ?_
          rotate_left
          · intro w'
            go_simp
            with_reducible rfl
          rotate_left
          · simp only [Act.put, List.setIfInBounds_toArray, List.set_cons_zero, List.set_cons_succ, i64_w, i32_w]
            rfl
          refine pure_ (i := 2) (N := some 58) (v := ?_) (a' := ?_) #[true, true, true, false, false, false, false, false, false, false, false, false, false, false, false, false, false, false, false, false] rfl rfl (by kernel_rfl) (fun _ _ _ h => h) (Or.inl ⟨by rfl, ?_⟩) ?_ ?_
          rotate_left
          · intro w'
            go_simp
            with_reducible rfl
          rotate_left
          · simp only [Act.put, List.setIfInBounds_toArray, List.set_cons_zero, List.set_cons_succ, i64_w, i32_w]
            rfl
          refine pure_ (i := 3) (N := some 59) (v := ?_) (a' := ?_) #[true, true, true, true, false, false, false, false, false, false, false, false, false, false, false, false, false, false, false, false] rfl rfl (by kernel_rfl) (fun _ _ _ h => h) (Or.inl ⟨by rfl, ?_⟩) ?_ ?_
          rotate_left
          · intro w'
            go_simp
            with_reducible rfl
          rotate_left
          · simp only [Act.put, List.setIfInBounds_toArray, List.set_cons_zero, List.set_cons_succ, i64_w, i32_w]
            rfl
          refine pure_ (i := 5) (N := some 61) (v := ?_) (a' := ?_) #[true, true, true, true, false, true, false, false, false, false, false, false, false, false, false, false, false, false, false, false] rfl rfl (by kernel_rfl) (fun _ _ _ h => h) (Or.inl ⟨by rfl, ?_⟩) ?_ ?_
          rotate_left
          · intro w'
            go_simp
            with_reducible rfl
          rotate_left
          · simp only [Act.put, List.setIfInBounds_toArray, List.set_cons_zero, List.set_cons_succ, i64_w, i32_w]
            rfl
          refine pure_ (i := 6) (N := some 62) (v := ?_) (a' := ?_) #[true, true, true, true, false, true, true, false, false, false, false, false, false, false, false, false, false, false, false, false] rfl rfl (by kernel_rfl) (fun _ _ _ h => h) (Or.inl ⟨by rfl, ?_⟩) ?_ ?_
          rotate_left
          · intro w'
            go_simp
            with_reducible rfl
          rotate_left
          · simp only [Act.put, List.setIfInBounds_toArray, List.set_cons_zero, List.set_cons_succ, i64_w, i32_w]
            rfl
          refine pure_ (i := 7) (N := some 63) (v := ?_) (a' := ?_) #[true, true, true, true, false, true, true, true, false, false, false, false, false, false, false, false, false, false, false, false] rfl rfl (by kernel_rfl) (fun _ _ _ h => h) (Or.inl ⟨by rfl, ?_⟩) ?_ ?_
          rotate_left
          · intro w'
            go_simp
            with_reducible rfl
          rotate_left
          · simp only [Act.put, List.setIfInBounds_toArray, List.set_cons_zero, List.set_cons_succ, i64_w, i32_w]
            rfl
          refine pure_ (i := 8) (N := some 64) (v := ?_) (a' := ?_) #[true, true, true, true, false, true, true, true, true, false, false, false, false, false, false, false, false, false, false, false] rfl rfl (by kernel_rfl) (fun _ _ _ h => h) (Or.inl ⟨by rfl, ?_⟩) ?_ ?_
          rotate_left
          · intro w'
            go_simp
            with_reducible rfl
          rotate_left
          · simp only [Act.put, List.setIfInBounds_toArray, List.set_cons_zero, List.set_cons_succ, i64_w, i32_w]
            rfl
          refine take_ (i := 4) (N := some 60) (v := ?_) (a' := ?_) #[true, true, true, true, true, true, true, true, true, false, false, false, false, false, false, false, false, false, false, false] rfl rfl (by kernel_rfl) (fun _ _ _ h => h) (Or.inl ⟨by rfl, ?_⟩) hHeld ?_ ?_
          rotate_left
          · rintro w' ⟨s0, s1, s2⟩
            go_simp
            with_reducible rfl
          rotate_left
          · simp only [Act.put, List.setIfInBounds_toArray, List.set_cons_zero, List.set_cons_succ, i64_w, i32_w]
            rfl
          refine take_ (i := 9) (N := some 65) (v := ?_) (a' := ?_) #[true, true, true, true, true, true, true, true, true, true, false, false, false, false, false, false, false, false, false, false] rfl rfl (by kernel_rfl) (fun _ _ _ h => h) (Or.inl ⟨by rfl, ?_⟩) hHeld ?_ ?_
          rotate_left
          · rintro w' ⟨s0, s1, s2⟩
            go_simp
            with_reducible rfl
          rotate_left
          · simp only [Act.put, List.setIfInBounds_toArray, List.set_cons_zero, List.set_cons_succ, i64_w, i32_w]
            rfl
          refine pure_ (i := 10) (N := some 66) (v := ?_) (a' := ?_) #[true, true, true, true, true, true, true, true, true, true, true, false, false, false, false, false, false, false, false, false] rfl rfl (by kernel_rfl) (fun _ _ _ h => h) (Or.inl ⟨by rfl, ?_⟩) ?_ ?_
          rotate_left
          · intro w'
            go_simp
            with_reducible rfl
          rotate_left
          · simp only [Act.put, List.setIfInBounds_toArray, List.set_cons_zero, List.set_cons_succ, i64_w, i32_w]
            rfl
          refine pure_ (i := 11) (N := some 67) (v := ?_) (a' := ?_) #[true, true, true, true, true, true, true, true, true, true, true, true, false, false, false, false, false, false, false, false] rfl rfl (by kernel_rfl) (fun _ _ _ h => h) (Or.inl ⟨by rfl, ?_⟩) ?_ ?_
          rotate_left
          · intro w'
            go_simp
            with_reducible rfl
          rotate_left
          · simp only [Act.put, List.setIfInBounds_toArray, List.set_cons_zero, List.set_cons_succ, i64_w, i32_w]
            rfl
          refine pure_ (i := 12) (N := some 68) (v := ?_) (a' := ?_) #[true, true, true, true, true, true, true, true, true, true, true, true, true, false, false, false, false, false, false, false] rfl rfl (by kernel_rfl) (fun _ _ _ h => h) (Or.inl ⟨by rfl, ?_⟩) ?_ ?_
          rotate_left
          · intro w'
            go_simp
            with_reducible rfl
          rotate_left
          · simp only [Act.put, List.setIfInBounds_toArray, List.set_cons_zero, List.set_cons_succ, i64_w, i32_w]
            rfl
          refine pure_ (i := 13) (N := some 69) (v := ?_) (a' := ?_) #[true, true, true, true, true, true, true, true, true, true, true, true, true, true, false, false, false, false, false, false] rfl rfl (by kernel_rfl) (fun _ _ _ h => h) (Or.inl ⟨by rfl, ?_⟩) ?_ ?_
          rotate_left
          · intro w'
            go_simp
            with_reducible rfl
          rotate_left
          · simp only [Act.put, List.setIfInBounds_toArray, List.set_cons_zero, List.set_cons_succ, i64_w, i32_w]
            rfl
          refine pure_ (i := 14) (N := some 70) (v := ?_) (a' := ?_) #[true, true, true, true, true, true, true, true, true, true, true, true, true, true, true, false, false, false, false, false] rfl rfl (by kernel_rfl) (fun _ _ _ h => h) (Or.inl ⟨by rfl, ?_⟩) ?_ ?_
          rotate_left
          · intro w'
            go_simp
            with_reducible rfl
          rotate_left
          · simp only [Act.put, List.setIfInBounds_toArray, List.set_cons_zero, List.set_cons_succ, i64_w, i32_w]
            rfl
          refine pure_ (i := 15) (N := some 71) (v := ?_) (a' := ?_) #[true, true, true, true, true, true, true, true, true, true, true, true, true, true, true, true, false, false, false, false] rfl rfl (by kernel_rfl) (fun _ _ _ h => h) (Or.inl ⟨by rfl, ?_⟩) ?_ ?_
          rotate_left
          · intro w'
            go_simp
            with_reducible rfl
          rotate_left
          · simp only [Act.put, List.setIfInBounds_toArray, List.set_cons_zero, List.set_cons_succ, i64_w, i32_w]
            rfl
          refine pure_ (i := 17) (N := some 73) (v := ?_) (a' := ?_) #[true, true, true, true, true, true, true, true, true, true, true, true, true, true, true, true, false, true, false, false] rfl rfl (by kernel_rfl) (fun _ _ _ h => h) (Or.inl ⟨by rfl, ?_⟩) ?_ ?_
          rotate_left
          · intro w'
            go_simp
            with_reducible rfl
          rotate_left
          · simp only [Act.put, List.setIfInBounds_toArray, List.set_cons_zero, List.set_cons_succ, i64_w, i32_w]
            rfl
          refine take_ (i := 16) (N := some 72) (v := ?_) (a' := ?_) #[true, true, true, true, true, true, true, true, true, true, true, true, true, true, true, true, true, true, false, false] rfl rfl (by kernel_rfl) (fun _ _ _ h => h) (Or.inl ⟨by rfl, ?_⟩) hHeld ?_ ?_
          rotate_left
          · rintro w' ⟨s0, s1, s2⟩
            go_simp
            with_reducible rfl
          rotate_left
          · simp only [Act.put, List.setIfInBounds_toArray, List.set_cons_zero, List.set_cons_succ, i64_w, i32_w]
            rfl
          refine pure_ (i := 18) (N := some 74) (v := ?_) (a' := ?_) #[true, true, true, true, true, true, true, true, true, true, true, true, true, true, true, true, true, true, true, false] rfl rfl (by kernel_rfl) (fun _ _ _ h => h) (Or.inl ⟨by rfl, ?_⟩) ?_ ?_
          rotate_left
          · intro w'
            go_simp
            with_reducible rfl
          rotate_left
          · simp only [Act.put, List.setIfInBounds_toArray, List.set_cons_zero, List.set_cons_succ, i64_w, i32_w]
            rfl
          refine pure_ (i := 19) (N := some 75) (v := ?_) (a' := ?_) #[true, true, true, true, true, true, true, true, true, true, true, true, true, true, true, true, true, true, true, true] rfl rfl (by kernel_rfl) (fun _ _ _ h => h) (Or.inl ⟨by rfl, ?_⟩) ?_ ?_
          rotate_left
          · intro w'
            go_simp
            with_reducible rfl
          rotate_left
          · simp only [Act.put, List.setIfInBounds_toArray, List.set_cons_zero, List.set_cons_succ, i64_w, i32_w]
            rfl
          refine done_ (by kernel_rfl) ?_
          go_wp2_with fail
          go_roundg k
          case measure => omega
          case rel => exact ⟨i + 1, by go_num, ⟨by have := HDi.out; omega⟩, by omega, ⟨World.grownBy.trans HG11.out (gb_drew _ none)⟩⟩
    | succ k =>
      have hlt : j < n := by have := HD.out; omega
      have hb1 : decide (j < n) = true := decide_eq_true hlt
      have hfr : wr.frozen? ⟨gx, j * 2 + 1, none⟩ = false := HX5.out.frozenAt _
      obtain ⟨x, hx⟩ : ∃ x, ls[j]? = some x := ⟨_, List.getElem?_eq_getElem (by have := HLn.out; omega)⟩
      obtain ⟨v, hv⟩ : ∃ v, wr.cell? ⟨gx, j * 2 + 1, none⟩ = some v := by
        refine ⟨.int .i64 x.2, ?_⟩
        rw [HX5.out.cellAt _ (by omega)]
        exact (flat_at Et _ j 1 x (stL_at hx) (by decide)).trans rfl
      have HX6 := Aside0.mk (HX5.out.stored (j * 2 + 1) (.int .i64 j))
      have e6 : (flat Et (stL ls j)).set (j * 2 + 1) (.int .i64 j) = flat Et (stL ls (j + 1)) := (flat_set Et _ j 1 x (x.1, (j : Int)) _ (stL_at hx) (by decide) rfl).trans (by rw [stL_step hx])
      rw [e6] at HX6
      go_wp2_with fail
      go_roundg k
      case measure => omega
      case rel => exact ⟨j + 1, by go_num, ⟨by have := HD.out; omega⟩, by omega, ⟨HX6.out.1⟩, ⟨World.grownBy.trans HG5.out HX6.out.2⟩⟩
end Go.Proofs.Ytodibpddlibneaa.S
