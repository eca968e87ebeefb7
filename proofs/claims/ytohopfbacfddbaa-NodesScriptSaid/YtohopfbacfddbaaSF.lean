/- Lists that are lent; what the lists that were handed out must read as. Conditions: each theorem's own. -/
import Derived.Test.YtohopfbacfddbaaSE
namespace Go.Proofs.Ytohopfbacfddbaa.S
open Go.RowKit Go.Proofs.YtohopfbacfddbaaW.PrintWords Go.Proofs.YtohopfbacfddbaaW.PrintLast Go.Proofs.Ytohopfbacfddbaa.H
open Go.Proofs.Ytohopfbacfddbaa.N hiding gb_setCell gb_drewN gb_drew gb_refl gb_any gb_of_below below_of_gb below_gb own_open ne_of_ge cut_at
set_option linter.unusedVariables false
set_option linter.unusedSimpArgs false
/-- A list of the call's own. -/
def NewL (w : World) (xs : List Int) (e : Ending) (w' : World) : Prop := ∃ A c, e = .returned (.slice A xs.length c) ∧ w'.ownsRow w.heap.size 3 (Ei .i64).sz (.slice A xs.length c) xs.length (flat (Ei .i64) xs) ∧ w.grownBy w' none
set_option maxHeartbeats 8000000 in
set_option maxRecDepth 100000 in
theorem lent_calls (w : World) (D : Option Addr) (n d : Nat) (xs : List Int) (hr : Rd (Ei .i64) w D n xs) (hb : (n + 2) * 8 ≤ 140737488355328) :
    Calls Try.prog 25 #[.slice D n d] w (NewL w (xs ++ [-77, -78])) := by
  have HN := Aside0.mk hr.1
  have HO0 := Aside0.mk (show (w.alloc (.cells #[] 3)).ownsRow w.heap.size 3 (Ei .i64).sz (.slice (some ⟨w.heap.size, 0, none⟩) 0 0) 0 (flat (Ei .i64) []) from World.ownsRow_lit w #[] 0 (Nat.le_refl _) (by simp [maxLen]) (by simp))
  have HR0 := Aside0.mk (hr.gb (World.grownBy_alloc w (.cells #[] 3) none))
  have HG0 := Aside0.mk (World.grownBy_alloc w (.cells #[] 3) none)
  clear hr
  go_enter Try.func25, Try.ntmps25
  go_wp2_with (first | (at_builtin; refine app (Ei .i64) w.heap.size rfl (.tmp 5) (.tmp 6) 22 3 (.int .i64 0) 8 rfl Try.underlying22 (by kernel_rfl) rfl (by decide) (.slice (some ⟨w.heap.size, 0, none⟩) 0 0) 0 [] xs _ n _ rfl rfl rfl HO0.out HR0.out (by simp) (by omega) ?_; intro v1 w1 ho hg _; rw [List.nil_append, Nat.zero_add] at ho; obtain ⟨A1, c1, rfl, -, -, -⟩ := own_open HN.out ho; have HG1 := Aside0.mk (gb_row HG0.out hg (fun k hk => by simp [Value.ownBlock] at hk; omega)); have HO1 := Aside0.mk (own_kept ho (World.grownBy_alloc w1 (.cells #[.int .i64 (-77), .int .i64 (-78)] 3) none) (by simp)); have HR1 := Aside0.mk (show Rd (Ei .i64) (w1.alloc (.cells #[.int .i64 (-77), .int .i64 (-78)] 3)) (some ⟨w1.heap.size, 0, none⟩) 2 [-77, -78] from rd_lit (Ei .i64) w1 3 [-77, -78] (by simp)); have HS1 : Aside0 (w.heap.size ≤ (w1.alloc (.cells #[.int .i64 (-77), .int .i64 (-78)] 3)).heap.size) := ⟨by have := HG1.out.size; simp; omega⟩; clear ho hg HO0 HR0 HG0) | (at_builtin; refine app (Ei .i64) w.heap.size rfl (.tmp 8) (.tmp 9) 22 3 (.int .i64 0) 8 rfl Try.underlying22 (by kernel_rfl) rfl (by decide) (.slice A1 n c1) n xs [-77, -78] _ 2 _ rfl rfl HN.out HO1.out HR1.out HS1.out (by omega) ?_; intro v2 w2 ho hg _; have hl2 : (xs ++ [-77, -78]).length = n + 2 := (by rw [List.length_append, HN.out]; rfl); obtain ⟨A2, c2, rfl, -, -, -⟩ := own_open hl2 ho; have HL2 := Aside0.mk hl2; have HO2 := Aside0.mk ho; have HG2 := Aside0.mk (gb_row (World.grownBy.trans HG1.out (World.grownBy_alloc w1 _ none)) hg (fun k hk => (HO1.out.lt k hk).1)); clear ho hg hl2))
  go_ret
  have hl := HL2.out
  have ho := HO2.out
  rw [← hl] at ho
  exact ⟨A2, c2, by rw [hl]; rfl, ho, HG2.out⟩
set_option maxHeartbeats 8000000 in
set_option maxRecDepth 100000 in
theorem still_calls (w : World) (P lb c n : Nat) (D : Option Addr) (d : Nat) (xs : List Int) (hN : n + 2 ≤ 140737488355328) (ho : w.ownsRow P 3 (Ei .i64).sz (.slice (some ⟨lb, 0, none⟩) (n + 2) c) (n + 2) (flat (Ei .i64) (xs ++ [-77, -78]))) (hr : Rd (Ei .i64) w D n xs) :
    Calls Try.prog 28 #[.slice (some ⟨lb, 0, none⟩) (n + 2 : Nat) c, .slice D n d] w fun e w' => e = .returned (.bool true) ∧ Tn w w' (fun k => k = lb) := by
  have hxl := hr.1
  have hln : (xs ++ [-77, -78]).length = n + 2 := by rw [List.length_append, hxl]; rfl
  have hRL := (own_rd hln ho)
  have hc := (own_form ho).1
  have HC := Aside0.mk (sameInts_calls w (some ⟨lb, 0, none⟩) D n n c d xs xs (by
    have := ints_rd (hRL.take_ n (by omega))
    rwa [List.take_append_of_le_length (by omega), List.take_of_length_le (by omega)] at this) (ints_rd hr))
  rw [decide_eq_true rfl] at HC
  have HO := Aside0.mk ho
  have HX0 := Aside0.mk (show (xs ++ [-77, -78])[n]? = some (-77) by rw [List.getElem?_append_right (by omega), hxl, Nat.sub_self]; rfl)
  have HX1 := Aside0.mk (show (xs ++ [-77, -78])[n + 1]? = some (-78) by rw [List.getElem?_append_right (by omega), hxl, Nat.add_sub_cancel_left]; rfl)
  have HLN := Aside0.mk hln
  have hnc : n ≤ c := by omega
  clear ho hr hln hRL hxl
  go_enter Try.func28, Try.ntmps28
  go_wp2_with fail
  refine (HC.out).mono ?_
  rintro e w1 ⟨rfl, hg⟩
  have HG1 := Aside0.mk (Tn.gb0 hg (fun k => k = lb))
  have HO1 := Aside0.mk (own_kept HO.out hg (by simp))
  have hc0 : w1.cell? ⟨lb, n, none⟩ = some (.int .i64 (-77)) := by
    have := own_cell HO1.out n 0 _ HX0.out (by decide) _ rfl
    simpa [Ei] using this
  have hc1 : w1.cell? ⟨lb, n + 1, none⟩ = some (.int .i64 (-78)) := by
    have := own_cell HO1.out (n + 1) 0 _ HX1.out (by decide) _ rfl
    simpa [Ei] using this
  clear hg
  go_wp2_with fail
  go_loopg [7] (n + 2) (fun k v7 wr => ∃ (j : Nat) (ys : List Int), v7 = .int .i64 j ∧ Aside0 (j + k = n + 2) ∧ j ≤ n + 2 ∧ Aside0 (wr.ownsRow P 3 (Ei .i64).sz (.slice (some ⟨lb, 0, none⟩) (n + 2) c) (n + 2) (flat (Ei .i64) ys)) ∧ Aside0 (ys.length = n + 2) ∧ Aside0 (Tn w wr (fun k => k = lb)))
  case atStart => exact ⟨0, _, rfl, ⟨by omega⟩, by omega, HO1, HLN, HG1⟩
  case round =>
    clear HO1 HG1 hc0 hc1
    obtain ⟨j, ys, rfl, HD, hj, HO1, HLY, HG1⟩ := hrel
    cases gk with
    | zero =>
      obtain rfl : j = n + 2 := by have := HD.out; omega
      go_wp2
      go_ret
      exact ⟨rfl, HG1.out⟩
    | succ d =>
      have hlt : j < n + 2 := by have := HD.out; omega
      have hlt1 : decide ((j : Int) < n + 2) = true := decide_eq_true (by omega)
      have hlt2 : (j : Int) < (n : Int) + 2 := by omega
      have hly : j < ys.length := by rw [HLY.out]; exact hlt
      have hcj : wr.cell? ⟨lb, j, none⟩ = some (.int .i64 ys[j]) := by
        have := own_cell HO1.out j 0 _ (List.getElem?_eq_getElem hly) (by decide) _ rfl
        simpa [Ei] using this
      have HP := Aside0.mk (show (wr.setCell ⟨lb, j, none⟩ (.int .i64 5)).ownsRow P 3 (Ei .i64).sz (.slice (some ⟨lb, 0, none⟩) (n + 2) c) (n + 2) (flat (Ei .i64) (ys.set j 5)) by
        have := own_put HO1.out j 0 _ 5 (.int .i64 5) (List.getElem?_eq_getElem hly) (by decide) rfl
        simpa [Ei] using this)
      have hf := own_frozen HO1.out j
      go_wp2
      go_roundg d
      case measure => omega
      case rel => exact ⟨j + 1, ys.set j 5, by go_num, ⟨by have := HD.out; omega⟩, by omega, HP, ⟨by rw [List.length_set]; exact HLY.out⟩, ⟨HG1.out.trans' (Tn.set lb j _ rfl)⟩⟩
/-- A list that was handed out. -/
structure Sl where
  A : Option Addr
  n : Nat
  c : Nat
  xs : List Int
def Es : Enc Sl := ⟨1, fun s => [.slice s.A s.n s.c], fun _ => rfl, fun _ v hv => by simp at hv; subst hv; rfl, by decide⟩
/-- The lists that were handed out, and what they must read as, are read. -/
structure Look (w : World) (h : Nat) (OA : Option Addr) (oc : Nat) (WA : Option Addr) (wc : Nat) (os ws : List Sl) : Prop where
  blk : w.heap[h]? = some (.cells #[.slice OA os.length oc, .slice WA ws.length wc] 43 (0, 0))
  ro : Rd Es w OA os.length os
  rw_ : Rd Es w WA ws.length ws
  eq : os.map Sl.xs = ws.map Sl.xs
  so : ∀ s ∈ os, Rd (Ei .i64) w s.A s.n s.xs
  sw : ∀ s ∈ ws, Rd (Ei .i64) w s.A s.n s.xs
theorem Look.len {w h OA oc WA wc os ws} (k : Look w h OA oc WA wc os ws) : os.length = ws.length := by
  have := congrArg List.length k.eq; simpa using this
theorem Look.gb {w w' h OA oc WA wc os ws} (k : Look w h OA oc WA wc os ws) (hg : w.grownBy w' none) : Look w' h OA oc WA wc os ws :=
  ⟨blk_kept k.blk hg (by simp), k.ro.gb hg, k.rw_.gb hg, k.eq, fun s hs => (k.so s hs).gb hg, fun s hs => (k.sw s hs).gb hg⟩
theorem Look.c0 {w h OA oc WA wc os ws} (k : Look w h OA oc WA wc os ws) : w.cell? ⟨h, 0, none⟩ = some (.slice OA os.length oc) := cell_of k.blk rfl
theorem Look.c1 {w h OA oc WA wc os ws} (k : Look w h OA oc WA wc os ws) : w.cell? ⟨h, 1, none⟩ = some (.slice WA os.length wc) := by rw [k.len]; exact cell_of k.blk rfl
theorem Look.xs_at {w h OA oc WA wc os ws} (k : Look w h OA oc WA wc os ws) {j : Nat} {s t : Sl} (hs : os[j]? = some s) (ht : ws[j]? = some t) : s.xs = t.xs := by
  have h1 : (os.map Sl.xs)[j]? = some s.xs := by rw [List.getElem?_map, hs]; rfl
  have h2 : (ws.map Sl.xs)[j]? = some t.xs := by rw [List.getElem?_map, ht]; rfl
  rw [k.eq, h2] at h1
  exact (Option.some.inj h1).symm
theorem es_at {w : World} {A : Option Addr} {n : Nat} {os : List Sl} (h : Rd Es w A n os) {j : Nat} {s : Sl} (hs : os[j]? = some s) : ∃ ad, A = some ad ∧ w.cell? (ad.add j) = some (.slice s.A s.n s.c) := by
  have hj : j < n := by have := (List.getElem?_eq_some_iff.1 hs).1; rw [h.1] at this; exact this
  obtain ⟨ad, x, e, hx, hc⟩ := h.at_ j hj
  obtain rfl : x = s := Option.some.inj (hx.symm.trans hs)
  have := hc 0 _ rfl
  exact ⟨ad, e, by simpa [Es] using this⟩
theorem es_cell {w : World} {ad : Addr} {n : Nat} {os : List Sl} (h : Rd Es w (some ad) n os) {j : Nat} {s : Sl} (hs : os[j]? = some s) : w.cell? (ad.add j) = some (.slice s.A s.n s.c) := by
  obtain ⟨a, e, hc⟩ := es_at h hs
  obtain rfl : ad = a := Option.some.inj e
  exact hc
set_option maxHeartbeats 8000000 in
set_option maxRecDepth 100000 in
theorem holds_calls (w : World) (h : Nat) (OA : Option Addr) (oc : Nat) (WA : Option Addr) (wc : Nat) (os ws : List Sl) (hk : Look w h OA oc WA wc os ws) :
    Calls Try.prog 17 #[.pointer (some ⟨h, 0, none⟩)] w fun e w' => e = .returned (.bool true) ∧ w.grownBy w' none := by
  have HL := Aside0.mk hk
  have HLen := Aside0.mk hk.len
  obtain ⟨n, hn⟩ : ∃ n, n = os.length := ⟨_, rfl⟩
  have HN := Aside0.mk hn
  have hN := hk.ro.2.1
  rw [← hn] at hN
  clear hk hn
  go_enter Try.func17, Try.ntmps17
  go_wp2_with fail
  go_loopg [3] n (fun k v3 wr => ∃ (j : Nat), v3 = .int .i64 j ∧ Aside0 (j + k = n) ∧ j ≤ n ∧ Aside0 (w.grownBy wr none))
  case atStart => exact ⟨0, rfl, ⟨by omega⟩, by omega, ⟨gb_refl _ _⟩⟩
  case round =>
    obtain ⟨j, rfl, HD, hj, HG⟩ := hrel
    have HL1 := Aside0.mk (HL.out.gb HG.out)
    have hc0 := HL1.out.c0
    rw [← HN.out] at hc0
    cases gk with
    | zero =>
      obtain rfl : j = n := by have := HD.out; omega
      go_wp2
      go_ret
      exact ⟨rfl, HG.out⟩
    | succ d =>
      have hlt : j < n := by have := HD.out; omega
      have hlt1 : decide ((j : Int) < n) = true := decide_eq_true (by omega)
      have hji : (j : Int) < (n : Int) := by omega
      obtain ⟨s, hs⟩ : ∃ s, os[j]? = some s := ⟨_, List.getElem?_eq_getElem (by rw [← HN.out]; exact hlt)⟩
      obtain ⟨t, ht⟩ : ∃ t, ws[j]? = some t := ⟨_, List.getElem?_eq_getElem (by rw [← HLen.out, ← HN.out]; exact hlt)⟩
      have HS := Aside0.mk hs
      have HT := Aside0.mk ht
      obtain ⟨ao, rfl, -⟩ := es_at HL1.out.ro hs
      obtain ⟨aw, rfl, -⟩ := es_at HL1.out.rw_ ht
      have HLd := Aside0.mk (HL1.out.gb (gb_drew wr none))
      have HGd := Aside0.mk (World.grownBy.trans HG.out (gb_drew wr none))
      have HC := Aside0.mk (sameInts_calls wr.drew s.A t.A s.n t.n s.c t.c s.xs t.xs (ints_rd (HLd.out.so s (List.mem_of_getElem? hs))) (ints_rd (HLd.out.sw t (List.mem_of_getElem? ht))))
      rw [HL1.out.xs_at hs ht, decide_eq_true rfl] at HC
      have HC0 := Aside0.mk (show wr.drew.cell? ⟨h, 0, none⟩ = some (.slice (some ao) n oc) by rw [HN.out]; exact HLd.out.c0)
      have HC1 := Aside0.mk (show wr.drew.cell? ⟨h, 1, none⟩ = some (.slice (some aw) n wc) by rw [HN.out]; exact HLd.out.c1)
      clear hs ht
      go_wp2_with fail
      refine start_ (n := 16) (S := fun w' => w'.cell? ⟨h, 0, none⟩ = some (.slice (some ao) n oc) ∧ w'.cell? ⟨h, 1, none⟩ = some (.slice (some aw) n wc) ∧ w'.cell? (ao.add j) = some (.slice s.A s.n s.c) ∧ w'.cell? (aw.add j) = some (.slice t.A t.n t.c)) (ds := []) #[false, false, false, false, false, false, false, false, false, false, false, false, false, false, false, false] (by kernel_rfl) rfl rfl ⟨HC0.out, HC1.out, es_cell HLd.out.ro HS.out, es_cell HLd.out.rw_ HT.out⟩ (fun hHeld => ?_)
      refine pure_ (i := 0) (N := some 13) (v := ?_) (a' := ?_) #[true, false, false, false, false, false, false, false, false, false, false, false, false, false, false, false] rfl rfl (by kernel_rfl) (fun _ _ _ h => h) (Or.inl ⟨by rfl, ?_⟩) ?_ ?_
      rotate_left
      · intro w'
        go_simp
        with_reducible rfl
      rotate_left
      · simp only [Act.put, List.setIfInBounds_toArray, List.set_cons_zero, List.set_cons_succ, i64_w, i32_w]
        rfl
      refine pure_ (i := 1) (N := some 14) (v := ?_) (a' := ?_) #[true, true, false, false, false, false, false, false, false, false, false, false, false, false, false, false] rfl rfl (by kernel_rfl) (fun _ _ _ h => h) (Or.inl ⟨by rfl, ?_⟩) ?_ ?_
      rotate_left
      · intro w'
        go_simp
        with_reducible rfl
      rotate_left
      · simp only [Act.put, List.setIfInBounds_toArray, List.set_cons_zero, List.set_cons_succ, i64_w, i32_w]
        rfl
      refine pure_ (i := 2) (N := some 15) (v := ?_) (a' := ?_) #[true, true, true, false, false, false, false, false, false, false, false, false, false, false, false, false] rfl rfl (by kernel_rfl) (fun _ _ _ h => h) (Or.inl ⟨by rfl, ?_⟩) ?_ ?_
      rotate_left
      · intro w'
        go_simp
        with_reducible rfl
      rotate_left
      · simp only [Act.put, List.setIfInBounds_toArray, List.set_cons_zero, List.set_cons_succ, i64_w, i32_w]
        rfl
      refine pure_ (i := 4) (N := some 17) (v := ?_) (a' := ?_) #[true, true, true, false, true, false, false, false, false, false, false, false, false, false, false, false] rfl rfl (by kernel_rfl) (fun _ _ _ h => h) (Or.inl ⟨by rfl, ?_⟩) ?_ ?_
      rotate_left
      · intro w'
        go_simp
        with_reducible rfl
      rotate_left
      · simp only [Act.put, List.setIfInBounds_toArray, List.set_cons_zero, List.set_cons_succ, i64_w, i32_w]
        rfl
      refine pure_ (i := 7) (N := some 20) (v := ?_) (a' := ?_) #[true, true, true, false, true, false, false, true, false, false, false, false, false, false, false, false] rfl rfl (by kernel_rfl) (fun _ _ _ h => h) (Or.inl ⟨by rfl, ?_⟩) ?_ ?_
      rotate_left
      · intro w'
        go_simp
        with_reducible rfl
      rotate_left
      · simp only [Act.put, List.setIfInBounds_toArray, List.set_cons_zero, List.set_cons_succ, i64_w, i32_w]
        rfl
      refine pure_ (i := 8) (N := some 21) (v := ?_) (a' := ?_) #[true, true, true, false, true, false, false, true, true, false, false, false, false, false, false, false] rfl rfl (by kernel_rfl) (fun _ _ _ h => h) (Or.inl ⟨by rfl, ?_⟩) ?_ ?_
      rotate_left
      · intro w'
        go_simp
        with_reducible rfl
      rotate_left
      · simp only [Act.put, List.setIfInBounds_toArray, List.set_cons_zero, List.set_cons_succ, i64_w, i32_w]
        rfl
      refine pure_ (i := 9) (N := some 22) (v := ?_) (a' := ?_) #[true, true, true, false, true, false, false, true, true, true, false, false, false, false, false, false] rfl rfl (by kernel_rfl) (fun _ _ _ h => h) (Or.inl ⟨by rfl, ?_⟩) ?_ ?_
      rotate_left
      · intro w'
        go_simp
        with_reducible rfl
      rotate_left
      · simp only [Act.put, List.setIfInBounds_toArray, List.set_cons_zero, List.set_cons_succ, i64_w, i32_w]
        rfl
      refine pure_ (i := 11) (N := some 24) (v := ?_) (a' := ?_) #[true, true, true, false, true, false, false, true, true, true, false, true, false, false, false, false] rfl rfl (by kernel_rfl) (fun _ _ _ h => h) (Or.inl ⟨by rfl, ?_⟩) ?_ ?_
      rotate_left
      · intro w'
        go_simp
        with_reducible rfl
      rotate_left
      · simp only [Act.put, List.setIfInBounds_toArray, List.set_cons_zero, List.set_cons_succ, i64_w, i32_w]
        rfl
      refine take_ (i := 3) (N := some 16) (v := ?_) (a' := ?_) #[true, true, true, true, true, false, false, true, true, true, false, true, false, false, false, false] rfl rfl (by kernel_rfl) (fun _ _ _ h => h) (Or.inl ⟨by rfl, ?_⟩) hHeld ?_ ?_
      rotate_left
      · rintro w' ⟨s0, s1, s2, s3⟩
        go_simp
        with_reducible rfl
      rotate_left
      · simp only [Act.put, List.setIfInBounds_toArray, List.set_cons_zero, List.set_cons_succ, i64_w, i32_w]
        rfl
      refine pure_ (i := 5) (N := some 18) (v := ?_) (a' := ?_) #[true, true, true, true, true, true, false, true, true, true, false, true, false, false, false, false] rfl rfl (by kernel_rfl) (fun _ _ _ h => h) (Or.inl ⟨by rfl, ?_⟩) ?_ ?_
      rotate_left
      · intro w'
        go_simp
        with_reducible rfl
      rotate_left
      · simp only [Act.put, List.setIfInBounds_toArray, List.set_cons_zero, List.set_cons_succ, i64_w, i32_w]
        rfl
      refine take_ (i := 6) (N := some 19) (v := ?_) (a' := ?_) #[true, true, true, true, true, true, true, true, true, true, false, true, false, false, false, false] rfl rfl (by kernel_rfl) (fun _ _ _ h => h) (Or.inl ⟨by rfl, ?_⟩) hHeld ?_ ?_
      rotate_left
      · rintro w' ⟨s0, s1, s2, s3⟩
        go_simp
        with_reducible rfl
      rotate_left
      · simp only [Act.put, List.setIfInBounds_toArray, List.set_cons_zero, List.set_cons_succ, i64_w, i32_w]
        rfl
      refine take_ (i := 10) (N := some 23) (v := ?_) (a' := ?_) #[true, true, true, true, true, true, true, true, true, true, true, true, false, false, false, false] rfl rfl (by kernel_rfl) (fun _ _ _ h => h) (Or.inl ⟨by rfl, ?_⟩) hHeld ?_ ?_
      rotate_left
      · rintro w' ⟨s0, s1, s2, s3⟩
        go_simp
        with_reducible rfl
      rotate_left
      · simp only [Act.put, List.setIfInBounds_toArray, List.set_cons_zero, List.set_cons_succ, i64_w, i32_w]
        rfl
      refine pure_ (i := 12) (N := some 25) (v := ?_) (a' := ?_) #[true, true, true, true, true, true, true, true, true, true, true, true, true, false, false, false] rfl rfl (by kernel_rfl) (fun _ _ _ h => h) (Or.inl ⟨by rfl, ?_⟩) ?_ ?_
      rotate_left
      · intro w'
        go_simp
        with_reducible rfl
      rotate_left
      · simp only [Act.put, List.setIfInBounds_toArray, List.set_cons_zero, List.set_cons_succ, i64_w, i32_w]
        rfl
      refine take_ (i := 13) (N := some 26) (v := ?_) (a' := ?_) #[true, true, true, true, true, true, true, true, true, true, true, true, true, true, false, false] rfl rfl (by kernel_rfl) (fun _ _ _ h => h) (Or.inl ⟨by rfl, ?_⟩) hHeld ?_ ?_
      rotate_left
      · rintro w' ⟨s0, s1, s2, s3⟩
        go_simp
        with_reducible rfl
      rotate_left
      · simp only [Act.put, List.setIfInBounds_toArray, List.set_cons_zero, List.set_cons_succ, i64_w, i32_w]
        rfl
      refine one_ (i := 14) (N := some 27) #[true, true, true, true, true, true, true, true, true, true, true, true, true, true, true, false] rfl rfl (by kernel_rfl) (by decide) (fun K hK => ?_)
      refine goes_ Try.func11 (by kernel_rfl) rfl #[.slice s.A s.n s.c, .slice t.A t.n t.c] (by rfl) rfl rfl (by simp only [List.map_toArray, List.map_cons, List.map_nil]; try rfl) ?_
      with_reducible refine (HC.out).mono ?_
      rintro e w3 ⟨rfl, hg⟩
      refine ⟨_, rfl, ?_⟩
      have HG3 := Aside0.mk (World.grownBy.trans HGd.out hg); have HL3 := Aside0.mk (HLd.out.gb hg); have HC03 := Aside0.mk (hg.cell HC0.out (by simp)); have HC13 := Aside0.mk (hg.cell HC1.out (by simp)); clear hg HC HGd HLd HC0 HC1
      refine hK.out _ _ ⟨HC03.out, HC13.out, es_cell HL3.out.ro HS.out, es_cell HL3.out.rw_ HT.out⟩ (fun hHeld => ?_)
      clear hK K
      refine norm_ (a' := ?_) ?_ ?_
      rotate_left
      · show Act.put _ (some 27) _ = _
        simp only [Act.put, List.setIfInBounds_toArray, List.set_cons_zero, List.set_cons_succ, i64_w, i32_w]
        rfl
      refine pure_ (i := 15) (N := some 28) (v := ?_) (a' := ?_) #[true, true, true, true, true, true, true, true, true, true, true, true, true, true, true, true] rfl rfl (by kernel_rfl) (fun _ _ _ h => h) (Or.inl ⟨by rfl, ?_⟩) ?_ ?_
      rotate_left
      · intro w'
        go_simp
        with_reducible rfl
      rotate_left
      · simp only [Act.put, List.setIfInBounds_toArray, List.set_cons_zero, List.set_cons_succ, i64_w, i32_w]
        rfl
      refine done_ (by kernel_rfl) ?_
      go_wp2_with fail
      go_roundg d
      case measure => omega
      case rel => exact ⟨j + 1, by go_num, ⟨by have := HD.out; omega⟩, by omega, HG3⟩
end Go.Proofs.Ytohopfbacfddbaa.S
