/- NodesScript, walked: any script, at two machines that are. Conditions: each theorem's own. -/
import Derived.Test.YtohopfbacfddbaaST
namespace Go.Proofs.Ytohopfbacfddbaa.S
open Go.RowKit Go.Proofs.YtohopfbacfddbaaW.PrintWords Go.Proofs.YtohopfbacfddbaaW.PrintLast Go.Proofs.Ytohopfbacfddbaa.H
open Go.Proofs.Ytohopfbacfddbaa.N hiding gb_setCell gb_drewN gb_drew gb_refl gb_any gb_of_below below_of_gb below_gb own_open ne_of_ge cut_at
set_option linter.unusedVariables false
set_option linter.unusedSimpArgs false
theorem same_true (w : World) (A B : Option Addr) (n c d : Nat) (xs : List Int) (hx : ReadsInt w .i64 A n xs) (hy : ReadsInt w .i64 B n xs) :
    Calls Try.prog 11 #[.slice A n c, .slice B n d] w fun e w' => e = .returned (.bool true) ∧ w.grownBy w' none := by
  have := sameInts_calls w A B n n c d xs xs hx hy
  rwa [decide_eq_true rfl] at this
theorem new_ex (w : World) (n : Nat) (h0 : 1 ≤ n) (h1 : n ≤ 256) :
    Calls Try.prog 7 #[.int .i64 n] w fun e w' => ∃ g, e = .returned (.tuple #[.pointer (some ⟨g, 0, none⟩), .int .i64 0]) ∧ w.heap.size ≤ g ∧ SetAt w' g n (fun _ => 0) ∧ w.grownBy w' none := by
  refine (New_ok w n h0 h1).mono ?_
  rintro e w' ⟨rfl, a, b⟩
  exact ⟨_, rfl, Nat.le_refl _, a, b⟩
theorem start_st {w w1 w2 w3 w4 w5 : World} {n m g1 r1 ab1 c1 g2 r2 ab2 c2 : Nat} (hn0 : 1 ≤ n) (hm0 : 1 ≤ m) (b1 : Below w.heap.size w w1) (g1l : w1.heap.size ≤ g1) (s1 : SetAt w2 g1 n (fun _ => 0)) (w12 : w1.grownBy w2 none)
    (d1 : RefAt w3 w2.heap.size r1 ab1 n c1 (fun _ => 0)) (w23 : w2.grownBy w3 none) (g2l : w3.heap.size ≤ g2) (s2 : SetAt w4 g2 m (fun _ => 0)) (w34 : w3.grownBy w4 none) (d2 : RefAt w5 w4.heap.size r2 ab2 m c2 (fun _ => 0)) (w45 : w4.grownBy w5 none) :
    ∃ f0 : Nat → Int, St (((w5.alloc (.cells #[.slice none 0 0, .slice none 0 0] 43)).alloc (.cells #[.pointer (some ⟨g1, 0, none⟩), .pointer (some ⟨r1, 0, none⟩)] 45)).alloc (.cells #[.pointer (some ⟨g2, 0, none⟩), .pointer (some ⟨r2, 0, none⟩)] 45)) w.heap.size f0 (-1) (-4) ⟨g1, r1, ab1, n, c1, fun _ => 0⟩ ⟨g2, r2, ab2, m, c2, fun _ => 0⟩ w5.heap.size none 0 none 0 [] [] ∧
      Bp (((w5.alloc (.cells #[.slice none 0 0, .slice none 0 0] 43)).alloc (.cells #[.pointer (some ⟨g1, 0, none⟩), .pointer (some ⟨r1, 0, none⟩)] 45)).alloc (.cells #[.pointer (some ⟨g2, 0, none⟩), .pointer (some ⟨r2, 0, none⟩)] 45)) f0 (w5.heap.size + 1) (w5.heap.size + 1 + 1) ⟨g1, r1, ab1, n, c1, fun _ => 0⟩ ⟨g2, r2, ab2, m, c2, fun _ => 0⟩ ∧ Below w.heap.size w (((w5.alloc (.cells #[.slice none 0 0, .slice none 0 0] 43)).alloc (.cells #[.pointer (some ⟨g1, 0, none⟩), .pointer (some ⟨r1, 0, none⟩)] 45)).alloc (.cells #[.pointer (some ⟨g2, 0, none⟩), .pointer (some ⟨r2, 0, none⟩)] 45)) := by
  have g5 : w5.grownBy (((w5.alloc (.cells #[.slice none 0 0, .slice none 0 0] 43)).alloc (.cells #[.pointer (some ⟨g1, 0, none⟩), .pointer (some ⟨r1, 0, none⟩)] 45)).alloc (.cells #[.pointer (some ⟨g2, 0, none⟩), .pointer (some ⟨r2, 0, none⟩)] 45)) none := ((World.grownBy_alloc w5 _ none).trans (World.grownBy_alloc _ _ none)).trans (World.grownBy_alloc _ _ none)
  have hh : (((w5.alloc (.cells #[.slice none 0 0, .slice none 0 0] 43)).alloc (.cells #[.pointer (some ⟨g1, 0, none⟩), .pointer (some ⟨r1, 0, none⟩)] 45)).alloc (.cells #[.pointer (some ⟨g2, 0, none⟩), .pointer (some ⟨r2, 0, none⟩)] 45)).heap[w5.heap.size]? = some (.cells #[.slice none 0 0, .slice none 0 0] 43 (0, 0)) := by
    rw [heap_alloc_old _ _ (by simp; omega), heap_alloc_old _ _ (by simp)]; exact heap_alloc_new w5 _
  have hp : (((w5.alloc (.cells #[.slice none 0 0, .slice none 0 0] 43)).alloc (.cells #[.pointer (some ⟨g1, 0, none⟩), .pointer (some ⟨r1, 0, none⟩)] 45)).alloc (.cells #[.pointer (some ⟨g2, 0, none⟩), .pointer (some ⟨r2, 0, none⟩)] 45)).heap[w5.heap.size + 1]? = some (.cells #[.pointer (some ⟨g1, 0, none⟩), .pointer (some ⟨r1, 0, none⟩)] 45 (0, 0)) := by
    rw [heap_alloc_old _ _ (by simp)]
    have := heap_alloc_new (w5.alloc (.cells #[.slice none 0 0, .slice none 0 0] 43)) (.cells #[.pointer (some ⟨g1, 0, none⟩), .pointer (some ⟨r1, 0, none⟩)] 45)
    simpa using this
  have hq : (((w5.alloc (.cells #[.slice none 0 0, .slice none 0 0] 43)).alloc (.cells #[.pointer (some ⟨g1, 0, none⟩), .pointer (some ⟨r1, 0, none⟩)] 45)).alloc (.cells #[.pointer (some ⟨g2, 0, none⟩), .pointer (some ⟨r2, 0, none⟩)] 45)).heap[w5.heap.size + 1 + 1]? = some (.cells #[.pointer (some ⟨g2, 0, none⟩), .pointer (some ⟨r2, 0, none⟩)] 45 (0, 0)) := by
    have := heap_alloc_new ((w5.alloc (.cells #[.slice none 0 0, .slice none 0 0] 43)).alloc (.cells #[.pointer (some ⟨g1, 0, none⟩), .pointer (some ⟨r1, 0, none⟩)] 45)) (.cells #[.pointer (some ⟨g2, 0, none⟩), .pointer (some ⟨r2, 0, none⟩)] 45)
    simpa using this
  have z1 := b1.size
  have z2 := w12.size
  have z3 := w23.size
  have z4 := w34.size
  have z5 := w45.size
  have l1 := set_lt s1
  have l2 := d1.lt
  have l3 := d1.abl
  have l4 := set_lt s2
  have l5 := d2.lt
  have l6 := d2.abl
  have b2 := d1.base
  have b3 := d2.base
  have n1 := d1.ne
  have n2 := d2.ne
  obtain ⟨f0, hf⟩ : ∃ f0 : Nat → Int, ∀ k, f0 k = if k < w.heap.size then -1000 else if k = g1 then -1 else if k = r1 then -2 else if k = ab1 then -3 else if k = g2 then -4 else if k = r2 then -5 else if k = ab2 then -6 else if k = w5.heap.size then 0 else -200 := ⟨_, fun _ => rfl⟩
  have w35 : w3.grownBy (((w5.alloc (.cells #[.slice none 0 0, .slice none 0 0] 43)).alloc (.cells #[.pointer (some ⟨g1, 0, none⟩), .pointer (some ⟨r1, 0, none⟩)] 45)).alloc (.cells #[.pointer (some ⟨g2, 0, none⟩), .pointer (some ⟨r2, 0, none⟩)] 45)) none := (w34.trans w45).trans g5
  have d1' := d1.gb w35
  have d2' := d2.gb g5
  refine ⟨f0, ⟨⟨s1.kept (w23.trans w35) (by simp), ⟨d1'.blk, own_mono d1'.own (by omega), d1'.ne, by show w.heap.size ≤ r1; omega, d1'.le⟩, hn0, by show w.heap.size ≤ g1; omega, ?_, ?_, ?_⟩, ⟨s2.kept (w45.trans g5) (by simp), ⟨d2'.blk, own_mono d2'.own (by omega), d2'.ne, by show w.heap.size ≤ r2; omega, d2'.le⟩, hm0, by show w.heap.size ≤ g2; omega, ?_, ?_, ?_⟩, kept_nil hh (by omega) ?_, by simp, fun k hk => by rw [hf, if_pos hk], .inl ⟨rfl, rfl⟩⟩, ⟨hp, hq, ?_, ?_, by omega⟩, ?_⟩
  · show f0 g1 = _; rw [hf, if_neg (by omega), if_pos rfl]
  · show f0 r1 = _; rw [hf, if_neg (by omega), if_neg (by omega), if_pos rfl]; rfl
  · show f0 ab1 = _; rw [hf, if_neg (by omega), if_neg (by omega), if_neg (by omega), if_pos rfl]; rfl
  · show f0 g2 = _; rw [hf, if_neg (by omega), if_neg (by omega), if_neg (by omega), if_neg (by omega), if_pos rfl]
  · show f0 r2 = _; rw [hf, if_neg (by omega), if_neg (by omega), if_neg (by omega), if_neg (by omega), if_neg (by omega), if_pos rfl]; rfl
  · show f0 ab2 = _; rw [hf, if_neg (by omega), if_neg (by omega), if_neg (by omega), if_neg (by omega), if_neg (by omega), if_neg (by omega), if_pos rfl]; rfl
  · rw [hf, if_neg (by omega), if_neg (by omega), if_neg (by omega), if_neg (by omega), if_neg (by omega), if_neg (by omega), if_neg (by omega), if_pos rfl]
  · rw [hf, if_neg (by omega), if_neg (by omega), if_neg (by omega), if_neg (by omega), if_neg (by omega), if_neg (by omega), if_neg (by omega), if_neg (by omega)]
  · rw [hf, if_neg (by omega), if_neg (by omega), if_neg (by omega), if_neg (by omega), if_neg (by omega), if_neg (by omega), if_neg (by omega), if_neg (by omega)]
  · exact below_gb b1 ((w12.trans w23).trans w35) b1.size (by simp)
set_option maxHeartbeats 16000000 in
set_option maxRecDepth 100000 in
theorem Script_ok (w : World) (n m : Nat) (hn0 : 1 ≤ n) (hn1 : n ≤ 256) (hm0 : 1 ≤ m) (hm1 : m ≤ 256) (A : Option Addr) (len cap : Nat) (ls : List OpV) (hops : Ops w A len ls) (hcap : len ≤ cap) (hsz : len * 48 ≤ 140737488351232) :
    Calls Try.prog 5 #[.int .i64 n, .int .i64 m, .slice A len cap] w fun e w' => e = .returned (.bool true) ∧ Below w.heap.size w w' := by
  have HOPS := Aside0.mk hops
  obtain ⟨P, hP⟩ : ∃ P, P = w.heap.size := ⟨_, rfl⟩
  have HPS := Aside0.mk hP
  have HNN : Aside0 ((1 ≤ n ∧ n ≤ 256) ∧ 1 ≤ m ∧ m ≤ 256) := ⟨⟨⟨hn0, hn1⟩, hm0, hm1⟩⟩
  have hlen : len ≤ 9223372036854775807 := by omega
  clear hops hP hn0 hn1 hm0 hm1 hsz hcap
  go_enter Try.func5, Try.ntmps5
  go_wp2_with fail
  refine (shown_calls w).mono ?_
  rintro e w1 ⟨rfl, hb1⟩
  have HB1 := Aside0.mk hb1
  clear hb1
  go_wp2_with fail
  refine (new_ex w1 n HNN.out.1.1 HNN.out.1.2).mono ?_
  rintro e w2 ⟨g1, rfl, hg1, hs1, hgb2⟩
  have HG1 := Aside0.mk hg1
  have HS1 := Aside0.mk hs1
  have HW2 := Aside0.mk hgb2
  clear hg1 hs1 hgb2
  go_wp2_with fail
  refine (rNew_ok w2 n HNN.out.1.1 HNN.out.1.2).mono ?_
  rintro e w3 ⟨r1, ab1, c1, rfl, hd1, hgb3⟩
  have HD1 := Aside0.mk hd1
  have HW3 := Aside0.mk hgb3
  clear hd1 hgb3
  go_wp2_with fail
  refine (new_ex w3 m HNN.out.2.1 HNN.out.2.2).mono ?_
  rintro e w4 ⟨g2, rfl, hg2, hs2, hgb4⟩
  have HG2 := Aside0.mk hg2
  have HS2 := Aside0.mk hs2
  have HW4 := Aside0.mk hgb4
  clear hg2 hs2 hgb4
  go_wp2_with fail
  refine (rNew_ok w4 m HNN.out.2.1 HNN.out.2.2).mono ?_
  rintro e w5 ⟨r2, ab2, c2, rfl, hd2, hgb5⟩
  have HD2 := Aside0.mk hd2
  have HW5 := Aside0.mk hgb5
  clear hd2 hgb5
  go_upto_region 14 with (fail)
  obtain ⟨f0, hst, hbp, hbe⟩ := start_st HNN.out.1.1 HNN.out.2.1 HB1.out HG1.out HS1.out HW2.out HD1.out HW3.out HG2.out HS2.out HW4.out HD2.out HW5.out
  clear HB1 HG1 HS1 HW2 HD1 HW3 HG2 HS2 HW4 HD2 HW5
  generalize (((w5.alloc (.cells #[.slice none 0 0, .slice none 0 0] 43)).alloc (.cells #[.pointer (some ⟨g1, 0, none⟩), .pointer (some ⟨r1, 0, none⟩)] 45)).alloc (.cells #[.pointer (some ⟨g2, 0, none⟩), .pointer (some ⟨r2, 0, none⟩)] 45)) = W0 at hst hbp hbe ⊢
  generalize w5.heap.size + 1 + 1 = bq at hbp ⊢
  generalize w5.heap.size + 1 = bp at hbp ⊢
  generalize w5.heap.size = h0 at hst ⊢
  obtain ⟨p0, hp0⟩ : ∃ p0 : Pr, p0 = ⟨g1, r1, ab1, n, c1, fun _ => 0⟩ := ⟨_, rfl⟩
  obtain ⟨q0, hq0⟩ : ∃ q0 : Pr, q0 = ⟨g2, r2, ab2, m, c2, fun _ => 0⟩ := ⟨_, rfl⟩
  rw [← hp0, ← hq0] at hst hbp
  rw [← HPS.out] at hst
  have HST := Aside0.mk hst
  have HBP := Aside0.mk hbp
  have HBE := Aside0.mk hbe
  have HN0 : Aside0 (([] : List Sl).length ≤ 300) := ⟨by simp⟩
  clear hst hbp hbe hp0 hq0
  obtain ⟨mq, hmq⟩ : ∃ mq, mq = min len 3000 := ⟨_, rfl⟩
  have hmq1 : mq ≤ len := by omega
  have hmq2 : mq ≤ 3000 := by omega
  have HMQ := Aside0.mk hmq
  clear hmq
  go_wp2_with fail
  go_loopg [15, 18] mq (fun k v15 v18 wr => ∃ (i h : Nat) (p q : Pr) (f : Nat → Int) (OA : Option Addr) (oc : Nat) (WA : Option Addr) (wc : Nat) (os ws : List Sl), v15 = .pointer (some ⟨h, 0, none⟩) ∧ v18 = .int .i64 i ∧ Aside0 (i + k = mq) ∧ i ≤ mq ∧ Aside0 (St wr P f (-1) (-4) p q h OA oc WA wc os ws) ∧ Aside0 (os.length ≤ 300) ∧ Aside0 (Bp wr f bp bq p q) ∧ Aside0 (Below w.heap.size w wr))
  case atStart => exact ⟨0, h0, p0, q0, f0, none, 0, none, 0, [], [], rfl, rfl, ⟨by omega⟩, by omega, HST, HN0, HBP, HBE⟩
  case round =>
    clear HST HBP HBE HN0
    obtain ⟨i, h, p, q, f, OA, oc, WA, wc, os, ws, rfl, rfl, HD, hi, HS, HN, HB, HBe⟩ := hrel
    cases gk with
    | zero =>
      obtain rfl : i = mq := by have := HD.out; omega
      have hmq := HMQ.out
      by_cases hq3 : i < len
      · have hb1 : decide ((i : Int) < (len : Int)) = true := decide_eq_true (by omega)
        have hb2 : decide ((i : Int) < 3000) = false := decide_eq_false (by omega)
        have hb3 : decide (i < len) = true := decide_eq_true hq3
        have hb4 : decide (i < 3000) = false := decide_eq_false (by omega)
        have ep0 := cell_of (j := 0) (v := .pointer (some ⟨p.g, 0, none⟩)) HB.out.hp rfl
        have ep1 := cell_of (j := 1) (v := .pointer (some ⟨p.r, 0, none⟩)) HB.out.hp rfl
        have eq0 := cell_of (j := 0) (v := .pointer (some ⟨q.g, 0, none⟩)) HB.out.hq rfl
        have eq1 := cell_of (j := 1) (v := .pointer (some ⟨q.r, 0, none⟩)) HB.out.hq rfl
        clear hmq hq3
        go_wp2_with fail
        refine (List_calls wr p.g p.n p.t HS.out.p.s).mono ?_
        intro e X1 hol
        obtain ⟨aA, ac, rfl, ho, hg⟩ := ownList_open hol
        have hl1 : Lt wr f X1 f (fun _ => False) := Lt.gb hg
        have HS1 := Aside0.mk (HS.out.lt hl1 (fun _ h => h.elim))
        have HB1 := Aside0.mk (HB.out.lt hl1 (fun h => h))
        have HE1 := Aside0.mk (below_lt HPS.out HBe.out hl1 HS.out.low (fun h => h))
        have HA1 := Aside0.mk (own_rd (E := Ei .i64) rfl ho)
        clear hol ho hg hl1
        clear ep0 ep1 eq0 eq1
        have ep0 := cell_of (j := 0) (v := .pointer (some ⟨p.g, 0, none⟩)) HB1.out.hp rfl
        have ep1 := cell_of (j := 1) (v := .pointer (some ⟨p.r, 0, none⟩)) HB1.out.hp rfl
        have eq0 := cell_of (j := 0) (v := .pointer (some ⟨q.g, 0, none⟩)) HB1.out.hq rfl
        have eq1 := cell_of (j := 1) (v := .pointer (some ⟨q.r, 0, none⟩)) HB1.out.hq rfl
        go_wp2_with fail
        refine (List_calls X1 q.g q.n q.t HS1.out.o.s).mono ?_
        intro e X2 hol
        obtain ⟨bA, bc, rfl, ho, hg⟩ := ownList_open hol
        have hl1 : Lt X1 f X2 f (fun _ => False) := Lt.gb hg
        have HS2 := Aside0.mk (HS1.out.lt hl1 (fun _ h => h.elim))
        have HB2 := Aside0.mk (HB1.out.lt hl1 (fun h => h))
        have HE2 := Aside0.mk (below_lt HPS.out HE1.out hl1 HS1.out.low (fun h => h))
        have HA2 := Aside0.mk (HA1.out.gb hg)
        have HD2 := Aside0.mk (own_rd (E := Ei .i64) rfl ho)
        clear hol ho hg hl1
        clear ep0 ep1 eq0 eq1
        have ep0 := cell_of (j := 0) (v := .pointer (some ⟨p.g, 0, none⟩)) HB2.out.hp rfl
        have ep1 := cell_of (j := 1) (v := .pointer (some ⟨p.r, 0, none⟩)) HB2.out.hp rfl
        have eq0 := cell_of (j := 0) (v := .pointer (some ⟨q.g, 0, none⟩)) HB2.out.hq rfl
        have eq1 := cell_of (j := 1) (v := .pointer (some ⟨q.r, 0, none⟩)) HB2.out.hq rfl
        go_wp2_with fail
        refine (rList_calls X2 P p.r p.ab p.n p.c p.t HS2.out.p.d).mono ?_
        intro e X3 hol
        obtain ⟨vA, vc, rfl, ho, hg⟩ := ownList_open hol
        have hl1 : Lt X2 f X3 f (fun _ => False) := Lt.gb hg
        have HS3 := Aside0.mk (HS2.out.lt hl1 (fun _ h => h.elim))
        have HB3 := Aside0.mk (HB2.out.lt hl1 (fun h => h))
        have HE3 := Aside0.mk (below_lt HPS.out HE2.out hl1 HS2.out.low (fun h => h))
        have HA3 := Aside0.mk (HA2.out.gb hg)
        have HD3 := Aside0.mk (HD2.out.gb hg)
        have HV3 := Aside0.mk (own_rd (E := Ei .i64) rfl ho)
        clear hol ho hg hl1
        clear ep0 ep1 eq0 eq1
        have ep0 := cell_of (j := 0) (v := .pointer (some ⟨p.g, 0, none⟩)) HB3.out.hp rfl
        have ep1 := cell_of (j := 1) (v := .pointer (some ⟨p.r, 0, none⟩)) HB3.out.hp rfl
        have eq0 := cell_of (j := 0) (v := .pointer (some ⟨q.g, 0, none⟩)) HB3.out.hq rfl
        have eq1 := cell_of (j := 1) (v := .pointer (some ⟨q.r, 0, none⟩)) HB3.out.hq rfl
        go_wp2_with fail
        refine (same_true X3 aA vA _ ac vc _ (ints_rd HA3.out) (ints_rd HV3.out)).mono ?_
        rintro e X4 ⟨rfl, hg⟩
        have hl1 : Lt X3 f X4 f (fun _ => False) := Lt.gb hg
        have HS4 := Aside0.mk (HS3.out.lt hl1 (fun _ h => h.elim))
        have HB4 := Aside0.mk (HB3.out.lt hl1 (fun h => h))
        have HE4 := Aside0.mk (below_lt HPS.out HE3.out hl1 HS3.out.low (fun h => h))
        have HD4 := Aside0.mk (HD3.out.gb hg)
        clear hg hl1
        clear ep0 ep1 eq0 eq1
        have ep0 := cell_of (j := 0) (v := .pointer (some ⟨p.g, 0, none⟩)) HB4.out.hp rfl
        have ep1 := cell_of (j := 1) (v := .pointer (some ⟨p.r, 0, none⟩)) HB4.out.hp rfl
        have eq0 := cell_of (j := 0) (v := .pointer (some ⟨q.g, 0, none⟩)) HB4.out.hq rfl
        have eq1 := cell_of (j := 1) (v := .pointer (some ⟨q.r, 0, none⟩)) HB4.out.hq rfl
        go_wp2_with fail
        refine (rList_calls X4 P q.r q.ab q.n q.c q.t HS4.out.o.d).mono ?_
        intro e X5 hol
        obtain ⟨uA, uc, rfl, ho, hg⟩ := ownList_open hol
        have hl1 : Lt X4 f X5 f (fun _ => False) := Lt.gb hg
        have HS5 := Aside0.mk (HS4.out.lt hl1 (fun _ h => h.elim))
        have HE5 := Aside0.mk (below_lt HPS.out HE4.out hl1 HS4.out.low (fun h => h))
        have HD5 := Aside0.mk (HD4.out.gb hg)
        have HU5 := Aside0.mk (own_rd (E := Ei .i64) rfl ho)
        clear hol ho hg hl1
        clear ep0 ep1 eq0 eq1
        go_wp2_with fail
        refine (same_true X5 bA uA _ bc uc _ (ints_rd HD5.out) (ints_rd HU5.out)).mono ?_
        rintro e X6 ⟨rfl, hg⟩
        have hl1 : Lt X5 f X6 f (fun _ => False) := Lt.gb hg
        have HS6 := Aside0.mk (HS5.out.lt hl1 (fun _ h => h.elim))
        have HE6 := Aside0.mk (below_lt HPS.out HE5.out hl1 HS5.out.low (fun h => h))
        clear hg hl1
        go_wp2_with fail
        refine (spoil_calls X6 P h OA oc WA wc os ws f HS6.out.k (by have := HN.out; omega) (fun s hs => by have := HS6.out.sm s hs; omega)).mono ?_
        rintro e X7 ⟨rfl, -, ht⟩
        have HE7 := Aside0.mk (below_lt HPS.out HE6.out (show Lt X6 f X7 f (fun x => 0 ≤ x) from ⟨ht, fun _ _ => rfl⟩) HS6.out.low (by decide))
        clear ht
        go_wp2_with fail
        go_ret
        exact ⟨rfl, HE7.out⟩
      · have hb1 : decide ((i : Int) < (len : Int)) = false := decide_eq_false (by omega)
        have hb3 : decide (i < len) = false := decide_eq_false hq3
        have ep0 := cell_of (j := 0) (v := .pointer (some ⟨p.g, 0, none⟩)) HB.out.hp rfl
        have ep1 := cell_of (j := 1) (v := .pointer (some ⟨p.r, 0, none⟩)) HB.out.hp rfl
        have eq0 := cell_of (j := 0) (v := .pointer (some ⟨q.g, 0, none⟩)) HB.out.hq rfl
        have eq1 := cell_of (j := 1) (v := .pointer (some ⟨q.r, 0, none⟩)) HB.out.hq rfl
        clear hmq hq3
        go_wp2_with fail
        refine (List_calls wr p.g p.n p.t HS.out.p.s).mono ?_
        intro e X1 hol
        obtain ⟨aA, ac, rfl, ho, hg⟩ := ownList_open hol
        have hl1 : Lt wr f X1 f (fun _ => False) := Lt.gb hg
        have HS1 := Aside0.mk (HS.out.lt hl1 (fun _ h => h.elim))
        have HB1 := Aside0.mk (HB.out.lt hl1 (fun h => h))
        have HE1 := Aside0.mk (below_lt HPS.out HBe.out hl1 HS.out.low (fun h => h))
        have HA1 := Aside0.mk (own_rd (E := Ei .i64) rfl ho)
        clear hol ho hg hl1
        clear ep0 ep1 eq0 eq1
        have ep0 := cell_of (j := 0) (v := .pointer (some ⟨p.g, 0, none⟩)) HB1.out.hp rfl
        have ep1 := cell_of (j := 1) (v := .pointer (some ⟨p.r, 0, none⟩)) HB1.out.hp rfl
        have eq0 := cell_of (j := 0) (v := .pointer (some ⟨q.g, 0, none⟩)) HB1.out.hq rfl
        have eq1 := cell_of (j := 1) (v := .pointer (some ⟨q.r, 0, none⟩)) HB1.out.hq rfl
        go_wp2_with fail
        refine (List_calls X1 q.g q.n q.t HS1.out.o.s).mono ?_
        intro e X2 hol
        obtain ⟨bA, bc, rfl, ho, hg⟩ := ownList_open hol
        have hl1 : Lt X1 f X2 f (fun _ => False) := Lt.gb hg
        have HS2 := Aside0.mk (HS1.out.lt hl1 (fun _ h => h.elim))
        have HB2 := Aside0.mk (HB1.out.lt hl1 (fun h => h))
        have HE2 := Aside0.mk (below_lt HPS.out HE1.out hl1 HS1.out.low (fun h => h))
        have HA2 := Aside0.mk (HA1.out.gb hg)
        have HD2 := Aside0.mk (own_rd (E := Ei .i64) rfl ho)
        clear hol ho hg hl1
        clear ep0 ep1 eq0 eq1
        have ep0 := cell_of (j := 0) (v := .pointer (some ⟨p.g, 0, none⟩)) HB2.out.hp rfl
        have ep1 := cell_of (j := 1) (v := .pointer (some ⟨p.r, 0, none⟩)) HB2.out.hp rfl
        have eq0 := cell_of (j := 0) (v := .pointer (some ⟨q.g, 0, none⟩)) HB2.out.hq rfl
        have eq1 := cell_of (j := 1) (v := .pointer (some ⟨q.r, 0, none⟩)) HB2.out.hq rfl
        go_wp2_with fail
        refine (rList_calls X2 P p.r p.ab p.n p.c p.t HS2.out.p.d).mono ?_
        intro e X3 hol
        obtain ⟨vA, vc, rfl, ho, hg⟩ := ownList_open hol
        have hl1 : Lt X2 f X3 f (fun _ => False) := Lt.gb hg
        have HS3 := Aside0.mk (HS2.out.lt hl1 (fun _ h => h.elim))
        have HB3 := Aside0.mk (HB2.out.lt hl1 (fun h => h))
        have HE3 := Aside0.mk (below_lt HPS.out HE2.out hl1 HS2.out.low (fun h => h))
        have HA3 := Aside0.mk (HA2.out.gb hg)
        have HD3 := Aside0.mk (HD2.out.gb hg)
        have HV3 := Aside0.mk (own_rd (E := Ei .i64) rfl ho)
        clear hol ho hg hl1
        clear ep0 ep1 eq0 eq1
        have ep0 := cell_of (j := 0) (v := .pointer (some ⟨p.g, 0, none⟩)) HB3.out.hp rfl
        have ep1 := cell_of (j := 1) (v := .pointer (some ⟨p.r, 0, none⟩)) HB3.out.hp rfl
        have eq0 := cell_of (j := 0) (v := .pointer (some ⟨q.g, 0, none⟩)) HB3.out.hq rfl
        have eq1 := cell_of (j := 1) (v := .pointer (some ⟨q.r, 0, none⟩)) HB3.out.hq rfl
        go_wp2_with fail
        refine (same_true X3 aA vA _ ac vc _ (ints_rd HA3.out) (ints_rd HV3.out)).mono ?_
        rintro e X4 ⟨rfl, hg⟩
        have hl1 : Lt X3 f X4 f (fun _ => False) := Lt.gb hg
        have HS4 := Aside0.mk (HS3.out.lt hl1 (fun _ h => h.elim))
        have HB4 := Aside0.mk (HB3.out.lt hl1 (fun h => h))
        have HE4 := Aside0.mk (below_lt HPS.out HE3.out hl1 HS3.out.low (fun h => h))
        have HD4 := Aside0.mk (HD3.out.gb hg)
        clear hg hl1
        clear ep0 ep1 eq0 eq1
        have ep0 := cell_of (j := 0) (v := .pointer (some ⟨p.g, 0, none⟩)) HB4.out.hp rfl
        have ep1 := cell_of (j := 1) (v := .pointer (some ⟨p.r, 0, none⟩)) HB4.out.hp rfl
        have eq0 := cell_of (j := 0) (v := .pointer (some ⟨q.g, 0, none⟩)) HB4.out.hq rfl
        have eq1 := cell_of (j := 1) (v := .pointer (some ⟨q.r, 0, none⟩)) HB4.out.hq rfl
        go_wp2_with fail
        refine (rList_calls X4 P q.r q.ab q.n q.c q.t HS4.out.o.d).mono ?_
        intro e X5 hol
        obtain ⟨uA, uc, rfl, ho, hg⟩ := ownList_open hol
        have hl1 : Lt X4 f X5 f (fun _ => False) := Lt.gb hg
        have HS5 := Aside0.mk (HS4.out.lt hl1 (fun _ h => h.elim))
        have HE5 := Aside0.mk (below_lt HPS.out HE4.out hl1 HS4.out.low (fun h => h))
        have HD5 := Aside0.mk (HD4.out.gb hg)
        have HU5 := Aside0.mk (own_rd (E := Ei .i64) rfl ho)
        clear hol ho hg hl1
        clear ep0 ep1 eq0 eq1
        go_wp2_with fail
        refine (same_true X5 bA uA _ bc uc _ (ints_rd HD5.out) (ints_rd HU5.out)).mono ?_
        rintro e X6 ⟨rfl, hg⟩
        have hl1 : Lt X5 f X6 f (fun _ => False) := Lt.gb hg
        have HS6 := Aside0.mk (HS5.out.lt hl1 (fun _ h => h.elim))
        have HE6 := Aside0.mk (below_lt HPS.out HE5.out hl1 HS5.out.low (fun h => h))
        clear hg hl1
        go_wp2_with fail
        refine (spoil_calls X6 P h OA oc WA wc os ws f HS6.out.k (by have := HN.out; omega) (fun s hs => by have := HS6.out.sm s hs; omega)).mono ?_
        rintro e X7 ⟨rfl, -, ht⟩
        have HE7 := Aside0.mk (below_lt HPS.out HE6.out (show Lt X6 f X7 f (fun x => 0 ≤ x) from ⟨ht, fun _ _ => rfl⟩) HS6.out.low (by decide))
        clear ht
        go_wp2_with fail
        go_ret
        exact ⟨rfl, HE7.out⟩
    | succ d =>
      have hlt : i < mq := by have := HD.out; omega
      have hil : i < len := by omega
      have hi3 : i < 3000 := by omega
      have hb1 : decide ((i : Int) < (len : Int)) = true := decide_eq_true (by omega)
      have hb2 : decide ((i : Int) < 3000) = true := decide_eq_true (by omega)
      have hb3 : decide (i < len) = true := decide_eq_true hil
      have hb4 : decide (i < 3000) = true := decide_eq_true hi3
      have hii : (i : Int) < (len : Int) := by omega
      have hll := HOPS.out.1.1
      obtain ⟨x, hx⟩ : ∃ x, ls[i]? = some x := ⟨_, List.getElem?_eq_getElem (by omega)⟩
      have hxl := op_low (HOPS.out.2 x (List.mem_of_getElem? hx))
      rw [← HPS.out] at hxl
      obtain ⟨ad, rfl, -⟩ := HOPS.out.1.2.2 (by omega)
      obtain ⟨sec, k, N, LA, ln, lc, xs⟩ := x
      have HX := Aside0.mk hx
      have HXL := Aside0.mk hxl
      have HLd := Aside0.mk (show Lt wr f wr.drew f (fun _ => False) from Lt.gb (gb_drew wr none))
      have HSd := Aside0.mk (HS.out.lt HLd.out (fun _ h => h.elim))
      have HPd := Aside0.mk (HB.out.lt HLd.out (fun h => h))
      have HBed := Aside0.mk (below_gb HBe.out (gb_drew wr none) HBe.out.size (by simp))
      clear hx hxl hll HLd
      cases sec with
      | true =>
        have HO1 := Aside0.mk (op_cells (HOPS.out.below HBe.out).1 HX.out)
        have hx0 := HO1.out.1
        have HOd := Aside0.mk (op_cells (HOPS.out.below HBed.out).1 HX.out)
        have HC := Aside0.mk (show Calls Try.prog 16 #[.agg #[.pointer (some ⟨q.g, 0, none⟩), .pointer (some ⟨q.r, 0, none⟩)], .agg #[.pointer (some ⟨p.g, 0, none⟩), .pointer (some ⟨p.r, 0, none⟩)], .pointer (some ⟨h, 0, none⟩), .agg #[.bool true, .int .i64 k, .int .i64 N, .slice LA ln lc]] wr.drew (StepJ wr.drew P f (-4) (-1) p h os) from step_j wr.drew P h f _ _ _ _ OA oc WA wc os ws HSd.out.swap ⟨true, k, N, LA, ln, lc, xs⟩ ((HOPS.out.below HBed.out).2 _ (List.mem_of_getElem? HX.out)) HXL.out (by have := HN.out; omega))
        go_wp2_with fail
        clear hx0
        refine start_ (n := 13) (S := fun w' => w'.cell? ⟨bp, 0, none⟩ = some (.pointer (some ⟨p.g, 0, none⟩)) ∧ w'.cell? ⟨bp, 1, none⟩ = some (.pointer (some ⟨p.r, 0, none⟩)) ∧ w'.cell? ⟨bq, 0, none⟩ = some (.pointer (some ⟨q.g, 0, none⟩)) ∧ w'.cell? ⟨bq, 1, none⟩ = some (.pointer (some ⟨q.r, 0, none⟩)) ∧ w'.cell? (ad.add (i * 4)) = some (.bool true) ∧ w'.cell? ⟨(ad.add (i * 4)).block, (ad.add (i * 4)).off + 1, none⟩ = some (.int .i64 k) ∧ w'.cell? ⟨(ad.add (i * 4)).block, (ad.add (i * 4)).off + 2, none⟩ = some (.int .i64 N) ∧ w'.cell? ⟨(ad.add (i * 4)).block, (ad.add (i * 4)).off + 3, none⟩ = some (.slice LA ln lc)) (ds := [11]) #[false, false, false, false, false, false, false, false, false, false, false, false, false] (by kernel_rfl) rfl rfl ⟨cell_of (j := 0) HPd.out.hp rfl, cell_of (j := 1) HPd.out.hp rfl, cell_of (j := 0) HPd.out.hq rfl, cell_of (j := 1) HPd.out.hq rfl, HOd.out.1, HOd.out.2.1, HOd.out.2.2.1, HOd.out.2.2.2⟩ (fun hHeld => ?_)
        refine pure_ (i := 2) (N := some 98) (v := ?_) (a' := ?_) #[false, false, true, false, false, false, false, false, false, false, false, false, false] rfl rfl (by kernel_rfl) (fun _ _ _ h => h) (Or.inl ⟨by rfl, ?_⟩) ?_ ?_
        rotate_left
        · intro w'
          go_simp
          with_reducible rfl
        rotate_left
        · simp only [Act.put, List.setIfInBounds_toArray, List.set_cons_zero, List.set_cons_succ, i64_w, i32_w]
          rfl
        refine pure_ (i := 3) (N := some 99) (v := ?_) (a' := ?_) #[false, false, true, true, false, false, false, false, false, false, false, false, false] rfl rfl (by kernel_rfl) (fun _ _ _ h => h) (Or.inl ⟨by rfl, ?_⟩) ?_ ?_
        rotate_left
        · intro w'
          go_simp
          with_reducible rfl
        rotate_left
        · simp only [Act.put, List.setIfInBounds_toArray, List.set_cons_zero, List.set_cons_succ, i64_w, i32_w]
          rfl
        refine pure_ (i := 4) (N := some 100) (v := ?_) (a' := ?_) #[false, false, true, true, true, false, false, false, false, false, false, false, false] rfl rfl (by kernel_rfl) (fun _ _ _ h => h) (Or.inl ⟨by rfl, ?_⟩) ?_ ?_
        rotate_left
        · intro w'
          go_simp
          with_reducible rfl
        rotate_left
        · simp only [Act.put, List.setIfInBounds_toArray, List.set_cons_zero, List.set_cons_succ, i64_w, i32_w]
          rfl
        refine pure_ (i := 5) (N := some 101) (v := ?_) (a' := ?_) #[false, false, true, true, true, true, false, false, false, false, false, false, false] rfl rfl (by kernel_rfl) (fun _ _ _ h => h) (Or.inl ⟨by rfl, ?_⟩) ?_ ?_
        rotate_left
        · intro w'
          go_simp
          with_reducible rfl
        rotate_left
        · simp only [Act.put, List.setIfInBounds_toArray, List.set_cons_zero, List.set_cons_succ, i64_w, i32_w]
          rfl
        refine take_ (i := 0) (N := some 96) (v := ?_) (a' := ?_) #[true, false, true, true, true, true, false, false, false, false, false, false, false] rfl rfl (by kernel_rfl) (fun _ _ _ h => h) (Or.inl ⟨by rfl, ?_⟩) hHeld ?_ ?_
        rotate_left
        · rintro w' ⟨s0, s1, s2, s3, s4, s5, s6, s7⟩
          go_simp
          with_reducible rfl
        rotate_left
        · simp only [Act.put, List.setIfInBounds_toArray, List.set_cons_zero, List.set_cons_succ, i64_w, i32_w]
          rfl
        refine take_ (i := 1) (N := some 97) (v := ?_) (a' := ?_) #[true, true, true, true, true, true, false, false, false, false, false, false, false] rfl rfl (by kernel_rfl) (fun _ _ _ h => h) (Or.inl ⟨by rfl, ?_⟩) hHeld ?_ ?_
        rotate_left
        · rintro w' ⟨s0, s1, s2, s3, s4, s5, s6, s7⟩
          go_simp
          with_reducible rfl
        rotate_left
        · simp only [Act.put, List.setIfInBounds_toArray, List.set_cons_zero, List.set_cons_succ, i64_w, i32_w]
          rfl
        refine take_ (i := 6) (N := some 102) (v := ?_) (a' := ?_) #[true, true, true, true, true, true, true, false, false, false, false, false, false] rfl rfl (by kernel_rfl) (fun _ _ _ h => h) (Or.inl ⟨by rfl, ?_⟩) hHeld ?_ ?_
        rotate_left
        · rintro w' ⟨s0, s1, s2, s3, s4, s5, s6, s7⟩
          go_simp
          with_reducible rfl
        rotate_left
        · simp only [Act.put, List.setIfInBounds_toArray, List.set_cons_zero, List.set_cons_succ, i64_w, i32_w]
          rfl
        refine one_ (i := 7) (N := some 103) #[true, true, true, true, true, true, true, true, false, false, false, false, false] rfl rfl (by kernel_rfl) (by decide) (fun K hK => ?_)
        refine goes_ Try.func16 (by kernel_rfl) rfl #[.agg #[.pointer (some ⟨q.g, 0, none⟩), .pointer (some ⟨q.r, 0, none⟩)], .agg #[.pointer (some ⟨p.g, 0, none⟩), .pointer (some ⟨p.r, 0, none⟩)], .pointer (some ⟨h, 0, none⟩), .agg #[.bool true, .int .i64 k, .int .i64 N, .slice LA ln lc]] (by rfl) rfl rfl (by simp only [List.map_toArray, List.map_cons, List.map_nil]; try rfl) ?_
        with_reducible refine (HC.out).mono ?_
        rintro e w9 ⟨p9, f9, OA9, oc9, WA9, wc9, os9, ws9, rfl, hst, hlen, hlt⟩
        refine ⟨_, rfl, ?_⟩
        have HS9 := Aside0.mk hst.swap; have HB9 := Aside0.mk (HPd.out.lt hlt (by unfold TT; decide)); have HBe9 := Aside0.mk (below_lt HPS.out HBed.out hlt HSd.out.low (by unfold TT; decide)); have HO9 := Aside0.mk (op_cells (HOPS.out.below HBe9.out).1 HX.out); have HN9 : Aside0 (os9.length ≤ 302) := ⟨by have := HN.out; omega⟩; clear hst hlen hlt HC HSd HPd HBed HOd; have qa := cell_of (j := 0) (v := .pointer (some ⟨q.g, 0, none⟩)) HB9.out.hq rfl; have qb := cell_of (j := 1) (v := .pointer (some ⟨q.r, 0, none⟩)) HB9.out.hq rfl; have qc := frozen_of (j := 0) HB9.out.hq; have qd := frozen_of (j := 1) HB9.out.hq
        refine hK.out _ _ ⟨cell_of (j := 0) HB9.out.hp rfl, cell_of (j := 1) HB9.out.hp rfl, cell_of (j := 0) HB9.out.hq rfl, cell_of (j := 1) HB9.out.hq rfl, HO9.out.1, HO9.out.2.1, HO9.out.2.2.1, HO9.out.2.2.2⟩ (fun hHeld => ?_)
        clear hK K
        refine norm_ (a' := ?_) ?_ ?_
        rotate_left
        · show Act.put _ (some 103) _ = _
          simp only [Act.put, List.setIfInBounds_toArray, List.set_cons_zero, List.set_cons_succ, i64_w, i32_w]
          rfl
        refine pure_ (i := 8) (N := some 95) (v := ?_) (a' := ?_) #[true, true, true, true, true, true, true, true, true, false, false, false, false] rfl rfl (by kernel_rfl) (fun _ _ _ h => h) (Or.inl ⟨by rfl, ?_⟩) ?_ ?_
        rotate_left
        · intro w'
          go_simp
          with_reducible rfl
        rotate_left
        · simp only [Act.put, List.setIfInBounds_toArray, List.set_cons_zero, List.set_cons_succ, i64_w, i32_w]
          rfl
        refine pure_ (i := 9) (N := some 104) (v := ?_) (a' := ?_) #[true, true, true, true, true, true, true, true, true, true, false, false, false] rfl rfl (by kernel_rfl) (fun _ _ _ h => h) (Or.inl ⟨by rfl, ?_⟩) ?_ ?_
        rotate_left
        · intro w'
          go_simp
          with_reducible rfl
        rotate_left
        · simp only [Act.put, List.setIfInBounds_toArray, List.set_cons_zero, List.set_cons_succ, i64_w, i32_w]
          rfl
        refine pure_ (i := 10) (N := some 105) (v := ?_) (a' := ?_) #[true, true, true, true, true, true, true, true, true, true, true, false, false] rfl rfl (by kernel_rfl) (fun _ _ _ h => h) (Or.inl ⟨by rfl, ?_⟩) ?_ ?_
        rotate_left
        · intro w'
          go_simp
          with_reducible rfl
        rotate_left
        · simp only [Act.put, List.setIfInBounds_toArray, List.set_cons_zero, List.set_cons_succ, i64_w, i32_w]
          rfl
        refine last_ (i := 11) (N := none) #[true, true, true, true, true, true, true, true, true, true, true, true, false] rfl rfl (by kernel_rfl) (by decide) (fun K hK => ?_)
        refine skip_ (w1 := ?_) (by rfl) rfl ?_ ?_
        rotate_left
        · go_simp
          rfl
        refine hK.out _ _ ?_
        clear hK K
        refine pure_ (i := 12) (N := some 19) (v := ?_) (a' := ?_) #[true, true, true, true, true, true, true, true, true, true, true, true, true] rfl rfl (by kernel_rfl) (fun _ _ _ h => h) (Or.inl ⟨by rfl, ?_⟩) ?_ ?_
        rotate_left
        · intro w'
          go_simp
          with_reducible rfl
        rotate_left
        · simp only [Act.put, List.setIfInBounds_toArray, List.set_cons_zero, List.set_cons_succ, i64_w, i32_w]
          rfl
        refine done_ (by kernel_rfl) ?_
        go_upto_region 21 with (fail)
        have hl5 := lt_box (W := w9) (f := f9) HB9.out.fq (.pointer (some ⟨p9.g, 0, none⟩)) (.pointer (some ⟨p9.r, 0, none⟩))
        have HS5 := Aside0.mk (HS9.out.lt hl5 (fun x e => by omega))
        have HB5 := Aside0.mk (HB9.out.setq p9)
        have HBe5 := Aside0.mk (below_lt HPS.out HBe9.out hl5 HS9.out.low (by decide))
        clear hl5 HS9 HB9 HBe9 HO9 qa qb qc qd
        generalize (w9.setCell ⟨bq, 0, none⟩ (.pointer (some ⟨p9.g, 0, none⟩))).setCell ⟨bq, 1, none⟩ (.pointer (some ⟨p9.r, 0, none⟩)) = W5 at HS5 HB5 HBe5 ⊢
        by_cases h16 : i % 16 = 0
        · have h16a : ((i : Int) % 16 == 0) = true := by rw [beq_iff_eq]; omega
          have h16b : (Int.tmod (i : Int) 16 == 0) = true := by rw [Int.tmod_eq_emod_of_nonneg (by omega)]; exact h16a
          have h16c : (i % 16 == 0) = true := by simp [h16]
          clear h16
          go_wp2_with fail
          refine (holds_calls W5 h OA9 oc9 WA9 wc9 os9 ws9 HS5.out.k.look).mono ?_
          rintro e W6 ⟨rfl, hg⟩
          have hl6 : Lt W5 f9 W6 f9 (fun _ => False) := Lt.gb hg
          have HS6 := Aside0.mk (HS5.out.lt hl6 (fun _ h => h.elim))
          have HB6 := Aside0.mk (HB5.out.lt hl6 (fun h => h))
          have HBe6 := Aside0.mk (below_lt HPS.out HBe5.out hl6 HS5.out.low (fun h => h))
          clear hg hl6 h16a h16b h16c
          have hlc := HS6.out.k.look.c0
          by_cases hbig : 300 < os9.length
          · have hbb : decide ((300 : Int) < (os9.length : Int)) = true := decide_eq_true (by omega)
            have hbb2 : decide (300 < os9.length) = true := decide_eq_true hbig
            clear hbig
            go_wp2_with fail
            refine (spoil_calls W6 P h OA9 oc9 WA9 wc9 os9 ws9 f9 HS6.out.k (by have := HN9.out; omega) (fun s hs => by have := HS6.out.sm s hs; omega)).mono ?_
            rintro e W7 ⟨rfl, -, ht⟩
            have hl7 : Lt W6 f9 W7 f9 (fun x => 0 ≤ x) := ⟨ht, fun _ _ => rfl⟩
            have HP7 := Aside0.mk (HS6.out.p.lt hl7 (by decide) (by decide) (by decide))
            have HQ7 := Aside0.mk (HS6.out.o.lt hl7 (by decide) (by decide) (by decide))
            have HBx7 := Aside0.mk (HB6.out.lt hl7 (by decide))
            have HBe7 := Aside0.mk (below_lt HPS.out HBe6.out hl7 HS6.out.low (by decide))
            clear ht hl7 hlc
            go_wp2_with fail
            go_roundg d
            case measure => omega
            case rel =>
              obtain ⟨f0, hl0, hf0⟩ := Lt.new (f := f9) (T := fun _ => False) (Tn.alloc W7 (.cells #[.slice none 0 0, .slice none 0 0] 43) _) 0
              refine ⟨i + 1, W7.heap.size, p, p9, f0, none, 0, none, 0, [], [], rfl, by go_num, ⟨by have := HD.out; omega⟩, by omega, ⟨⟨HP7.out.lt hl0 (fun h => h) (fun h => h) (fun h => h), HQ7.out.lt hl0 (fun h => h) (fun h => h) (fun h => h), kept_nil (heap_alloc_new W7 _) (by have := HP7.out.base; have := HP7.out.gl; omega) (hf0 _ (Nat.le_refl _)), by simp, Pr_low hl0 HS6.out.low (by have := HP7.out.base; have := HP7.out.gl; omega), .inl ⟨rfl, rfl⟩⟩⟩, ⟨by simp⟩, ⟨HBx7.out.lt hl0 (fun h => h)⟩, ⟨below_lt HPS.out HBe7.out hl0 HS6.out.low (fun h => h)⟩⟩
          · have hbb : decide ((300 : Int) < (os9.length : Int)) = false := decide_eq_false (by omega)
            have hbb2 : decide (300 < os9.length) = false := decide_eq_false hbig
            have HN0 : Aside0 (os9.length ≤ 300) := ⟨by omega⟩
            clear hbig
            go_wp2_with fail
            go_roundg d
            case measure => omega
            case rel => exact ⟨i + 1, h, p, p9, f9, OA9, oc9, WA9, wc9, os9, ws9, rfl, by go_num, ⟨by have := HD.out; omega⟩, by omega, HS6, HN0, HB6, HBe6⟩
        · have h16a : ((i : Int) % 16 == 0) = false := by rw [beq_eq_false_iff_ne]; omega
          have h16b : (Int.tmod (i : Int) 16 == 0) = false := by rw [Int.tmod_eq_emod_of_nonneg (by omega)]; exact h16a
          have h16c : (i % 16 == 0) = false := by simpa using h16
          clear h16
          go_upto_region 23 with (fail)
          clear h16a h16b h16c
          have hlc := HS5.out.k.look.c0
          by_cases hbig : 300 < os9.length
          · have hbb : decide ((300 : Int) < (os9.length : Int)) = true := decide_eq_true (by omega)
            have hbb2 : decide (300 < os9.length) = true := decide_eq_true hbig
            clear hbig
            go_wp2_with fail
            refine (spoil_calls W5 P h OA9 oc9 WA9 wc9 os9 ws9 f9 HS5.out.k (by have := HN9.out; omega) (fun s hs => by have := HS5.out.sm s hs; omega)).mono ?_
            rintro e W7 ⟨rfl, -, ht⟩
            have hl7 : Lt W5 f9 W7 f9 (fun x => 0 ≤ x) := ⟨ht, fun _ _ => rfl⟩
            have HP7 := Aside0.mk (HS5.out.p.lt hl7 (by decide) (by decide) (by decide))
            have HQ7 := Aside0.mk (HS5.out.o.lt hl7 (by decide) (by decide) (by decide))
            have HBx7 := Aside0.mk (HB5.out.lt hl7 (by decide))
            have HBe7 := Aside0.mk (below_lt HPS.out HBe5.out hl7 HS5.out.low (by decide))
            clear ht hl7 hlc
            go_wp2_with fail
            go_roundg d
            case measure => omega
            case rel =>
              obtain ⟨f0, hl0, hf0⟩ := Lt.new (f := f9) (T := fun _ => False) (Tn.alloc W7 (.cells #[.slice none 0 0, .slice none 0 0] 43) _) 0
              refine ⟨i + 1, W7.heap.size, p, p9, f0, none, 0, none, 0, [], [], rfl, by go_num, ⟨by have := HD.out; omega⟩, by omega, ⟨⟨HP7.out.lt hl0 (fun h => h) (fun h => h) (fun h => h), HQ7.out.lt hl0 (fun h => h) (fun h => h) (fun h => h), kept_nil (heap_alloc_new W7 _) (by have := HP7.out.base; have := HP7.out.gl; omega) (hf0 _ (Nat.le_refl _)), by simp, Pr_low hl0 HS5.out.low (by have := HP7.out.base; have := HP7.out.gl; omega), .inl ⟨rfl, rfl⟩⟩⟩, ⟨by simp⟩, ⟨HBx7.out.lt hl0 (fun h => h)⟩, ⟨below_lt HPS.out HBe7.out hl0 HS5.out.low (fun h => h)⟩⟩
          · have hbb : decide ((300 : Int) < (os9.length : Int)) = false := decide_eq_false (by omega)
            have hbb2 : decide (300 < os9.length) = false := decide_eq_false hbig
            have HN0 : Aside0 (os9.length ≤ 300) := ⟨by omega⟩
            clear hbig
            go_wp2_with fail
            go_roundg d
            case measure => omega
            case rel => exact ⟨i + 1, h, p, p9, f9, OA9, oc9, WA9, wc9, os9, ws9, rfl, by go_num, ⟨by have := HD.out; omega⟩, by omega, HS5, HN0, HB5, HBe5⟩
      | false =>
        have HO1 := Aside0.mk (op_cells (HOPS.out.below HBe.out).1 HX.out)
        have hx0 := HO1.out.1
        have HOd := Aside0.mk (op_cells (HOPS.out.below HBed.out).1 HX.out)
        have HC := Aside0.mk (show Calls Try.prog 16 #[.agg #[.pointer (some ⟨p.g, 0, none⟩), .pointer (some ⟨p.r, 0, none⟩)], .agg #[.pointer (some ⟨q.g, 0, none⟩), .pointer (some ⟨q.r, 0, none⟩)], .pointer (some ⟨h, 0, none⟩), .agg #[.bool false, .int .i64 k, .int .i64 N, .slice LA ln lc]] wr.drew (StepJ wr.drew P f (-1) (-4) q h os) from step_j wr.drew P h f _ _ _ _ OA oc WA wc os ws HSd.out ⟨false, k, N, LA, ln, lc, xs⟩ ((HOPS.out.below HBed.out).2 _ (List.mem_of_getElem? HX.out)) HXL.out (by have := HN.out; omega))
        go_wp2_with fail
        clear hx0
        refine start_ (n := 13) (S := fun w' => w'.cell? ⟨bp, 0, none⟩ = some (.pointer (some ⟨p.g, 0, none⟩)) ∧ w'.cell? ⟨bp, 1, none⟩ = some (.pointer (some ⟨p.r, 0, none⟩)) ∧ w'.cell? ⟨bq, 0, none⟩ = some (.pointer (some ⟨q.g, 0, none⟩)) ∧ w'.cell? ⟨bq, 1, none⟩ = some (.pointer (some ⟨q.r, 0, none⟩)) ∧ w'.cell? (ad.add (i * 4)) = some (.bool false) ∧ w'.cell? ⟨(ad.add (i * 4)).block, (ad.add (i * 4)).off + 1, none⟩ = some (.int .i64 k) ∧ w'.cell? ⟨(ad.add (i * 4)).block, (ad.add (i * 4)).off + 2, none⟩ = some (.int .i64 N) ∧ w'.cell? ⟨(ad.add (i * 4)).block, (ad.add (i * 4)).off + 3, none⟩ = some (.slice LA ln lc)) (ds := [11]) #[false, false, false, false, false, false, false, false, false, false, false, false, false] (by kernel_rfl) rfl rfl ⟨cell_of (j := 0) HPd.out.hp rfl, cell_of (j := 1) HPd.out.hp rfl, cell_of (j := 0) HPd.out.hq rfl, cell_of (j := 1) HPd.out.hq rfl, HOd.out.1, HOd.out.2.1, HOd.out.2.2.1, HOd.out.2.2.2⟩ (fun hHeld => ?_)
        refine pure_ (i := 2) (N := some 109) (v := ?_) (a' := ?_) #[false, false, true, false, false, false, false, false, false, false, false, false, false] rfl rfl (by kernel_rfl) (fun _ _ _ h => h) (Or.inl ⟨by rfl, ?_⟩) ?_ ?_
        rotate_left
        · intro w'
          go_simp
          with_reducible rfl
        rotate_left
        · simp only [Act.put, List.setIfInBounds_toArray, List.set_cons_zero, List.set_cons_succ, i64_w, i32_w]
          rfl
        refine pure_ (i := 3) (N := some 110) (v := ?_) (a' := ?_) #[false, false, true, true, false, false, false, false, false, false, false, false, false] rfl rfl (by kernel_rfl) (fun _ _ _ h => h) (Or.inl ⟨by rfl, ?_⟩) ?_ ?_
        rotate_left
        · intro w'
          go_simp
          with_reducible rfl
        rotate_left
        · simp only [Act.put, List.setIfInBounds_toArray, List.set_cons_zero, List.set_cons_succ, i64_w, i32_w]
          rfl
        refine pure_ (i := 4) (N := some 111) (v := ?_) (a' := ?_) #[false, false, true, true, true, false, false, false, false, false, false, false, false] rfl rfl (by kernel_rfl) (fun _ _ _ h => h) (Or.inl ⟨by rfl, ?_⟩) ?_ ?_
        rotate_left
        · intro w'
          go_simp
          with_reducible rfl
        rotate_left
        · simp only [Act.put, List.setIfInBounds_toArray, List.set_cons_zero, List.set_cons_succ, i64_w, i32_w]
          rfl
        refine pure_ (i := 5) (N := some 112) (v := ?_) (a' := ?_) #[false, false, true, true, true, true, false, false, false, false, false, false, false] rfl rfl (by kernel_rfl) (fun _ _ _ h => h) (Or.inl ⟨by rfl, ?_⟩) ?_ ?_
        rotate_left
        · intro w'
          go_simp
          with_reducible rfl
        rotate_left
        · simp only [Act.put, List.setIfInBounds_toArray, List.set_cons_zero, List.set_cons_succ, i64_w, i32_w]
          rfl
        refine take_ (i := 0) (N := some 107) (v := ?_) (a' := ?_) #[true, false, true, true, true, true, false, false, false, false, false, false, false] rfl rfl (by kernel_rfl) (fun _ _ _ h => h) (Or.inl ⟨by rfl, ?_⟩) hHeld ?_ ?_
        rotate_left
        · rintro w' ⟨s0, s1, s2, s3, s4, s5, s6, s7⟩
          go_simp
          with_reducible rfl
        rotate_left
        · simp only [Act.put, List.setIfInBounds_toArray, List.set_cons_zero, List.set_cons_succ, i64_w, i32_w]
          rfl
        refine take_ (i := 1) (N := some 108) (v := ?_) (a' := ?_) #[true, true, true, true, true, true, false, false, false, false, false, false, false] rfl rfl (by kernel_rfl) (fun _ _ _ h => h) (Or.inl ⟨by rfl, ?_⟩) hHeld ?_ ?_
        rotate_left
        · rintro w' ⟨s0, s1, s2, s3, s4, s5, s6, s7⟩
          go_simp
          with_reducible rfl
        rotate_left
        · simp only [Act.put, List.setIfInBounds_toArray, List.set_cons_zero, List.set_cons_succ, i64_w, i32_w]
          rfl
        refine take_ (i := 6) (N := some 113) (v := ?_) (a' := ?_) #[true, true, true, true, true, true, true, false, false, false, false, false, false] rfl rfl (by kernel_rfl) (fun _ _ _ h => h) (Or.inl ⟨by rfl, ?_⟩) hHeld ?_ ?_
        rotate_left
        · rintro w' ⟨s0, s1, s2, s3, s4, s5, s6, s7⟩
          go_simp
          with_reducible rfl
        rotate_left
        · simp only [Act.put, List.setIfInBounds_toArray, List.set_cons_zero, List.set_cons_succ, i64_w, i32_w]
          rfl
        refine one_ (i := 7) (N := some 114) #[true, true, true, true, true, true, true, true, false, false, false, false, false] rfl rfl (by kernel_rfl) (by decide) (fun K hK => ?_)
        refine goes_ Try.func16 (by kernel_rfl) rfl #[.agg #[.pointer (some ⟨p.g, 0, none⟩), .pointer (some ⟨p.r, 0, none⟩)], .agg #[.pointer (some ⟨q.g, 0, none⟩), .pointer (some ⟨q.r, 0, none⟩)], .pointer (some ⟨h, 0, none⟩), .agg #[.bool false, .int .i64 k, .int .i64 N, .slice LA ln lc]] (by rfl) rfl rfl (by simp only [List.map_toArray, List.map_cons, List.map_nil]; try rfl) ?_
        with_reducible refine (HC.out).mono ?_
        rintro e w9 ⟨p9, f9, OA9, oc9, WA9, wc9, os9, ws9, rfl, hst, hlen, hlt⟩
        refine ⟨_, rfl, ?_⟩
        have HS9 := Aside0.mk hst; have HB9 := Aside0.mk (HPd.out.lt hlt (by unfold TT; decide)); have HBe9 := Aside0.mk (below_lt HPS.out HBed.out hlt HSd.out.low (by unfold TT; decide)); have HO9 := Aside0.mk (op_cells (HOPS.out.below HBe9.out).1 HX.out); have HN9 : Aside0 (os9.length ≤ 302) := ⟨by have := HN.out; omega⟩; clear hst hlen hlt HC HSd HPd HBed HOd; have qa := cell_of (j := 0) (v := .pointer (some ⟨p.g, 0, none⟩)) HB9.out.hp rfl; have qb := cell_of (j := 1) (v := .pointer (some ⟨p.r, 0, none⟩)) HB9.out.hp rfl; have qc := frozen_of (j := 0) HB9.out.hp; have qd := frozen_of (j := 1) HB9.out.hp
        refine hK.out _ _ ⟨cell_of (j := 0) HB9.out.hp rfl, cell_of (j := 1) HB9.out.hp rfl, cell_of (j := 0) HB9.out.hq rfl, cell_of (j := 1) HB9.out.hq rfl, HO9.out.1, HO9.out.2.1, HO9.out.2.2.1, HO9.out.2.2.2⟩ (fun hHeld => ?_)
        clear hK K
        refine norm_ (a' := ?_) ?_ ?_
        rotate_left
        · show Act.put _ (some 114) _ = _
          simp only [Act.put, List.setIfInBounds_toArray, List.set_cons_zero, List.set_cons_succ, i64_w, i32_w]
          rfl
        refine pure_ (i := 8) (N := some 106) (v := ?_) (a' := ?_) #[true, true, true, true, true, true, true, true, true, false, false, false, false] rfl rfl (by kernel_rfl) (fun _ _ _ h => h) (Or.inl ⟨by rfl, ?_⟩) ?_ ?_
        rotate_left
        · intro w'
          go_simp
          with_reducible rfl
        rotate_left
        · simp only [Act.put, List.setIfInBounds_toArray, List.set_cons_zero, List.set_cons_succ, i64_w, i32_w]
          rfl
        refine pure_ (i := 9) (N := some 115) (v := ?_) (a' := ?_) #[true, true, true, true, true, true, true, true, true, true, false, false, false] rfl rfl (by kernel_rfl) (fun _ _ _ h => h) (Or.inl ⟨by rfl, ?_⟩) ?_ ?_
        rotate_left
        · intro w'
          go_simp
          with_reducible rfl
        rotate_left
        · simp only [Act.put, List.setIfInBounds_toArray, List.set_cons_zero, List.set_cons_succ, i64_w, i32_w]
          rfl
        refine pure_ (i := 10) (N := some 116) (v := ?_) (a' := ?_) #[true, true, true, true, true, true, true, true, true, true, true, false, false] rfl rfl (by kernel_rfl) (fun _ _ _ h => h) (Or.inl ⟨by rfl, ?_⟩) ?_ ?_
        rotate_left
        · intro w'
          go_simp
          with_reducible rfl
        rotate_left
        · simp only [Act.put, List.setIfInBounds_toArray, List.set_cons_zero, List.set_cons_succ, i64_w, i32_w]
          rfl
        refine last_ (i := 11) (N := none) #[true, true, true, true, true, true, true, true, true, true, true, true, false] rfl rfl (by kernel_rfl) (by decide) (fun K hK => ?_)
        refine skip_ (w1 := ?_) (by rfl) rfl ?_ ?_
        rotate_left
        · go_simp
          rfl
        refine hK.out _ _ ?_
        clear hK K
        refine pure_ (i := 12) (N := some 19) (v := ?_) (a' := ?_) #[true, true, true, true, true, true, true, true, true, true, true, true, true] rfl rfl (by kernel_rfl) (fun _ _ _ h => h) (Or.inl ⟨by rfl, ?_⟩) ?_ ?_
        rotate_left
        · intro w'
          go_simp
          with_reducible rfl
        rotate_left
        · simp only [Act.put, List.setIfInBounds_toArray, List.set_cons_zero, List.set_cons_succ, i64_w, i32_w]
          rfl
        refine done_ (by kernel_rfl) ?_
        go_upto_region 21 with (fail)
        have hl5 := lt_box (W := w9) (f := f9) HB9.out.fp (.pointer (some ⟨p9.g, 0, none⟩)) (.pointer (some ⟨p9.r, 0, none⟩))
        have HS5 := Aside0.mk (HS9.out.lt hl5 (fun x e => by omega))
        have HB5 := Aside0.mk (HB9.out.setp p9)
        have HBe5 := Aside0.mk (below_lt HPS.out HBe9.out hl5 HS9.out.low (by decide))
        clear hl5 HS9 HB9 HBe9 HO9 qa qb qc qd
        generalize (w9.setCell ⟨bp, 0, none⟩ (.pointer (some ⟨p9.g, 0, none⟩))).setCell ⟨bp, 1, none⟩ (.pointer (some ⟨p9.r, 0, none⟩)) = W5 at HS5 HB5 HBe5 ⊢
        by_cases h16 : i % 16 = 0
        · have h16a : ((i : Int) % 16 == 0) = true := by rw [beq_iff_eq]; omega
          have h16b : (Int.tmod (i : Int) 16 == 0) = true := by rw [Int.tmod_eq_emod_of_nonneg (by omega)]; exact h16a
          have h16c : (i % 16 == 0) = true := by simp [h16]
          clear h16
          go_wp2_with fail
          refine (holds_calls W5 h OA9 oc9 WA9 wc9 os9 ws9 HS5.out.k.look).mono ?_
          rintro e W6 ⟨rfl, hg⟩
          have hl6 : Lt W5 f9 W6 f9 (fun _ => False) := Lt.gb hg
          have HS6 := Aside0.mk (HS5.out.lt hl6 (fun _ h => h.elim))
          have HB6 := Aside0.mk (HB5.out.lt hl6 (fun h => h))
          have HBe6 := Aside0.mk (below_lt HPS.out HBe5.out hl6 HS5.out.low (fun h => h))
          clear hg hl6 h16a h16b h16c
          have hlc := HS6.out.k.look.c0
          by_cases hbig : 300 < os9.length
          · have hbb : decide ((300 : Int) < (os9.length : Int)) = true := decide_eq_true (by omega)
            have hbb2 : decide (300 < os9.length) = true := decide_eq_true hbig
            clear hbig
            go_wp2_with fail
            refine (spoil_calls W6 P h OA9 oc9 WA9 wc9 os9 ws9 f9 HS6.out.k (by have := HN9.out; omega) (fun s hs => by have := HS6.out.sm s hs; omega)).mono ?_
            rintro e W7 ⟨rfl, -, ht⟩
            have hl7 : Lt W6 f9 W7 f9 (fun x => 0 ≤ x) := ⟨ht, fun _ _ => rfl⟩
            have HP7 := Aside0.mk (HS6.out.p.lt hl7 (by decide) (by decide) (by decide))
            have HQ7 := Aside0.mk (HS6.out.o.lt hl7 (by decide) (by decide) (by decide))
            have HBx7 := Aside0.mk (HB6.out.lt hl7 (by decide))
            have HBe7 := Aside0.mk (below_lt HPS.out HBe6.out hl7 HS6.out.low (by decide))
            clear ht hl7 hlc
            go_wp2_with fail
            go_roundg d
            case measure => omega
            case rel =>
              obtain ⟨f0, hl0, hf0⟩ := Lt.new (f := f9) (T := fun _ => False) (Tn.alloc W7 (.cells #[.slice none 0 0, .slice none 0 0] 43) _) 0
              refine ⟨i + 1, W7.heap.size, p9, q, f0, none, 0, none, 0, [], [], rfl, by go_num, ⟨by have := HD.out; omega⟩, by omega, ⟨⟨HP7.out.lt hl0 (fun h => h) (fun h => h) (fun h => h), HQ7.out.lt hl0 (fun h => h) (fun h => h) (fun h => h), kept_nil (heap_alloc_new W7 _) (by have := HP7.out.base; have := HP7.out.gl; omega) (hf0 _ (Nat.le_refl _)), by simp, Pr_low hl0 HS6.out.low (by have := HP7.out.base; have := HP7.out.gl; omega), .inl ⟨rfl, rfl⟩⟩⟩, ⟨by simp⟩, ⟨HBx7.out.lt hl0 (fun h => h)⟩, ⟨below_lt HPS.out HBe7.out hl0 HS6.out.low (fun h => h)⟩⟩
          · have hbb : decide ((300 : Int) < (os9.length : Int)) = false := decide_eq_false (by omega)
            have hbb2 : decide (300 < os9.length) = false := decide_eq_false hbig
            have HN0 : Aside0 (os9.length ≤ 300) := ⟨by omega⟩
            clear hbig
            go_wp2_with fail
            go_roundg d
            case measure => omega
            case rel => exact ⟨i + 1, h, p9, q, f9, OA9, oc9, WA9, wc9, os9, ws9, rfl, by go_num, ⟨by have := HD.out; omega⟩, by omega, HS6, HN0, HB6, HBe6⟩
        · have h16a : ((i : Int) % 16 == 0) = false := by rw [beq_eq_false_iff_ne]; omega
          have h16b : (Int.tmod (i : Int) 16 == 0) = false := by rw [Int.tmod_eq_emod_of_nonneg (by omega)]; exact h16a
          have h16c : (i % 16 == 0) = false := by simpa using h16
          clear h16
          go_upto_region 23 with (fail)
          clear h16a h16b h16c
          have hlc := HS5.out.k.look.c0
          by_cases hbig : 300 < os9.length
          · have hbb : decide ((300 : Int) < (os9.length : Int)) = true := decide_eq_true (by omega)
            have hbb2 : decide (300 < os9.length) = true := decide_eq_true hbig
            clear hbig
            go_wp2_with fail
            refine (spoil_calls W5 P h OA9 oc9 WA9 wc9 os9 ws9 f9 HS5.out.k (by have := HN9.out; omega) (fun s hs => by have := HS5.out.sm s hs; omega)).mono ?_
            rintro e W7 ⟨rfl, -, ht⟩
            have hl7 : Lt W5 f9 W7 f9 (fun x => 0 ≤ x) := ⟨ht, fun _ _ => rfl⟩
            have HP7 := Aside0.mk (HS5.out.p.lt hl7 (by decide) (by decide) (by decide))
            have HQ7 := Aside0.mk (HS5.out.o.lt hl7 (by decide) (by decide) (by decide))
            have HBx7 := Aside0.mk (HB5.out.lt hl7 (by decide))
            have HBe7 := Aside0.mk (below_lt HPS.out HBe5.out hl7 HS5.out.low (by decide))
            clear ht hl7 hlc
            go_wp2_with fail
            go_roundg d
            case measure => omega
            case rel =>
              obtain ⟨f0, hl0, hf0⟩ := Lt.new (f := f9) (T := fun _ => False) (Tn.alloc W7 (.cells #[.slice none 0 0, .slice none 0 0] 43) _) 0
              refine ⟨i + 1, W7.heap.size, p9, q, f0, none, 0, none, 0, [], [], rfl, by go_num, ⟨by have := HD.out; omega⟩, by omega, ⟨⟨HP7.out.lt hl0 (fun h => h) (fun h => h) (fun h => h), HQ7.out.lt hl0 (fun h => h) (fun h => h) (fun h => h), kept_nil (heap_alloc_new W7 _) (by have := HP7.out.base; have := HP7.out.gl; omega) (hf0 _ (Nat.le_refl _)), by simp, Pr_low hl0 HS5.out.low (by have := HP7.out.base; have := HP7.out.gl; omega), .inl ⟨rfl, rfl⟩⟩⟩, ⟨by simp⟩, ⟨HBx7.out.lt hl0 (fun h => h)⟩, ⟨below_lt HPS.out HBe7.out hl0 HS5.out.low (fun h => h)⟩⟩
          · have hbb : decide ((300 : Int) < (os9.length : Int)) = false := decide_eq_false (by omega)
            have hbb2 : decide (300 < os9.length) = false := decide_eq_false hbig
            have HN0 : Aside0 (os9.length ≤ 300) := ⟨by omega⟩
            clear hbig
            go_wp2_with fail
            go_roundg d
            case measure => omega
            case rel => exact ⟨i + 1, h, p9, q, f9, OA9, oc9, WA9, wc9, os9, ws9, rfl, by go_num, ⟨by have := HD.out; omega⟩, by omega, HS5, HN0, HB5, HBe5⟩
end Go.Proofs.Ytohopfbacfddbaa.S
