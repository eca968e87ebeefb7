/- Jobs that are handed in, opened: a slice of them reads as a list. LedgerRaw walked: it answers true. Conditions: each theorem's own. -/
import Derived.Test.YtgjjfnjnjnbfgaaDoorLS
import Derived.Test.YtgjjfnjnjnbfgaaDoorGLGx9
import Derived.Test.YtgjjfnjnjnbfgaaDoorGLGx10
import Derived.Test.YtgjjfnjnjnbfgaaDoorQLGRaw
import Derived.Deep.Slices
import Derived.Deep.Fields
import Derived.ChangeSame
import Derived.SizedLaws
namespace Go.Proofs.YtgjjfnjnjnbfgaaDoor.L
open Go.RowKit Go.Proofs.YtgjjfnjnjnbfgaaDoorW.PrintWords Go.Proofs.YtgjjfnjnjnbfgaaDoorW.PrintLast Go.Proofs.YtgjjfnjnjnbfgaaDoor.H Go.Proofs.YtgjjfnjnjnbfgaaDoor.Q Go.Proofs.YtgjjfnjnjnbfgaaDoor.GLG Go.ChangeShapes Go.WideShapes Go.Deep
set_option linter.unusedVariables false
set_option linter.unusedSimpArgs false

section
variable {H : Type} {enc : TypeId × Value → H} {P : Program} {w : World} {base : Nat} {spare : Nat → Bool} {held : Bool}
/-- A slice of structs of one-cell fields, opened to its cells. -/
theorem open_fields {t e : TypeId} {fs : Array Field} {fuel : Nat} {cs : List Value} {x : DataW H × List MemPlace} (ht : P.underlying t = some (.slice e)) (he : P.underlying e = some (.struct fs))
    (hone : oneCellFields P fs = true) (hC : P.cellsOf e = fs.size) (h : DataW.trod enc P w base spare held fuel t cs = some x) :
    (cs = [.slice none 0 0] ∧ x = (.nil, [])) ∨
    ∃ (a : Addr) (len cap m : Nat) (D : Nat → DataW H) (Pl : Nat → List MemPlace), cs = [.slice (some a) len cap] ∧ len ≤ cap ∧ cap ≤ maxLen ∧ len ≤ m ∧
      x = (.slice ((List.range len).map D) ((List.range (m - len)).map fun j => D (len + j)), MemPlace.row a (m * fs.size) ++ (List.range m).flatMap Pl) ∧
      ∀ i, i < m → ∃ n : Nat, ∀ (j : Nat) (f : Field), fs[j]? = some f → ∃ (v : Value) (y : DataW H × List MemPlace), w.cell? (a.add (i * fs.size + j)) = some v ∧ DataW.trod enc P w base spare held n f.type [v] = some y := by
  rcases open_slice ht h with h0 | ⟨a, len, cap, m, n, D, Pl, hcs, hb, hl, hm, hmm, hx, hi⟩
  · exact .inl h0
  · have hml : len ≤ m := by rw [hmm]; split <;> omega
    refine .inr ⟨a, len, cap, m, D, Pl, hcs, hl, hm, hml, by rw [hC] at hx; exact hx, fun i him => ?_⟩
    obtain ⟨cs', hc, ht'⟩ := hi i him
    rw [hC] at hc
    obtain ⟨ys, n', hn', hy, hlen, hyl, hf⟩ := DataW.trod_struct he ht'
    obtain ⟨_, hcl, hat⟩ := World.cells?_some hc
    refine ⟨n', fun j f hj => ?_⟩
    obtain ⟨ho, hk⟩ := hone_of hone j f hj
    have hjl : j < fs.size := (Array.getElem?_eq_some_iff.1 hj).1
    have hcell := hat j hjl
    have hv : cs'[j]? = some (cs'[j]'(by omega)) := List.getElem?_eq_getElem (by omega)
    have h1 := hf j f hj
    rw [ho, hk] at h1
    have hone' : (cs'.drop j).take 1 = [cs'[j]'(by omega)] := by
      rw [List.drop_eq_getElem_cons (by omega)]
      rfl
    rw [hone'] at h1
    have hys : ys[j]? = some (ys[j]'(by omega)) := List.getElem?_eq_getElem (by omega)
    refine ⟨_, _, ?_, h1.trans hys⟩
    rw [← Go.Deep.add_add, hcell, hv]
end
theorem c_ints {H : Type} {enc : TypeId × Value → H} {W : World} {base : Nat} {spare : Nat → Bool} {held : Bool} {fuel : Nat} {v : Value} {y : DataW H × List MemPlace} (h : DataW.trod enc Tryd.prog W base spare held fuel 26 [v] = some y) :
    ∃ A c l, v = .slice A (l : List Int).length c ∧ l.length ≤ c ∧ (Kd.int .i64).C W A l.length l := by
  rcases open_ints Tryd.underlying26 Tryd.underlying3 (by kernel_rfl) h with ⟨hcs, _⟩ | ⟨x, l, c, zs, hcs, _, hl, hm, hz, _, hcell, hwz⟩
  · simp at hcs
    subst hcs
    exact ⟨none, 0, [], rfl, Nat.le_refl _, Kd.C_of_reads (d := 0) ⟨rfl, by simp, fun h => absurd h (by simp)⟩⟩
  · simp at hcs
    subst hcs
    have hzl : l ≤ zs.length := by rw [hz]; split <;> omega
    have e : (zs.take l).length = l := by rw [List.length_take]; omega
    refine ⟨some x, c, zs.take l, by rw [e], by rw [e]; exact hl, Kd.C_of_reads (d := 0) ⟨rfl, by rw [e]; simp only [maxLen] at hm; omega, fun _ => ⟨x, rfl, fun j hj => ?_⟩⟩⟩
    rw [e] at hj
    rw [hcell j (by omega)]
    simp [List.getD, List.getElem?_take, hj]
theorem open_jobs_cells {H : Type} {enc : TypeId × Value → H} {W : World} {base : Nat} {spare : Nat → Bool} {held : Bool} {fuel : Nat} {v : Value} {x : DataW H × List MemPlace} (h : DataW.trod enc Tryd.prog W base spare held fuel 60 [v] = some x) :
    ∃ A len cap ls, v = .slice A len cap ∧ Kd.C k65 W A len ls ∧ len ≤ cap := by
  rcases open_fields Tryd.underlying60 Tryd.underlying65 (by kernel_rfl) (by kernel_rfl) h with ⟨hcs, _⟩ | ⟨a, len, cap, m, D, Pl, hcs, hl, hm, hml, _, hi⟩
  · simp at hcs
    subst hcs
    exact ⟨none, 0, 0, [], rfl, ⟨rfl, by simp, fun h => absurd h (by simp)⟩, Nat.le_refl _⟩
  · simp at hcs
    subst hcs
    have hv : ∀ i, ∃ q : S65, i < m → ∃ c, c.length = k65.sz ∧ k65.K W q c ∧ ∀ j u, c[j]? = some u → W.cell? (a.add (i * 8 + j)) = some u := fun i => by
      by_cases him : i < m
      · obtain ⟨n, hf⟩ := hi i him
        obtain ⟨v0, y0, c0, t0⟩ := hf 0 _ rfl
        obtain ⟨v1, y1, c1, t1⟩ := hf 1 _ rfl
        obtain ⟨v2, y2, c2, t2⟩ := hf 2 _ rfl
        obtain ⟨v3, y3, c3, t3⟩ := hf 3 _ rfl
        obtain ⟨v4, y4, c4, t4⟩ := hf 4 _ rfl
        obtain ⟨v5, y5, c5, t5⟩ := hf 5 _ rfl
        obtain ⟨v6, y6, c6, t6⟩ := hf 6 _ rfl
        obtain ⟨v7, y7, c7, t7⟩ := hf 7 _ rfl
        obtain ⟨b0, e0, _, _⟩ := DataW.trod_int Tryd.underlying3 t0
        obtain ⟨b1, e1, _, _⟩ := DataW.trod_int Tryd.underlying3 t1
        obtain ⟨b2, e2, _, _⟩ := DataW.trod_int Tryd.underlying3 t2
        obtain ⟨b3, e3, _, _⟩ := DataW.trod_int Tryd.underlying3 t3
        obtain ⟨b4, e4, _, _⟩ := DataW.trod_int Tryd.underlying3 t4
        obtain ⟨b5, e5, _, _⟩ := DataW.trod_int Tryd.underlying3 t5
        obtain ⟨b6, e6, _, _⟩ := DataW.trod_int Tryd.underlying3 t6
        obtain ⟨A7, d7, l7, e7, hl7, g7⟩ := c_ints t7
        simp at e0 e1 e2 e3 e4 e5 e6
        subst e0 e1 e2 e3 e4 e5 e6 e7
        refine ⟨⟨b0, b1, b2, b3, b4, b5, b6, l7⟩, fun _ => ⟨_, rfl, k65_mk W ⟨b0, b1, b2, b3, b4, b5, b6, l7⟩ hl7 g7, fun j u hj => ?_⟩⟩
        have hj8 : j < 8 := by have := (List.getElem?_eq_some_iff.1 hj).1; simpa using this
        have : j = 0 ∨ j = 1 ∨ j = 2 ∨ j = 3 ∨ j = 4 ∨ j = 5 ∨ j = 6 ∨ j = 7 := by omega
        rcases this with rfl | rfl | rfl | rfl | rfl | rfl | rfl | rfl <;> (simp at hj; subst hj; assumption)
      · exact ⟨z65, fun h => absurd h him⟩
    let f : Nat → S65 := fun i => Classical.choose (hv i)
    have hf' := fun i => Classical.choose_spec (hv i)
    refine ⟨some a, len, cap, (List.range len).map f, rfl, ⟨by simp, by simp only [maxLen] at hm; omega, fun _ => ⟨a, rfl, fun j p hj => ?_⟩⟩, hl⟩
    have hjl : j < len := by have := (List.getElem?_eq_some_iff.1 hj).1; simpa using this
    have hp : p = f j := by
      rw [List.getElem?_map, List.getElem?_range hjl] at hj
      exact (Option.some.inj hj).symm
    subst hp
    exact hf' j (by omega)
theorem open_jobs {H : Type} {enc : TypeId × Value → H} {W : World} {base : Nat} {spare : Nat → Bool} {held : Bool} {a : Option Addr} {len cap : Nat} {d : DataW H} {ps : List MemPlace} {ts : List TypeId} {ds : List (DataW H)} {j : Nat}
    (hsz : (DataW.weightsEach Tryd.prog ts ds).all (· ≤ reachBytes) = true) (ht : ts[j]? = some 60) (hd : ds[j]? = some d) (h : DataW.Trod enc Tryd.prog W base spare held 60 (.slice a len cap) d ps) :
    ∃ ls : List S65, Kd.C k65 W a len ls ∧ len ≤ cap ∧ len * 80 ≤ 140737488351232 := by
  obtain ⟨fuel, hf⟩ := h
  have hf1 : DataW.trod enc Tryd.prog W base spare held fuel 60 [.slice a len cap] = some (d, ps) := by simpa [Value.cells] using hf
  obtain ⟨A', len', cap', ls, he, hc, hl⟩ := open_jobs_cells hf1
  injection he with h1 h2 h3
  subst h1 h2 h3
  refine ⟨ls, hc, hl, ?_⟩
  rcases open_fields Tryd.underlying60 Tryd.underlying65 (by kernel_rfl) (by kernel_rfl) hf1 with ⟨hcs, _⟩ | ⟨x, l, c, m, D, Pl, hcs, _, hm, hml, hx, _⟩
  · simp at hcs
    omega
  · simp at hcs
    obtain ⟨rfl, rfl, rfl⟩ := hcs
    obtain ⟨hx, _⟩ := Prod.mk.inj hx
    subst hx
    have z := sized_slice hsz ht hd Tryd.underlying60
    rw [show Tryd.prog.bytesOf 65 = 80 by kernel_rfl] at z
    simp only [List.length_map, List.length_range] at z
    exact Nat.le_trans (Nat.mul_le_mul_right _ (by omega)) z
set_option maxHeartbeats 8000000 in
set_option maxRecDepth 100000 in
theorem Raw_law (w : World) (hL : LaidW w) (A : Option Addr) (n c : Nat) (l : List S65) (hr : Kd.C k65 w A n l) (hc : n ≤ c) (hs : n * 80 ≤ 140737488351232) (B : Option Addr) (d : Nat) (acc : List Int) (ha : ReadsInt w .i64 B acc.length acc) (hd : acc.length ≤ d) (hs2 : acc.length * 8 ≤ 140737488351232) (hu : ∀ x ∈ acc, (Lit.int .i64 x).wf = true) (now : Int) (hw : (Lit.int .i64 now).wf = true) :
    Calls Tryd.prog 6 #[.slice A n c, .slice B acc.length d, .int .i64 now] w fun e w' => e = .returned (.bool true) ∧ Below w.heap.size w w' := by
  obtain rfl : l.length = n := hr.1
  have HR := Aside0.mk hr
  have HA := Aside0.mk (show Kd.C (Kd.int .i64) w B acc.length acc from Kd.C_of_reads (d := 0) ha)
  have HL := Aside0.mk hL
  have R1 := Aside0.mk (raw (jobs := l) (acc := acc) (by omega) (by omega) now)
  have R2 := Aside0.mk (rraw (jobs := l) (acc := acc) (by omega) (by omega) now)
  clear hr ha hL hu hw
  go_enter Tryd.func6, Tryd.ntmps6
  go_wp2_with fail
  refine (shown_calls w HL.out).mono ?_
  rintro e w1 ⟨rfl, hb⟩
  have HB1 := Aside0.mk hb
  clear hb
  go_wp2_with fail
  refine (ledger_Raw.calls _ A c l B d acc now _ w1 (Kd.C_below HR.out HB1.out) hc (Kd.C_below HA.out HB1.out) hd R1.out).mono ?_
  rintro e w2 ⟨rfl, hb⟩
  have HB2 := Aside0.mk (below_step HB1.out hb)
  clear hb HB1
  go_wp2_with fail
  refine (backfillref12_Raw.calls _ A c l B d acc now _ w2 (Kd.C_below HR.out HB2.out) hc (Kd.C_below HA.out HB2.out) hd R2.out).mono ?_
  rintro e w3 ⟨rfl, hb⟩
  have HB3 := Aside0.mk (below_step HB2.out hb)
  clear hb HB2
  go_wp2
  go_ret
  exact ⟨rfl, HB3.out⟩
end Go.Proofs.YtgjjfnjnjnbfgaaDoor.L
