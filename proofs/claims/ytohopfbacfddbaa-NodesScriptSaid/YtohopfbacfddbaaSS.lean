/- Steps that are handed in, opened: a slice of them reads as a list. Conditions: each theorem's own. -/
import Derived.Test.YtohopfbacfddbaaSK
import Derived.Deep.Slices
import Derived.Deep.Fields
import Derived.ChangeSame
import Derived.SizedLaws
namespace Go.Proofs.Ytohopfbacfddbaa.S
open Go.RowKit Go.Proofs.YtohopfbacfddbaaW.PrintWords Go.Proofs.YtohopfbacfddbaaW.PrintLast Go.Proofs.Ytohopfbacfddbaa.H Go.ChangeShapes Go.WideShapes Go.Deep
open Go.Proofs.Ytohopfbacfddbaa.N hiding gb_setCell gb_drewN gb_drew gb_refl gb_any gb_of_below below_of_gb below_gb own_open ne_of_ge cut_at
set_option linter.unusedVariables false
set_option linter.unusedSimpArgs false
structure OpV where
  sec : Bool
  k : Int
  N : Int
  LA : Option Addr
  ln : Nat
  lc : Nat
  xs : List Int
def Eo : Enc OpV := ⟨4, fun x => [.bool x.sec, .int .i64 x.k, .int .i64 x.N, .slice x.LA x.ln x.lc], fun _ => rfl, fun _ v hv => by simp at hv; rcases hv with rfl | rfl | rfl | rfl <;> rfl, by decide⟩
def OpOk (W : World) (x : OpV) : Prop := Rd (Ei .i64) W x.LA x.ln x.xs ∧ x.ln * 8 ≤ 140737488351232
def Ops (W : World) (A : Option Addr) (n : Nat) (ls : List OpV) : Prop := Rd Eo W A n ls ∧ ∀ x ∈ ls, OpOk W x
section
variable {H : Type} {enc : TypeId × Value → H} {P : Program} {w : World} {base : Nat} {spare : Nat → Bool} {held : Bool}
theorem open_fields2 {t e : TypeId} {fs : Array Field} {fuel : Nat} {cs : List Value} {x : DataW H × List MemPlace} (ht : P.underlying t = some (.slice e)) (he : P.underlying e = some (.struct fs))
    (hone : oneCellFields P fs = true) (hC : P.cellsOf e = fs.size) (h : DataW.trod enc P w base spare held fuel t cs = some x) :
    (cs = [.slice none 0 0] ∧ x = (.nil, [])) ∨
    ∃ (a : Addr) (len cap m : Nat) (D : Nat → DataW H) (Pl : Nat → List MemPlace), cs = [.slice (some a) len cap] ∧ len ≤ cap ∧ cap ≤ maxLen ∧ len ≤ m ∧
      x.1 = .slice ((List.range len).map D) ((List.range (m - len)).map fun j => D (len + j)) ∧
      ∀ i, i < m → ∃ (n : Nat) (ys : List (DataW H × List MemPlace)), D i = .agg (ys.map (·.1)) ∧ ∀ (j : Nat) (f : Field), fs[j]? = some f → ∃ (v : Value) (y : DataW H × List MemPlace), w.cell? (a.add (i * fs.size + j)) = some v ∧ ys[j]? = some y ∧ DataW.trod enc P w base spare held n f.type [v] = some y := by
  rcases open_slice ht h with h0 | ⟨a, len, cap, m, n, D, Pl, hcs, hb, hl, hm, hmm, hx, hi⟩
  · exact .inl h0
  · have hml : len ≤ m := by rw [hmm]; split <;> omega
    refine .inr ⟨a, len, cap, m, D, Pl, hcs, hl, hm, hml, by rw [hx], fun i him => ?_⟩
    obtain ⟨cs', hc, ht'⟩ := hi i him
    rw [hC] at hc
    obtain ⟨ys, n', hn', hy, hlen, hyl, hf⟩ := DataW.trod_struct he ht'
    obtain ⟨_, hcl, hat⟩ := World.cells?_some hc
    refine ⟨n', ys, (Prod.mk.inj hy).1, fun j f hj => ?_⟩
    obtain ⟨ho, hk⟩ := hone_of hone j f hj
    have hjl : j < fs.size := (Array.getElem?_eq_some_iff.1 hj).1
    have hcell := hat j hjl
    have hv : cs'[j]? = some (cs'[j]'(by omega)) := List.getElem?_eq_getElem (by omega)
    have h1 := hf j f hj
    rw [ho, hk] at h1
    have hone' : (cs'.drop j).take 1 = [cs'[j]'(by omega)] := by
      rw [List.drop_eq_getElem_cons (by omega)]
      rfl
    rw [hone'] at h1
    have hys : ys[j]? = some (ys[j]'(by omega)) := List.getElem?_eq_getElem (by omega)
    refine ⟨_, _, ?_, hys, h1.trans hys⟩
    rw [← Go.Deep.add_add, hcell, hv]
theorem weights_all {e : TypeId} : ∀ {ds : List (DataW H)} {d : DataW H}, d ∈ ds → ∀ n ∈ d.weights P e, n ∈ DataW.weightsAll P e ds
  | [], d, hd, _, _ => by cases hd
  | d0 :: r, d, hd, n, hn => by
    simp only [DataW.weightsAll, List.mem_append]
    rcases List.mem_cons.1 hd with rfl | hd
    · exact .inl hn
    · exact .inr (weights_all hd n hn)
end
theorem op_ints {H : Type} {enc : TypeId × Value → H} {W : World} {base : Nat} {spare : Nat → Bool} {held : Bool} {fuel : Nat} {v : Value} {y : DataW H × List MemPlace} (h : DataW.trod enc Try.prog W base spare held fuel 22 [v] = some y) :
    ∃ A n c xs, v = .slice A n c ∧ Rd (Ei .i64) W A n xs ∧ (0 < n → ∃ q ∈ y.1.weights Try.prog 22, n * 8 ≤ q) := by
  rcases open_ints Try.underlying22 Try.underlying3 (by kernel_rfl) h with ⟨hcs, _⟩ | ⟨x, l, c, zs, hcs, _, hl, hm, hz, _, hcell, hwz⟩
  · simp at hcs
    subst hcs
    exact ⟨none, 0, 0, [], rfl, Rd.nil _ _ _, fun h => absurd h (by simp)⟩
  · simp at hcs
    subst hcs
    have hzl : l ≤ zs.length := by rw [hz]; split <;> omega
    have e : (zs.take l).length = l := by rw [List.length_take]; omega
    refine ⟨some x, l, c, zs.take l, rfl, rd_ints ⟨e, by simp only [maxLen] at hm; omega, fun _ => ⟨x, rfl, fun j hj => ?_⟩⟩, fun h0 => ?_⟩
    · rw [hcell j (by omega)]
      simp [List.getD, List.getElem?_take, hj]
    · rcases open_slice Try.underlying22 h with ⟨h1, _⟩ | ⟨a, len, cap, m, n, D, Pl, hcs, hb, hl2, hm2, hmm, hx, hi⟩
      · simp at h1
      · simp at hcs
        obtain ⟨rfl, rfl, rfl⟩ := hcs
        refine ⟨_, by rw [hx]; simp only [DataW.weights, Try.underlying22]; exact List.mem_cons_self .., ?_⟩
        rw [show Try.prog.bytesOf 3 = 8 by kernel_rfl]
        simp only [List.length_map, List.length_range]
        exact Nat.mul_le_mul_right _ (by omega)
theorem open_ops {H : Type} {enc : TypeId × Value → H} {W : World} {base : Nat} {spare : Nat → Bool} {held : Bool} {a : Option Addr} {len cap : Nat} {d : DataW H} {ps : List MemPlace} {ts : List TypeId} {ds : List (DataW H)} {j : Nat}
    (hsz : (DataW.weightsEach Try.prog ts ds).all (· ≤ reachBytes) = true) (ht : ts[j]? = some 36) (hd : ds[j]? = some d) (h : DataW.Trod enc Try.prog W base spare held 36 (.slice a len cap) d ps) :
    ∃ ls, Ops W a len ls ∧ len ≤ cap ∧ len * 48 ≤ 140737488351232 := by
  obtain ⟨fuel, hf⟩ := h
  have hf1 : DataW.trod enc Try.prog W base spare held fuel 36 [.slice a len cap] = some (d, ps) := by simpa [Value.cells] using hf
  rcases open_fields2 Try.underlying36 Try.underlying47 (by kernel_rfl) (by kernel_rfl) hf1 with ⟨hcs, _⟩ | ⟨x, l, c, m, D, Pl, hcs, hl, hm, hml, hx, hi⟩
  · simp at hcs
    obtain ⟨rfl, rfl, rfl⟩ := hcs
    exact ⟨[], ⟨Rd.nil _ _ _, by simp⟩, Nat.le_refl _, by omega⟩
  · simp at hcs
    obtain ⟨rfl, rfl, rfl⟩ := hcs
    have hx : d = .slice ((List.range len).map D) ((List.range (m - len)).map fun j => D (len + j)) := hx
    have hW : ∀ i, i < len → ∀ n ∈ (D i).weights Try.prog 47, n ≤ reachBytes := fun i hi n hn => by
      have h1 := List.all_eq_true.1 hsz n (DataW.weights_mem_each ht hd n (by
        rw [hx]
        simp only [DataW.weights, Try.underlying36]
        exact List.mem_cons_of_mem _ (List.mem_append_left _ (weights_all (d := D i) (List.mem_map.2 ⟨i, List.mem_range.2 hi, rfl⟩) n hn))))
      simpa using h1
    have hv : ∀ i, ∃ q : OpV, i < len → OpOk W q ∧ ∀ k v, (Eo.enc q)[k]? = some v → W.cell? (x.add (i * 4 + k)) = some v := fun i => by
      by_cases him : i < len
      · obtain ⟨n, ys, hD, hf⟩ := hi i (by omega)
        obtain ⟨v0, y0, c0, -, t0⟩ := hf 0 _ rfl
        obtain ⟨v1, y1, c1, -, t1⟩ := hf 1 _ rfl
        obtain ⟨v2, y2, c2, -, t2⟩ := hf 2 _ rfl
        obtain ⟨v3, y3, c3, k3, t3⟩ := hf 3 _ rfl
        obtain ⟨b0, e0, _⟩ := DataW.trod_bool Try.underlying4 t0
        obtain ⟨b1, e1, _, _⟩ := DataW.trod_int Try.underlying3 t1
        obtain ⟨b2, e2, _, _⟩ := DataW.trod_int Try.underlying3 t2
        obtain ⟨A, ln, lc, xs, e3, hr, hq⟩ := op_ints t3
        simp at e0 e1 e2
        subst e0 e1 e2 e3
        refine ⟨⟨b0, b1, b2, A, ln, lc, xs⟩, fun _ => ⟨⟨hr, ?_⟩, fun k v hk => ?_⟩⟩
        · rcases Nat.eq_zero_or_pos ln with h0 | h0
          · show ln * 8 ≤ _; omega
          · obtain ⟨q, hq1, hq2⟩ := hq h0
            have h3 := hW i him q (by
              rw [hD]
              simp only [DataW.weights, Try.underlying47]
              exact DataW.weights_mem_each (j := 3) (t := 22) (d := y3.1) rfl (by rw [List.getElem?_map, k3]; rfl) q hq1)
            exact Nat.le_trans hq2 h3
        · have hk4 : k < 4 := by have := (List.getElem?_eq_some_iff.1 hk).1; simpa [Eo] using this
          have : k = 0 ∨ k = 1 ∨ k = 2 ∨ k = 3 := by omega
          rcases this with rfl | rfl | rfl | rfl <;> (simp [Eo] at hk; subst hk; assumption)
      · exact ⟨⟨false, 0, 0, none, 0, 0, []⟩, fun h => absurd h him⟩
    let f : Nat → OpV := fun i => Classical.choose (hv i)
    have hf' := fun i => Classical.choose_spec (hv i)
    refine ⟨(List.range len).map f, ⟨⟨by simp, by simp only [maxLen] at hm; omega, fun _ => ⟨x, rfl, fun i v hiv => ?_⟩⟩, fun q hq => ?_⟩, hl, ?_⟩
    · have hi4 : i < len * 4 := by
        have := (List.getElem?_eq_some_iff.1 hiv).1
        rw [flat_len] at this
        simpa [Eo] using this
      obtain ⟨q, hq⟩ : ∃ q, q = i / 4 := ⟨_, rfl⟩
      obtain ⟨r, hr⟩ : ∃ r, r = i % 4 := ⟨_, rfl⟩
      have ei : i = q * 4 + r := by omega
      have hq1 : q < len := by omega
      have hat : ((List.range len).map f)[q]? = some (f q) := by simp [hq1]
      have e := flat_at Eo _ q r (f q) hat (by show r < 4; omega)
      rw [ei] at hiv
      have h2 : (Eo.enc (f q))[r]? = some v := e.symm.trans hiv
      rw [ei]
      exact (hf' q hq1).2 r v h2
    · obtain ⟨i, hi1, rfl⟩ := List.mem_map.1 hq
      exact (hf' i (List.mem_range.1 hi1)).1
    · subst hx
      have z := sized_slice hsz ht hd Try.underlying36
      rw [show Try.prog.bytesOf 47 = 48 by kernel_rfl] at z
      simp only [List.length_map, List.length_range] at z
      exact Nat.le_trans (Nat.mul_le_mul_right _ (by omega)) z
end Go.Proofs.Ytohopfbacfddbaa.S
