/- A slice of Items that is handed in, opened: it reads as a list. Conditions: each theorem's own. -/
import Derived.Test.YtodibpddlibneaaPSI
import Derived.Deep.SlicePairs
import Derived.SizedLaws
namespace Go.Proofs.Ytodibpddlibneaa.S
open Go.RowKit Go.Proofs.YtodibpddlibneaaW.PrintWords Go.Proofs.YtodibpddlibneaaW.PrintLast Go.Proofs.Ytodibpddlibneaa.H Go.ChangeShapes Go.WideShapes Go.Deep
set_option linter.unusedVariables false
set_option linter.unusedSimpArgs false

theorem open_items {H : Type} {enc : TypeId × Value → H} {W : World} {base : Nat} {spare : Nat → Bool} {held : Bool} {a : Option Addr} {len cap : Nat} {d : DataW H} {ps : List MemPlace} {ts : List TypeId} {ds : List (DataW H)} {j : Nat}
    (hsz : (DataW.weightsEach Try.prog ts ds).all (· ≤ reachBytes) = true) (ht : ts[j]? = some 22) (hd : ds[j]? = some d) (h : DataW.Trod enc Try.prog W base spare held 22 (.slice a len cap) d ps) :
    ∃ ls : List (Int × Int), Rd Et W a len ls ∧ len ≤ cap ∧ len * 16 ≤ 140737488351232 := by
  obtain ⟨fuel, hf⟩ := h
  rcases open_slice_pairs Try.underlying22 Try.underlying25 (by kernel_rfl) rfl rfl (by kernel_rfl) (by kernel_rfl) hf with ⟨hcs, _⟩ | ⟨x, l, c, m, n, V0, V1, D0, D1, P0, P1, hcs, _, hl, hm, hmm, hx, hcell⟩
  · simp [Value.cells] at hcs
    obtain ⟨rfl, rfl, rfl⟩ := hcs
    exact ⟨[], Rd.nil Et W none, Nat.le_refl _, by omega⟩
  · simp [Value.cells] at hcs
    obtain ⟨rfl, rfl, rfl⟩ := hcs
    have hml : len ≤ m := by rw [hmm]; split <;> omega
    have hv : ∀ i, ∃ q : Int × Int, i < m → V0 i = .int .i64 q.1 ∧ V1 i = .int .i64 q.2 := fun i => by
      by_cases hi : i < m
      · obtain ⟨_, _, h0, h1⟩ := hcell i hi
        obtain ⟨b0, e0, _, _⟩ := DataW.trod_int Try.underlying3 h0
        obtain ⟨b1, e1, _, _⟩ := DataW.trod_int Try.underlying3 h1
        simp at e0 e1
        exact ⟨(b0, b1), fun _ => ⟨e0, e1⟩⟩
      · exact ⟨(0, 0), fun h => absurd h hi⟩
    let f : Nat → Int × Int := fun i => Classical.choose (hv i)
    have hf' : ∀ i, i < m → V0 i = .int .i64 (f i).1 ∧ V1 i = .int .i64 (f i).2 := fun i => Classical.choose_spec (hv i)
    refine ⟨(List.range len).map f, ⟨by simp, by simp only [maxLen] at hm; omega, fun _ => ⟨x, rfl, fun i v hiv => ?_⟩⟩, hl, ?_⟩
    · have hi : i < len * 2 := by
        have := (List.getElem?_eq_some_iff.1 hiv).1
        rw [flat_len] at this
        simp only [List.length_map, List.length_range] at this
        exact this
      obtain ⟨q, hq⟩ : ∃ q, q = i / 2 := ⟨_, rfl⟩
      have hq1 : q < len := by omega
      have hat : ((List.range len).map f)[q]? = some (f q) := by simp [hq1]
      obtain ⟨c0, c1, _, _⟩ := hcell q (by omega)
      obtain ⟨v0, v1⟩ := hf' q (by omega)
      rcases Nat.mod_two_eq_zero_or_one i with hr | hr
      · have ei : i = q * 2 + 0 := by omega
        have e := flat_at Et _ q 0 (f q) hat (by decide)
        rw [ei] at hiv
        have : v = .int .i64 (f q).1 := by
          have h2 := hiv.symm.trans e
          exact Option.some.inj h2
        rw [ei, this, ← v0]; exact c0
      · have ei : i = q * 2 + 1 := by omega
        have e := flat_at Et _ q 1 (f q) hat (by decide)
        rw [ei] at hiv
        have : v = .int .i64 (f q).2 := by
          have h2 := hiv.symm.trans e
          exact Option.some.inj h2
        rw [ei, this, ← v1]; exact c1
    · obtain ⟨hx, _⟩ := Prod.mk.inj hx
      subst hx
      have z := sized_slice hsz ht hd Try.underlying22
      rw [show Try.prog.bytesOf 25 = 16 by kernel_rfl] at z
      simp only [List.length_map, List.length_range] at z
      exact Nat.le_trans (Nat.mul_le_mul_right _ (by omega)) z
end Go.Proofs.Ytodibpddlibneaa.S
