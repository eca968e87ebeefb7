/- Words for the laws on several ledgers: acts read, places among some, ledgers apart from one another. Conditions: each theorem's own. -/
import Derived.Test.YtgjjfnjnjnbfgaaDoorLJ
import Derived.Test.YtgjjfnjnjnbfgaaDoorGLGx15
import Derived.Test.YtgjjfnjnjnbfgaaDoorQLGLedP
namespace Go.Proofs.YtgjjfnjnjnbfgaaDoor.L
open Go.RowKit Go.Proofs.YtgjjfnjnjnbfgaaDoorW.PrintWords Go.Proofs.YtgjjfnjnjnbfgaaDoorW.PrintLast Go.Proofs.YtgjjfnjnjnbfgaaDoor.H Go.Proofs.YtgjjfnjnjnbfgaaDoor.Q Go.Proofs.YtgjjfnjnjnbfgaaDoor.GLG Go.ChangeShapes Go.WideShapes Go.Deep
set_option linter.unusedVariables false
set_option linter.unusedSimpArgs false

/-- An act: its kind, which ledger, an account, nodes. -/
def Ea : Enc (Int × Int × Int × Int) := ⟨4, fun x => [.int .i64 x.1, .int .i64 x.2.1, .int .i64 x.2.2.1, .int .i64 x.2.2.2], fun _ => rfl, fun x v hv => by simp at hv; rcases hv with rfl | rfl | rfl | rfl <;> rfl, by decide⟩
theorem add_off (a : Addr) (k i : Nat) (h : 0 < i) : a.add (k + i) = ⟨(a.add k).block, (a.add k).off + i, none⟩ := by
  rw [← H.add_add]
  cases i with
  | zero => omega
  | succ i => rfl
theorem act_at {w : World} {A : Option Addr} {n : Nat} {xs : List (Int × Int × Int × Int)} (h : Rd Ea w A n xs) (j : Nat) (hj : j < n) :
    ∃ ad x, A = some ad ∧ xs[j]? = some x ∧ w.cell? (ad.add (j * 4)) = some (.int .i64 x.1) ∧ w.cell? ⟨(ad.add (j * 4)).block, (ad.add (j * 4)).off + 1, none⟩ = some (.int .i64 x.2.1) ∧
      w.cell? ⟨(ad.add (j * 4)).block, (ad.add (j * 4)).off + 2, none⟩ = some (.int .i64 x.2.2.1) ∧ w.cell? ⟨(ad.add (j * 4)).block, (ad.add (j * 4)).off + 3, none⟩ = some (.int .i64 x.2.2.2) := by
  obtain ⟨ad, x, e, hx, hc⟩ := h.at_ j hj
  refine ⟨ad, x, e, hx, hc 0 _ rfl, ?_, ?_, ?_⟩
  · rw [← add_off _ _ 1 (by omega)]; exact hc 1 _ rfl
  · rw [← add_off _ _ 2 (by omega)]; exact hc 2 _ rfl
  · rw [← add_off _ _ 3 (by omega)]; exact hc 3 _ rfl
theorem open_acts {H : Type} {enc : TypeId × Value → H} {W : World} {base : Nat} {spare : Nat → Bool} {held : Bool} {a : Option Addr} {len cap : Nat} {d : DataW H} {ps : List MemPlace} {ts : List TypeId} {ds : List (DataW H)} {j : Nat}
    (hsz : (DataW.weightsEach Tryd.prog ts ds).all (· ≤ reachBytes) = true) (ht : ts[j]? = some 25) (hd : ds[j]? = some d) (h : DataW.Trod enc Tryd.prog W base spare held 25 (.slice a len cap) d ps) :
    ∃ ls, Rd Ea W a len ls ∧ len ≤ cap ∧ len * 32 ≤ 140737488351232 := by
  obtain ⟨fuel, hf⟩ := h
  have hf1 : DataW.trod enc Tryd.prog W base spare held fuel 25 [.slice a len cap] = some (d, ps) := by simpa [Value.cells] using hf
  rcases open_fields Tryd.underlying25 Tryd.underlying40 (by kernel_rfl) (by kernel_rfl) hf1 with ⟨hcs, _⟩ | ⟨x, l, c, m, D, Pl, hcs, hl, hm, hml, hx, hi⟩
  · simp at hcs
    obtain ⟨rfl, rfl, rfl⟩ := hcs
    exact ⟨[], Rd.nil _ _ _, Nat.le_refl _, by omega⟩
  · simp at hcs
    obtain ⟨rfl, rfl, rfl⟩ := hcs
    have hv : ∀ i, ∃ q : Int × Int × Int × Int, i < m → ∀ k v, (Ea.enc q)[k]? = some v → W.cell? (x.add (i * 4 + k)) = some v := fun i => by
      by_cases him : i < m
      · obtain ⟨n, hf⟩ := hi i him
        obtain ⟨v0, y0, c0, t0⟩ := hf 0 _ rfl
        obtain ⟨v1, y1, c1, t1⟩ := hf 1 _ rfl
        obtain ⟨v2, y2, c2, t2⟩ := hf 2 _ rfl
        obtain ⟨v3, y3, c3, t3⟩ := hf 3 _ rfl
        obtain ⟨b0, e0, _, _⟩ := DataW.trod_int Tryd.underlying3 t0
        obtain ⟨b1, e1, _, _⟩ := DataW.trod_int Tryd.underlying3 t1
        obtain ⟨b2, e2, _, _⟩ := DataW.trod_int Tryd.underlying3 t2
        obtain ⟨b3, e3, _, _⟩ := DataW.trod_int Tryd.underlying3 t3
        simp at e0 e1 e2 e3
        subst e0 e1 e2 e3
        refine ⟨(b0, b1, b2, b3), fun _ k v hk => ?_⟩
        have hk4 : k < 4 := by have := (List.getElem?_eq_some_iff.1 hk).1; simpa [Ea] using this
        have : k = 0 ∨ k = 1 ∨ k = 2 ∨ k = 3 := by omega
        rcases this with rfl | rfl | rfl | rfl <;> (simp [Ea] at hk; subst hk; assumption)
      · exact ⟨(0, 0, 0, 0), fun h => absurd h him⟩
    let f : Nat → Int × Int × Int × Int := fun i => Classical.choose (hv i)
    have hf' := fun i => Classical.choose_spec (hv i)
    refine ⟨(List.range len).map f, ⟨by simp, by simp only [maxLen] at hm; omega, fun _ => ⟨x, rfl, fun i v hiv => ?_⟩⟩, hl, ?_⟩
    · have hi4 : i < len * 4 := by
        have := (List.getElem?_eq_some_iff.1 hiv).1
        rw [flat_len] at this
        simpa [Ea] using this
      obtain ⟨q, hq⟩ : ∃ q, q = i / 4 := ⟨_, rfl⟩
      obtain ⟨r, hr⟩ : ∃ r, r = i % 4 := ⟨_, rfl⟩
      have ei : i = q * 4 + r := by omega
      have hq1 : q < len := by omega
      have hat : ((List.range len).map f)[q]? = some (f q) := by simp [hq1]
      have e := flat_at Ea _ q r (f q) hat (by show r < 4; omega)
      rw [ei] at hiv
      have h2 : (Ea.enc (f q))[r]? = some v := e.symm.trans hiv
      rw [ei]
      exact hf' q (by omega) r v h2
    · obtain ⟨hx, _⟩ := Prod.mk.inj hx
      subst hx
      have z := sized_slice hsz ht hd Tryd.underlying25
      rw [show Tryd.prog.bytesOf 40 = 32 by kernel_rfl] at z
      simp only [List.length_map, List.length_range] at z
      exact Nat.le_trans (Nat.mul_le_mul_right _ (by omega)) z
set_option maxHeartbeats 8000000 in
set_option maxRecDepth 100000 in
theorem among_calls (w : World) (i n : Int) (hn : n ≤ 9223372036854775807) : Calls Tryd.prog 12 #[.int .i64 i, .int .i64 n] w fun e w' => e = .returned (.int .i64 (amongV i n)) ∧ w = w' := by
  by_cases h : n < 1
  · have HE := Aside0.mk (show amongV i n = 0 by unfold amongV; rw [if_pos h])
    have hb : decide (n < 1) = true := decide_eq_true h
    go_enter Tryd.func12, Tryd.ntmps12
    go_wp2
    go_ret
    exact ⟨by rw [HE.out]; rfl, rfl⟩
  · have hb : decide (n < 1) = false := decide_eq_false h
    have ht := tmod_bd i n (by omega)
    have HT := Aside0.mk ht
    have hn0 : (n == 0) = false := by simp; omega
    have hn1 : ¬ n = 0 := by omega
    by_cases c : Int.tmod i n < 0
    · have HE := Aside0.mk (show amongV i n = wrap64 (Int.tmod i n + n) by unfold amongV; rw [if_neg h, if_pos c, wrap64_in (by omega) (by omega)])
      have hc : decide (Int.tmod i n < 0) = true := decide_eq_true c
      clear h ht
      go_enter Tryd.func12, Tryd.ntmps12
      go_wp2
      go_ret
      exact ⟨by rw [HE.out]; rfl, rfl⟩
    · have HE := Aside0.mk (show amongV i n = Int.tmod i n by unfold amongV; rw [if_neg h, if_neg c])
      have hc : decide (Int.tmod i n < 0) = false := decide_eq_false c
      clear h ht
      go_enter Tryd.func12, Tryd.ntmps12
      go_wp2
      go_ret
      exact ⟨by rw [HE.out]; rfl, rfl⟩
end Go.Proofs.YtgjjfnjnjnbfgaaDoor.L
