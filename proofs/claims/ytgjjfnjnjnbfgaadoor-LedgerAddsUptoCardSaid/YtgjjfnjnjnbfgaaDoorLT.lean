/- Rows of jobs as raw cells: appended they read as both lists; has, walked; whole numbers cut. Conditions: each theorem's own. -/
import Derived.Test.YtgjjfnjnjnbfgaaDoorLK
import Derived.Test.YtgjjfnjnjnbfgaaDoorLQ
import Derived.Test.YtgjjfnjnjnbfgaaDoorGLGx9
import Derived.Test.YtgjjfnjnjnbfgaaDoorGLGx17
import Derived.Test.YtgjjfnjnjnbfgaaDoorLJ
namespace Go.Proofs.YtgjjfnjnjnbfgaaDoor.L
open Go.RowKit Go.Proofs.YtgjjfnjnjnbfgaaDoorW.PrintWords Go.Proofs.YtgjjfnjnjnbfgaaDoorW.PrintLast Go.Proofs.YtgjjfnjnjnbfgaaDoor.H Go.Proofs.YtgjjfnjnjnbfgaaDoor.Q Go.Proofs.YtgjjfnjnjnbfgaaDoor.GLG
set_option linter.unusedVariables false
set_option linter.unusedSimpArgs false
def J8 : Type := { l : List Value // l.length = 8 ∧ ∀ v ∈ l, v.oneCell' = true }
def Ej : Enc J8 := ⟨8, fun x => x.1, fun x => x.2.1, fun x v hv => x.2.2 v hv, by decide⟩
/-- The cells hold the jobs. -/
def Holds (w : World) (ls : List S65) (xs : List J8) : Prop := ls.length = xs.length ∧ ∀ (i : Nat) (p : S65) (x : J8), ls[i]? = some p → xs[i]? = some x → k65.K w p x.1
theorem Holds.below {w w1 : World} {ls : List S65} {xs : List J8} (h : Holds w ls xs) (hb : Below w.heap.size w w1) : Holds w1 ls xs := ⟨h.1, fun i p x hp hx => k65.K_below hb (h.2 i p x hp hx)⟩
theorem Holds.append {w : World} {ls ms : List S65} {xs ys : List J8} (h : Holds w ls xs) (g : Holds w ms ys) : Holds w (ls ++ ms) (xs ++ ys) := by
  refine ⟨by rw [List.length_append, List.length_append, h.1, g.1], fun i p x hp hx => ?_⟩
  rcases Nat.lt_or_ge i ls.length with hi | hi
  · rw [List.getElem?_append_left hi] at hp
    rw [List.getElem?_append_left (by rw [← h.1]; exact hi)] at hx
    exact h.2 i p x hp hx
  · rw [List.getElem?_append_right hi] at hp
    rw [List.getElem?_append_right (by rw [← h.1]; exact hi), ← h.1] at hx
    exact g.2 _ p x hp hx
theorem jobs_rd {w : World} {A : Option Addr} {n : Nat} {ls : List S65} (h : Kd.C k65 w A n ls) : ∃ xs : List J8, Rd Ej w A n xs ∧ Holds w ls xs := by
  rcases Nat.eq_zero_or_pos n with h0 | h0
  · subst h0
    obtain rfl : ls = [] := List.eq_nil_of_length_eq_zero h.1
    exact ⟨[], Rd.nil _ _ _, rfl, fun i p x hp => by simp at hp⟩
  · obtain ⟨ad, rfl, hc⟩ := h.2.2 h0
    have hv : ∀ i, ∃ x : J8, ∀ p, ls[i]? = some p → k65.K w p x.1 ∧ ∀ j u, x.1[j]? = some u → w.cell? (ad.add (i * 8 + j)) = some u := fun i => by
      cases hi : ls[i]? with
      | none => exact ⟨⟨List.replicate 8 (.bool false), by simp, fun v hv => by simp at hv; subst hv; rfl⟩, fun p hp => by cases hp⟩
      | some q =>
        obtain ⟨c, hl, hK, hcell⟩ := hc i q hi
        exact ⟨⟨c, hl, k65.K_one hK⟩, fun p hp => by cases hp; exact ⟨hK, hcell⟩⟩
    let f : Nat → J8 := fun i => Classical.choose (hv i)
    have hf : ∀ i p, ls[i]? = some p → k65.K w p (f i).1 ∧ ∀ j u, (f i).1[j]? = some u → w.cell? (ad.add (i * 8 + j)) = some u := fun i => Classical.choose_spec (hv i)
    have hl := h.1
    refine ⟨(List.range n).map f, ⟨by simp, h.2.1, fun _ => ⟨ad, rfl, fun i v hiv => ?_⟩⟩, by simp [hl], fun i p x hp hx => ?_⟩
    · have hi8 : i < n * 8 := by
        have := (List.getElem?_eq_some_iff.1 hiv).1
        rw [flat_len] at this
        simpa [Ej] using this
      obtain ⟨q, hq⟩ : ∃ q, q = i / 8 := ⟨_, rfl⟩
      obtain ⟨r, hr⟩ : ∃ r, r = i % 8 := ⟨_, rfl⟩
      have ei : i = q * 8 + r := by omega
      have hq1 : q < n := by omega
      have hat : ((List.range n).map f)[q]? = some (f q) := by simp [hq1]
      have e := flat_at Ej _ q r (f q) hat (by show r < 8; omega)
      rw [ei] at hiv
      have h2 : (f q).1[r]? = some v := e.symm.trans hiv
      rw [ei]
      exact (hf q _ (List.getElem?_eq_getElem (by omega))).2 r v h2
    · have hi : i < n := by have := (List.getElem?_eq_some_iff.1 hp).1; omega
      have : x = f i := by
        rw [List.getElem?_map, List.getElem?_range hi] at hx
        exact (Option.some.inj hx).symm
      subst this
      exact (hf i p hp).1
theorem jobs_of {w : World} {A : Option Addr} {n : Nat} {ls : List S65} {xs : List J8} (h : Rd Ej w A n xs) (g : Holds w ls xs) : Kd.C k65 w A n ls := by
  refine ⟨g.1.trans h.1, h.2.1, fun hp => ?_⟩
  obtain ⟨ad, e, hc⟩ := h.2.2 hp
  refine ⟨ad, e, fun i p hi => ?_⟩
  have hil : i < xs.length := by have := (List.getElem?_eq_some_iff.1 hi).1; rw [g.1] at this; exact this
  have hx : xs[i]? = some xs[i] := List.getElem?_eq_getElem hil
  refine ⟨xs[i].1, xs[i].2.1, g.2 i p _ hi hx, fun j u hj => hc (i * 8 + j) u ?_⟩
  have hj8 : j < 8 := by have := (List.getElem?_eq_some_iff.1 hj).1; rw [xs[i].2.1] at this; exact this
  exact (flat_at Ej xs i j _ hx hj8).trans hj
/-- A row of one's own of both lists' cells. -/
theorem own_jobs {w : World} {base n : Nat} {v : Value} {ls : List S65} {xs : List J8} (hn : xs.length = n) (h : w.ownsRow base 65 8 v n (flat Ej xs)) (g : Holds w ls xs) : ∃ A c, v = .slice A n c ∧ n ≤ c ∧ Kd.C k65 w A n ls := by
  obtain ⟨A, c, e, hr, hc, _⟩ := own_open (E := Ej) hn h
  exact ⟨A, c, e, hc, jobs_of hr g⟩
theorem ints_of_rd {w : World} {k : IntKind} {A : Option Addr} {n : Nat} {xs : List Int} (h : Rd (Ei k) w A n xs) : (Kd.int k).C w A n xs := by
  refine Kd.C_of_reads (d := 0) ⟨h.1, h.2.1, fun hp => ?_⟩
  obtain ⟨ad, e, hc⟩ := h.2.2 hp
  refine ⟨ad, e, fun j hj => ?_⟩
  have hl := h.1
  have h1 := flat_at (Ei k) xs j 0 _ (List.getElem?_eq_getElem (by omega)) (by show 0 < 1; omega)
  have h2 := hc (j * 1 + 0) _ (h1.trans rfl)
  rw [show j * 1 + 0 = j by omega] at h2
  rw [h2, List.getD_eq_getElem?_getD, List.getElem?_eq_getElem (by omega)]
  rfl
theorem rawC (w : World) (A : Option Addr) (n c : Nat) (l : List S65) (B : Option Addr) (m d : Nat) (acc : List Int) (now r : Int) (hr : Kd.C k65 w A n l) (hc : n ≤ c) (ha : (Kd.int .i64).C w B m acc) (hd : m ≤ d) (hv : rawV l acc now = r) :
    Calls Tryd.prog 25 #[.slice A n c, .slice B m d, .int .i64 now] w fun e w' => e = .returned (.int .i64 r) ∧ Below w.heap.size w w' := by
  obtain rfl : l.length = n := hr.1
  obtain rfl : acc.length = m := ha.1
  subst hv
  exact ledger_Raw.calls _ A c l B d acc now _ w hr hc ha hd (raw hr.2.1 ha.2.1 now)
theorem has_l {xs : List Int} (hx : xs.length ≤ 9223372036854775807) (a : Int) : ∀ (d i : Nat), i + d = xs.length → backfilllaw12_has.l0 (d + 1) a xs (xs.length : Int) (i : Int) = some (decide (a ∈ xs.drop i))
  | 0, i, hi => by
    simp only [backfilllaw12_has.l0]
    rw [if_neg (by omega), List.drop_of_length_le (by omega)]; rfl
  | d + 1, i, hi => by
    have hl : i < xs.length := by omega
    rw [backfilllaw12_has.l0, if_pos (by omega), if_pos (by omega), if_pos (by omega), rd_nat hl, List.drop_eq_getElem_cons hl]
    have hw : wrap64 ((i : Int) + 1) = ((i + 1 : Nat) : Int) := by rw [Q.wrap64_in (by omega) (by omega)]; rfl
    by_cases e : xs[i] = a
    · rw [if_pos e, decide_eq_true (by rw [e]; exact List.mem_cons_self)]
    · rw [if_neg e, hw, has_l hx a d (i + 1) (by omega)]
      congr 1
      rw [decide_eq_decide, List.mem_cons]
      exact ⟨.inr, fun h => h.resolve_left (fun h2 => e h2.symm)⟩
theorem hasC (w : World) (B : Option Addr) (m d : Nat) (acc : List Int) (a : Int) (r : Bool) (ha : (Kd.int .i64).C w B m acc) (hd : m ≤ d) (hv : decide (a ∈ acc) = r) :
    Calls Tryd.prog 27 #[.slice B m d, .int .i64 a] w fun e w' => e = .returned (.bool r) ∧ Below w.heap.size w w' := by
  obtain rfl : acc.length = m := ha.1
  subst hv
  refine (backfilllaw12_has.calls (acc.length + 1) B d acc a _ w ha hd (by unfold backfilllaw12_has.f; have := has_l ha.2.1 a acc.length 0 (by omega); rwa [List.drop_zero] at this)).mono ?_
  rintro e w' ⟨rfl, n, rfl⟩
  exact ⟨rfl, below_of_gb (gb_drewN w n none)⟩
theorem gb_own {w w1 w2 : World} {row : Option Nat} {e sz n : Nat} {v : Value} {xs : List Value} {b : Nat} (h : w.grownBy w1 row) (ho : w1.ownsRow b e sz v n xs) (hg : w1.grownBy w2 v.ownBlock) (hb : w.heap.size ≤ b) : w.grownBy w2 row := by
  cases hv : v.ownBlock with
  | none => rw [hv] at hg; exact World.grownBy.trans h (gb_any hg row)
  | some g => rw [hv] at hg; exact gb_new h hg (by have := (ho.lt g hv).1; omega)

set_option maxHeartbeats 8000000 in
set_option maxRecDepth 100000 in
theorem own_nilj (w : World) (base : Nat) : w.ownsRow base 65 8 (.slice none 0 0) 0 (flat Ej []) := own_nil _ _ _ _
end Go.Proofs.YtgjjfnjnjnbfgaaDoor.L
