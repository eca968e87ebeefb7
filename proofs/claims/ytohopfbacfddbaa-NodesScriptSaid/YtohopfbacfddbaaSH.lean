/- Lists that were handed out are written over, and grow: laws. Conditions: each theorem's own. -/
import Derived.Test.YtohopfbacfddbaaSG
namespace Go.Proofs.Ytohopfbacfddbaa.S
open Go.RowKit Go.Proofs.YtohopfbacfddbaaW.PrintWords Go.Proofs.YtohopfbacfddbaaW.PrintLast Go.Proofs.Ytohopfbacfddbaa.H
open Go.Proofs.Ytohopfbacfddbaa.N hiding gb_setCell gb_drewN gb_drew gb_refl gb_any gb_of_below below_of_gb below_gb own_open ne_of_ge cut_at
set_option linter.unusedVariables false
set_option linter.unusedSimpArgs false
/-- append to a row of one's own: it lies where it lay, or all that was there stands. -/
theorem app_at2 {P : Program} {ops : Array Oper} {rest : List Oper} {o : Oper} {a : Act} {Q : Exit → Act → World → Prop} {α : Type} (E : Enc α) {w : World} (base : Nat) (hgd : o.guard = none) (s x : Operand) (t e : TypeId) (z : Value) (bytes : Nat)
    (ho : o.op = .call { callee := .builtin .append, args := #[s, x], argTypes := #[t, t] })
    (ht : P.underlying t = some (.slice e)) (hinfo : (P.info? e).map (fun i => (i.zero, i.size, i.bytes)) = some (some z, E.sz, bytes)) (hz : z.cells.size = E.sz) (hb0 : 0 < bytes)
    (v : Value) (n : Nat) (xs ys : List α) (ad : Addr) (m c : Nat) (hs : a.eval s = v) (hx : a.eval x = .slice (some ad) m c)
    (HO : w.ownsRow base e E.sz v n (flat E xs)) (HR : Rd E w (some ad) m ys) (hbase : base ≤ w.heap.size) (hl : (n + m) * bytes ≤ 140737488355328)
    (h : ∀ v1 w1, w1.ownsRow base e E.sz v1 (n + m) (flat E (xs ++ ys)) → w.grownBy w1 v.ownBlock → (v1.ownBlock = v.ownBlock ∨ v1.ownBlock = some w.heap.size ∧ w.grownBy w1 none) → wpList P ops Q rest (a.put o.dst v1) w1) : wpList P ops Q (o :: rest) a w := by
  obtain ⟨i0, hi, hz0, hz1, hz2⟩ := info_parts hinfo
  have hlen : n + m ≤ 140737488355328 := Nat.le_trans (Nat.le_mul_of_pos_right _ hb0) hl
  have hnews : ∀ j u, (flat E ys)[j]? = some u → w.cell? (ad.add j) = some u := fun j u hu => by
    rcases Nat.eq_zero_or_pos m with h0 | h0
    · obtain rfl : ys = [] := List.eq_nil_of_length_eq_zero (HR.1.trans h0)
      simp [flat_nil] at hu
    · obtain ⟨ad', e', hc⟩ := HR.2.2 h0
      injection e' with e'
      subst e'
      exact hc j u hu
  have hln : (flat E ys).length = m * E.sz := by rw [flat_len, HR.1]
  obtain ⟨v1, w1, hr, h2, h3, _, h5⟩ := run_append_own_at (P := P) w base t o.type e i0 z E.sz bytes ht hi hz0 hz1 hz2 hz E.pos v n (flat E xs) HO ad m c (flat E ys) hln hnews (flat_oneCell E ys) (by simp only [maxLen]; omega) hl hbase
  have h6 : v1.ownBlock = v.ownBlock ∨ v1.ownBlock = some w.heap.size ∧ w.grownBy w1 none := by
    rcases HO.2 with ⟨rfl, _⟩ | ⟨g, cap, cur, rfl, _, hg, hnc, hcm, hcs, htake⟩
    · rcases h5 with h5 | h5
      · exact .inl h5
      · exact .inr ⟨h5, h3⟩
    · by_cases hroom : n + m ≤ cap
      · have hr2 := run_append_room (P := P) w t o.type e i0 ht hi g n cap cur hg ad m c (flat E ys) (by rw [hln, hz1]) hnews (flat_oneCell E ys) hroom (by rw [hln, hcs, hz1, ← Nat.add_mul]; exact Nat.mul_le_mul_right _ hroom)
        rw [hr] at hr2
        injection hr2 with e1 e2
        subst e1
        exact .inl rfl
      · have hr2 := run_append_grow (P := P) w t o.type e i0 z ht hi hz0 ⟨g, 0, none⟩ n cap (flat E xs) (by rw [HO.1, hz1]) (HO.cells (g := g) rfl) ad m c (flat E ys) (by rw [hln, hz1]) hnews (by omega) (by omega) (growslice_fits (by omega) (by rw [hz2]; exact hl))
        rw [hr] at hr2
        injection hr2 with e1 e2
        subst e1 e2
        exact .inr ⟨rfl, World.grownBy.trans (gb_drew w none) (World.grownBy_alloc _ _ none)⟩
  refine wpList_plain hgd fun K hK => ?_
  unfold Oper.wp execOp
  simp only [ho, resolve, invoke, builtin, Sem.run_bind, Sem.run_pure, Result.andThen_ok, List.map_toArray, List.map_cons, List.map_nil, hs, hx, hr]
  exact hK _ _ (h v1 w1 (by rw [flat_append]; exact h2) h3 h6)
theorem es_set {os : List Sl} {i : Nat} {s s' : Sl} (hs : os[i]? = some s) (hA : s'.A = s.A) (hn : s'.n = s.n) (hc : s'.c = s.c) : flat Es (os.set i s') = flat Es os := by
  unfold flat
  congr 1
  rw [List.map_set]
  apply List.ext_getElem?
  intro j
  rw [List.getElem?_set]
  by_cases e : i = j
  · subst e
    have hl := (List.getElem?_eq_some_iff.1 hs).1
    rw [if_pos rfl, if_pos (by simpa using hl), List.getElem?_map, hs]
    simp [Es, hA, hn, hc]
  · rw [if_neg e]
theorem set_at {os : List Sl} {i j : Nat} {s' q : Sl} (h : (os.set i s')[j]? = some q) : (j = i ∧ q = s') ∨ (j ≠ i ∧ os[j]? = some q) := by
  rw [List.getElem?_set] at h
  by_cases e : i = j
  · subst e
    rw [if_pos rfl] at h
    split at h
    · exact .inl ⟨rfl, (Option.some.inj h).symm⟩
    · cases h
  · rw [if_neg e] at h; exact .inr ⟨fun h => e h.symm, h⟩
def setY (s : Sl) (k : Nat) (y : Int) : Sl := ⟨s.A, s.n, s.c, s.xs.set k y⟩
theorem SlOwn.put {w : World} {P sb : Nat} {s : Sl} (h : SlOwn w P s) (hA : s.A = some ⟨sb, 0, none⟩) {k : Nat} (hk : k < s.n) (y : Int) : SlOwn (w.setCell ⟨sb, k, none⟩ (.int .i64 y)) P (setY s k y) := by
  obtain ⟨A, n, c, xs⟩ := s
  obtain rfl : A = some ⟨sb, 0, none⟩ := hA
  have hl := h.len
  have := own_put h k 0 _ y (.int .i64 y) (List.getElem?_eq_getElem (by omega)) (by decide) rfl
  simpa [Ei, SlOwn, setY] using this
section
variable {w : World} {P h : Nat} {OA : Option Addr} {oc : Nat} {WA : Option Addr} {wc : Nat} {os ws : List Sl} {f : Nat → Int}
/-- Both of a pair are written over alike. -/
theorem Kept.put (K : Kept w P h OA oc WA wc os ws f) {i : Nat} {s t : Sl} (hs : os[i]? = some s) (ht : ws[i]? = some t) {sb tb k : Nat} (hA : s.A = some ⟨sb, 0, none⟩) (hB : t.A = some ⟨tb, 0, none⟩) (hk : k < s.n) (y : Int) :
    Kept ((w.setCell ⟨sb, k, none⟩ (.int .i64 y)).setCell ⟨tb, k, none⟩ (.int .i64 y)) P h OA oc WA wc (os.set i (setY s k y)) (ws.set i (setY t k y)) f := by
  have l1 := K.fo i s hs sb ⟨_, hA, rfl⟩
  have l2 := K.fw i t ht tb ⟨_, hB, rfl⟩
  have hxs := K.look.xs_at hs ht
  have hnt : k < t.n := by have h1 := (K.so s (List.mem_of_getElem? hs)).len; have h2 := (K.sw t (List.mem_of_getElem? ht)).len; rw [hxs] at h1; omega
  have hT : Tn w ((w.setCell ⟨sb, k, none⟩ (.int .i64 y)).setCell ⟨tb, k, none⟩ (.int .i64 y)) (fun j => f j = 3 + 2 * (i : Int) ∨ f j = 4 + 2 * (i : Int)) :=
    (Tn.set sb k _ (.inl l1)).trans' (Tn.set tb k _ (.inr l2))
  have f0 := K.f0
  refine ⟨blk_tn K.blk hT (by omega) |> fun e => by simpa using e, ?_, ?_, ?_, ?_, ?_, K.base, K.f0, K.f1, K.f2, ?_, ?_⟩
  · rw [es_set (s' := setY s k y) hs rfl rfl rfl, List.length_set]
    exact own_tn K.ho hT (fun j hj e => by have := K.f1 j (blk_own.1 hj); omega)
  · rw [es_set (s' := setY t k y) ht rfl rfl rfl, List.length_set]
    exact own_tn K.hw hT (fun j hj e => by have := K.f2 j (blk_own.1 hj); omega)
  · rw [List.map_set, List.map_set, K.eq]; simp [setY, hxs]
  · intro q hq
    obtain ⟨j, hj⟩ := List.getElem?_of_mem hq
    rcases set_at hj with ⟨rfl, rfl⟩ | ⟨hne, hj⟩
    · exact ((K.so s (List.mem_of_getElem? hs)).put hA hk y).tn (Tn.set tb k _ (F := fun j => j = tb) rfl) (fun j hj e => by
        have := K.fo _ s hs j hj
        rw [e] at this
        omega)
    · exact (K.so q (List.mem_of_getElem? hj)).tn hT (fun b hb e => by have := K.fo j q hj b hb; omega)
  · intro q hq
    obtain ⟨j, hj⟩ := List.getElem?_of_mem hq
    rcases set_at hj with ⟨rfl, rfl⟩ | ⟨hne, hj⟩
    · exact ((K.sw t (List.mem_of_getElem? ht)).tn (Tn.set sb k _ (F := fun j => j = sb) rfl) (fun j hj e => by
        have := K.fw _ t ht j hj
        rw [e] at this
        omega)).put hB hnt y
    · exact (K.sw q (List.mem_of_getElem? hj)).tn hT (fun b hb e => by have := K.fw j q hj b hb; omega)
  · intro j q hj b hb
    rcases set_at hj with ⟨rfl, rfl⟩ | ⟨hne, hj⟩
    · exact K.fo _ s hs b hb
    · exact K.fo j q hj b hb
  · intro j q hj b hb
    rcases set_at hj with ⟨rfl, rfl⟩ | ⟨hne, hj⟩
    · exact K.fw _ t ht b hb
    · exact K.fw j q hj b hb
end
end Go.Proofs.Ytohopfbacfddbaa.S
