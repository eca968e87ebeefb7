/- What takings and givings back do to the list of free nodes: plain. Conditions: each theorem's own. -/
import Derived.Test.YtohopfbacfddbaaNE
namespace Go.Proofs.Ytohopfbacfddbaa.N
open Go.RowKit Go.Proofs.YtohopfbacfddbaaW.PrintWords

theorem freeTo_congr {n : Nat} {t u : Nat → Nat} (h : ∀ i, i < n → bitT t i = bitT u i) : ∀ m, m ≤ n → freeTo n t m = freeTo n u m
  | 0, _ => rfl
  | m + 1, hm => by
    rw [freeTo_succ, freeTo_succ, freeTo_congr h m (by omega)]
    have : hasB n t (m : Int) = hasB n u (m : Int) := by simp [hasB, h m (by omega)]
    rw [this]
/-- How a row of turns parts: each number turns its own node. -/
theorem bit_turn : ∀ (xs : List Int) (t : Nat → Nat) (i : Nat), xs.Nodup → (∀ x ∈ xs, 0 ≤ x) → bitT (turnT t xs) i = (bitT t i ^^ decide ((i : Int) ∈ xs))
  | [], t, i, _, _ => by simp [turnT]
  | x :: r, t, i, hn, h0 => by
    obtain ⟨hx, hr⟩ := List.nodup_cons.1 hn
    have e : turnT t (x :: r) = turnT (flip t x.toNat) r := rfl
    rw [e, bit_turn r _ i hr (fun y hy => h0 y (List.mem_cons_of_mem _ hy)), bit_flip]
    have hx0 := h0 x (by simp)
    by_cases h : x = (i : Int)
    · subst h
      have : ((i : Int) ∈ r) = False := by simpa using hx
      simp [this]
    · have h1 : x.toNat ≠ i := by omega
      have h2 : ((i : Int) ∈ x :: r) = ((i : Int) ∈ r) := by
        rw [List.mem_cons]
        simp only [eq_iff_iff]
        exact ⟨fun h' => h'.resolve_left (fun e => h e.symm), .inr⟩
      simp [h1, h2]
theorem freeTo_rising (n : Nat) (t : Nat → Nat) : ∀ m, m ≤ n → (freeTo n t m).Pairwise (· < ·) ∧ ∀ x ∈ freeTo n t m, 0 ≤ x ∧ x < (m : Int) ∧ bitT t x.toNat = false
  | 0, _ => by simp [freeTo]
  | m + 1, hm => by
    obtain ⟨h1, h2⟩ := freeTo_rising n t m (by omega)
    rw [freeTo_succ]
    by_cases hq : hasB n t (m : Int) = true
    · rw [if_pos hq]
      refine ⟨List.pairwise_append.2 ⟨h1, by simp, fun a ha b hb => ?_⟩, fun x hx => ?_⟩
      · have := h2 a ha
        simp only [List.mem_singleton] at hb
        omega
      · rcases List.mem_append.1 hx with hx | hx
        · have := h2 x hx
          exact ⟨this.1, by omega, this.2.2⟩
        · simp only [List.mem_singleton] at hx
          subst hx
          simp only [hasB, Bool.and_eq_true, decide_eq_true_eq] at hq
          refine ⟨by omega, by omega, by simpa using hq.2.2⟩
    · rw [if_neg hq]
      exact ⟨h1, fun x hx => by have := h2 x hx; exact ⟨this.1, by omega, this.2.2⟩⟩
theorem risB_of {n : Nat} : ∀ (xs : List Int) (last : Int), xs.Pairwise (· < ·) → (∀ x ∈ xs, last < x ∧ x < (n : Int)) → risB n last xs = true
  | [], _, _, _ => rfl
  | x :: r, last, hp, h => by
    obtain ⟨h1, h2⟩ := List.pairwise_cons.1 hp
    have hx := h x (by simp)
    rw [risB, if_neg (by omega), if_neg (by omega)]
    exact risB_of r x h2 (fun y hy => ⟨h1 y hy, (h y (List.mem_cons_of_mem _ hy)).2⟩)
theorem pw_nodup : ∀ {xs : List Int}, xs.Pairwise (· < ·) → xs.Nodup
  | [], _ => by simp
  | x :: r, h => by
    obtain ⟨h1, h2⟩ := List.pairwise_cons.1 h
    exact List.nodup_cons.2 ⟨fun hx => by have := h1 x hx; omega, pw_nodup h2⟩
theorem hasB_nat {n : Nat} {t : Nat → Nat} {x : Int} (h0 : 0 ≤ x) (h1 : x < (n : Int)) : hasB n t x = !bitT t x.toNat := by
  simp [hasB, h0, h1]
theorem filter_app (a b : List Int) (hd : ∀ x ∈ b, x ∉ a) : (a ++ b).filter (fun x => !decide (x ∈ a)) = b := by
  rw [List.filter_append]
  have h1 : a.filter (fun x => !decide (x ∈ a)) = [] := by
    rw [List.filter_eq_nil_iff]; intro x hx; simp [hx]
  have h2 : b.filter (fun x => !decide (x ∈ a)) = b := by
    rw [List.filter_eq_self]; intro x hx; simp [hd x hx]
  rw [h1, h2]; rfl
theorem filter_drop (xs : List Int) (m : Nat) (h : xs.Nodup) : xs.filter (fun x => !decide (x ∈ xs.take m)) = xs.drop m := by
  have e : xs.take m ++ xs.drop m = xs := List.take_append_drop m xs
  have hd : ∀ x ∈ xs.drop m, x ∉ xs.take m := fun x hx hy => by
    rw [← e] at h
    exact (List.nodup_append.1 h).2.2 x hy x hx rfl
  have := filter_app _ _ hd
  rwa [e] at this

/-- All that the law asks of what was taken. -/
structure TakeLaw (n : Nat) (t : Nat → Nat) (m : Nat) : Prop where
  has : ∀ x ∈ (freeTo n t n).take m, hasB n (turnT t ((freeTo n t n).take m)) x = false
  list : freeTo n (turnT t ((freeTo n t n).take m)) n = (freeTo n t n).drop m
  claim : mayE n (turnT t ((freeTo n t n).take m)) true ((freeTo n t n).take m) = 21
  give : mayE n (turnT t ((freeTo n t n).take m)) false ((freeTo n t n).take m) = 0
  back : freeTo n (turnT (turnT t ((freeTo n t n).take m)) ((freeTo n t n).take m)) n = freeTo n t n
  give2 : mayE n (turnT (turnT t ((freeTo n t n).take m)) ((freeTo n t n).take m)) false ((freeTo n t n).take m) = 21
  claim2 : mayE n (turnT (turnT t ((freeTo n t n).take m)) ((freeTo n t n).take m)) true ((freeTo n t n).take m) = 0
  list2 : freeTo n (turnT (turnT (turnT t ((freeTo n t n).take m)) ((freeTo n t n).take m)) ((freeTo n t n).take m)) n = (freeTo n t n).drop m
theorem freeTo_filter {n : Nat} {t u : Nat → Nat} {L : List Int} (h : ∀ i, i < n → bitT u i = (bitT t i || decide ((i : Int) ∈ L))) : ∀ m, m ≤ n → freeTo n u m = (freeTo n t m).filter (fun x => !decide (x ∈ L))
  | 0, _ => rfl
  | m + 1, hm => by
    rw [freeTo_succ, freeTo_succ, freeTo_filter h m (by omega)]
    have e1 := hasB_nat (n := n) (t := u) (x := (m : Int)) (by omega) (by omega)
    have e2 := hasB_nat (n := n) (t := t) (x := (m : Int)) (by omega) (by omega)
    rw [Int.toNat_natCast] at e1 e2
    rw [e1, e2, h m (by omega)]
    by_cases hb : bitT t m = true <;> by_cases hm : (m : Int) ∈ L <;> simp [hb, hm]
theorem take_law {n : Nat} {t : Nat → Nat} {m : Nat} (h0 : 1 ≤ m) (hm : m ≤ (freeTo n t n).length) : TakeLaw n t m := by
  obtain ⟨hp, hf⟩ := freeTo_rising n t n (Nat.le_refl _)
  have hnd := pw_nodup hp
  have hpt : ((freeTo n t n).take m).Pairwise (· < ·) := hp.sublist (List.take_sublist _ _)
  have hndt := pw_nodup hpt
  obtain ⟨L, hL⟩ : ∃ L, L = (freeTo n t n).take m := ⟨_, rfl⟩
  have hmem : ∀ x ∈ L, 0 ≤ x ∧ x < (n : Int) ∧ bitT t x.toNat = false := fun x hx => by rw [hL] at hx; exact hf x (List.mem_of_mem_take hx)
  have hne : L ≠ [] := by intro h; have := congrArg List.length (hL.symm.trans h); rw [List.length_take] at this; simp only [List.length_nil] at this; omega
  have hfd := filter_drop (freeTo n t n) m hnd
  rw [← hL] at hpt hndt hfd
  have hris : risB n (-1) L = true := risB_of L (-1) hpt (fun x hx => by have := hmem x hx; omega)
  have b1 : ∀ i, bitT (turnT t L) i = (bitT t i ^^ decide ((i : Int) ∈ L)) := fun i => bit_turn L t i hndt (fun x hx => (hmem x hx).1)
  have b2 : ∀ i, bitT (turnT (turnT t L) L) i = bitT t i := fun i => by rw [bit_turn L _ i hndt (fun x hx => (hmem x hx).1), b1]; cases bitT t i <;> simp
  have b3 : ∀ i, bitT (turnT (turnT (turnT t L) L) L) i = (bitT t i ^^ decide ((i : Int) ∈ L)) := fun i => by rw [bit_turn L _ i hndt (fun x hx => (hmem x hx).1), b2]
  have hor : ∀ i, i < n → (bitT t i ^^ decide ((i : Int) ∈ L)) = (bitT t i || decide ((i : Int) ∈ L)) := fun i _ => by
    by_cases hi : (i : Int) ∈ L
    · have := (hmem _ hi).2.2
      rw [Int.toNat_natCast] at this
      simp [hi, this]
    · simp [hi]
  have has1 : ∀ x ∈ L, hasB n (turnT t L) x = false := fun x hx => by
    obtain ⟨h1, h2, h3⟩ := hmem x hx
    rw [hasB_nat h1 h2, b1, h3]
    have : ((x.toNat : Nat) : Int) = x := by omega
    simp [this, hx]
  have has2 : ∀ x ∈ L, hasB n (turnT (turnT t L) L) x = true := fun x hx => by
    obtain ⟨h1, h2, h3⟩ := hmem x hx
    rw [hasB_nat h1 h2, b2, h3]; rfl
  obtain ⟨y, hy⟩ : ∃ y, y ∈ L := by cases L with | nil => exact absurd rfl hne | cons y r => exact ⟨y, by simp⟩
  have nall {u : Nat → Nat} {f g : Bool} (hfg : f ≠ g) (h : ∀ x ∈ L, hasB n u x = f) : L.all (fun x => hasB n u x == g) = false := by
    rw [List.all_eq_false]
    exact ⟨y, hy, by rw [h y hy]; simpa using hfg⟩
  have yall {u : Nat → Nat} {f : Bool} (h : ∀ x ∈ L, hasB n u x = f) : L.all (fun x => hasB n u x == f) = true := by
    rw [List.all_eq_true]
    exact fun x hx => by rw [h x hx]; simp
  subst hL
  exact {
    has := has1
    list := by rw [freeTo_filter (t := t) (fun i hi => by rw [b1, hor i hi]) n (Nat.le_refl _), hfd]
    claim := by rw [mayE, hris, nall (by decide) has1]; rfl
    give := by rw [mayE, hris, yall has1]; rfl
    back := freeTo_congr (fun i _ => b2 i) n (Nat.le_refl _)
    give2 := by rw [mayE, hris, nall (by decide) has2]; rfl
    claim2 := by rw [mayE, hris, yall has2]; rfl
    list2 := by rw [freeTo_filter (t := t) (fun i hi => by rw [b3, hor i hi]) n (Nat.le_refl _), hfd] }
/-- The same, with names for the lists. -/
structure TakeAll (n : Nat) (t : Nat → Nat) (m : Nat) (F L D : List Int) : Prop where
  eF : freeTo n t n = F
  eL : F.take m = L
  eD : F.drop m = D
  lL : L.length = m
  lD : m ≤ F.length ∧ D.length = F.length - m
  lF : F.length ≤ n
  has : ∀ x ∈ L, hasB n (turnT t L) x = false
  list : freeTo n (turnT t L) n = D
  claim : mayE n (turnT t L) true L = 21
  claimD : doneT n (turnT t L) true L = turnT t L
  give : mayE n (turnT t L) false L = 0
  giveD : doneT n (turnT t L) false L = turnT (turnT t L) L
  back : freeTo n (turnT (turnT t L) L) n = F
  give2 : mayE n (turnT (turnT t L) L) false L = 21
  give2D : doneT n (turnT (turnT t L) L) false L = turnT (turnT t L) L
  claim2 : mayE n (turnT (turnT t L) L) true L = 0
  claim2D : doneT n (turnT (turnT t L) L) true L = turnT (turnT (turnT t L) L) L
  list2 : freeTo n (turnT (turnT (turnT t L) L) L) n = D
theorem take_all {n : Nat} {t : Nat → Nat} {m : Nat} (h0 : 1 ≤ m) (hm : m ≤ (freeTo n t n).length) : ∃ F L D, TakeAll n t m F L D := by
  have h := take_law h0 hm
  refine ⟨_, _, _, ⟨rfl, rfl, rfl, by rw [List.length_take]; omega, ⟨hm, by rw [List.length_drop]⟩, freeTo_len n t n, h.has, h.list, h.claim, ?_, h.give, ?_, h.back, h.give2, ?_, h.claim2, ?_, h.list2⟩⟩
  · rw [doneT, if_neg (by rw [h.claim]; decide)]
  · rw [doneT, if_pos h.give]
  · rw [doneT, if_neg (by rw [h.give2]; decide)]
  · rw [doneT, if_pos h.claim2]
theorem cut_at {P : Program} (t e : TypeId) (kl : IntKind) {i : TypeInfo} (ht : P.underlying t = some (.slice e)) (hi : P.info? e = some i) (hsz : i.size = 1) (A : Option Addr) (n c m : Nat) (hm : m ≤ n) :
    ∃ A' : Option Addr, (∀ W : World, (Instr.slice t (.slice A n c) (some (.int kl (m : Int))) none none).run P W = .ok (.slice A' (n - m) (c - m)) W) ∧
      (∀ (w : World) (k : IntKind) (xs : List Int), n ≤ c → ReadsInt w k A n xs → ReadsInt w k A' (n - m) (xs.drop m)) ∧ ∀ ad, A' = some ad → ∃ a0, A = some a0 ∧ ad.block = a0.block := by
  refine ⟨if c = m then A else A.map (·.add m), fun W => ?_, fun w k xs hc h => h.drop_ m hm hc, fun ad h => ?_⟩
  · have := cut_from t e kl ht hi 1 hsz A n c (m : Int) (by omega) (by omega) W
    rw [Int.toNat_natCast, Nat.mul_one] at this
    exact this
  · split at h
    · exact ⟨ad, h, rfl⟩
    · obtain ⟨a0, ha, rfl⟩ := Option.map_eq_some_iff.1 h
      exact ⟨a0, ha, by unfold Addr.add; split <;> rfl⟩
theorem own_cap {w : World} {base n c : Nat} {e : TypeId} {size : Nat} {A : Option Addr} {xs : List Value} (h : w.ownsRow base e size (.slice A n c) n xs) : n ≤ c := by
  rcases h.2 with ⟨h, rfl⟩ | ⟨g, cap, cur, he, _, _, h1, _⟩
  · omega
  · injection he with _ _ h3
    omega
end Go.Proofs.Ytohopfbacfddbaa.N
