import Derived.Test.YtgjjfnjnjnbfgaaDoorQLGLDecP
import Derived.Test.YtgjjfnjnjnbfgaaDoorQLGCfgP
import Derived.Test.YtgjjfnjnjnbfgaaDoorGLGx15
namespace Go.Proofs.YtgjjfnjnjnbfgaaDoor.Q
open Go.RowKit Go.Proofs.YtgjjfnjnjnbfgaaDoor.GLG Go.Proofs.YtgjjfnjnjnbfgaaDoorW.PrintWords Go.Proofs.YtgjjfnjnjnbfgaaDoorW.PrintLast Go.Proofs.YtgjjfnjnjnbfgaaDoorW.PrintMore
theorem chk_cfg {N Q L A F S P H : Int} (c : checkV N Q L A F S P H = 0) : Cfg N Q L A F S P H := by
  unfold checkV at c
  by_cases d : inR N Q L A F S P H = true
  · exact inR_cfg d
  · rw [if_neg d] at c
    omega
theorem factU (P H : Int) : U (factV P H).1 := by
  unfold factV
  split
  · exact ⟨by decide, by decide⟩
  · have := HH_le (expV P H).toNat
    refine ⟨?_, ?_⟩
    · show (0 : Int) ≤ ((HH (expV P H).toNat : Nat) : Int)
      omega
    · show ((HH (expV P H).toNat : Nat) : Int) < 18446744073709551616
      omega
theorem fact_ok {N Q L A F S P H : Int} (c : Cfg N Q L A F S P H) : (factV P H).2 = 0 := by
  unfold factV
  rw [if_neg (by have := c.p0; have := c.p1; have := c.h0; have := c.h1; omega)]
/-- A place among n. -/
def amongV (i n : Int) : Int := if n < 1 then 0 else if Int.tmod i n < 0 then Int.tmod i n + n else Int.tmod i n
theorem tmod_bd (i n : Int) (h : 1 ≤ n) : -n < Int.tmod i n ∧ Int.tmod i n < n := by
  rcases Int.le_total 0 i with h0 | h0
  · rw [Int.tmod_eq_emod_of_nonneg h0]
    have h1 := Int.emod_nonneg i (b := n) (by omega)
    have h2 := Int.emod_lt_of_pos i (b := n) (by omega)
    omega
  · obtain ⟨a, rfl⟩ : ∃ a, i = -a := ⟨-i, by omega⟩
    rw [Int.neg_tmod, Int.tmod_eq_emod_of_nonneg (a := a) (by omega)]
    have h1 := Int.emod_nonneg a (b := n) (by omega)
    have h2 := Int.emod_lt_of_pos a (b := n) (by omega)
    omega
theorem among_bd (i n : Int) (h : 1 ≤ n) : 0 ≤ amongV i n ∧ amongV i n < n := by
  have := tmod_bd i n h
  unfold amongV
  rw [if_neg (by omega)]
  split <;> omega
theorem among {i n : Int} (hn : n ≤ 9223372036854775807) : backfilllaw12_among.f i n = some (amongV i n) := by
  unfold backfilllaw12_among.f amongV
  by_cases h : n < 1
  · rw [if_pos h, if_pos h]
  · have := tmod_bd i n (by omega)
    rw [if_neg h, if_neg h, if_neg (by omega)]
    by_cases c : Int.tmod i n < 0
    · rw [if_pos c, if_pos c, wrap64_in (by omega) (by omega)]
    · rw [if_neg c, if_neg c]
theorem usages_l {xs ys : List Int} (hx : xs.length ≤ 9223372036854775807) (hl : ys.length = xs.length) : ∀ (d i : Nat), i + d = xs.length → backfilllaw12_usages.l0 (d + 1) xs ys (xs.length : Int) (i : Int) = some (decide (xs.drop i = ys.drop i))
  | 0, i, h => by
    rw [backfilllaw12_usages.l0, if_neg (by omega), List.drop_of_length_le (by omega), List.drop_of_length_le (by omega)]
    rfl
  | d + 1, i, h => by
    have h1 : i < xs.length := by omega
    have h2 : i < ys.length := by omega
    have e1 : rd xs (i : Int) = xs[i] := by simp [rd, List.getD_eq_getElem?_getD, List.getElem?_eq_getElem h1]
    have e2 : rd ys (i : Int) = ys[i] := by simp [rd, List.getD_eq_getElem?_getD, List.getElem?_eq_getElem h2]
    rw [backfilllaw12_usages.l0, if_pos (by omega), if_pos (by omega), if_pos (by omega), if_pos (by omega), e1, e2, List.drop_eq_getElem_cons h1, List.drop_eq_getElem_cons h2]
    by_cases c : xs[i] = ys[i]
    · rw [if_pos c, show wrap64 ((i : Int) + 1) = ((i + 1 : Nat) : Int) by rw [wrap64_in (by omega) (by omega)]; rfl, usages_l hx hl d (i + 1) (by omega)]
      congr 1
      rw [decide_eq_decide, List.cons.injEq]
      exact ⟨fun h => ⟨c, h⟩, fun h => h.2⟩
    · rw [if_neg c]
      congr 1
      rw [eq_comm, decide_eq_false_iff_not, List.cons.injEq]
      exact fun h => c h.1
theorem usages {xs ys : List Int} (hx : xs.length ≤ 9223372036854775807) : backfilllaw12_usages.f (xs.length + 1) xs ys = some (decide (xs = ys)) := by
  unfold backfilllaw12_usages.f
  by_cases c : (xs.length : Int) = (ys.length : Int)
  · rw [if_pos c]
    have := usages_l hx (by omega : ys.length = xs.length) xs.length 0 (by omega)
    rwa [List.drop_zero, List.drop_zero] at this
  · rw [if_neg c]
    congr 1
    rw [eq_comm, decide_eq_false_iff_not]
    intro h
    rw [h] at c
    exact c rfl
/-- A charge on top of so much. -/
theorem charge_sat {t m : Int} (ht : 0 ≤ t) (m0 : 0 ≤ m) (m1 : m ≤ 256) : chargeV (capV t).1 m = (capV (t + m * 4294967296)).1 := by
  unfold chargeV
  rw [if_neg (by omega)]
  unfold capV
  rw [if_pos (show m * 4294967296 < 18446744073709551616 by omega)]
  by_cases c : t < 18446744073709551616
  · rw [if_pos c]
  · rw [if_neg c, if_neg (show ¬ t + m * 4294967296 < 18446744073709551616 by omega)]
    show (if (18446744073709551615 : Int) + m * 4294967296 < 18446744073709551616 then ((18446744073709551615 : Int) + m * 4294967296, true) else (18446744073709551615, false)).1 = 18446744073709551615
    split
    · show (18446744073709551615 : Int) + m * 4294967296 = 18446744073709551615
      omega
    · rfl
end Go.Proofs.YtgjjfnjnjnbfgaaDoor.Q
