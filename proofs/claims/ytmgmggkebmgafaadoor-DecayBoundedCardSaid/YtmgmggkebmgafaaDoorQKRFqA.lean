import Derived.Test.YtmgmggkebmgafaaDoorQKBase
import Derived.Test.YtmgmggkebmgafaaDoorQKRMul
import Derived.Test.YtmgmggkebmgafaaDoorQKRAdd
import Derived.Test.YtmgmggkebmgafaaDoorQKRDiv
import Derived.Test.YtmgmggkebmgafaaDoorQKFqA
import Derived.Test.YtmgmggkebmgafaaDoorGKx2
import Derived.Test.YtmgmggkebmgafaaDoorGKx3
import Derived.Test.YtmgmggkebmgafaaDoorGKx4
namespace Go.Proofs.YtmgmggkebmgafaaDoor.Q
open Go.RowKit Go.Proofs.YtmgmggkebmgafaaDoor.GK Go.Proofs.YtmgmggkebmgafaaDoorW.PrintWords Go.Proofs.YtmgmggkebmgafaaDoorW.PrintLast Go.Proofs.YtmgmggkebmgafaaDoorW.PrintMore
theorem rq_small {h l : Int} (hh : 0 ≤ h) (hl : U l) : backfillref04_small.f h l = some (capV (V h l)) := by
  unfold backfillref04_small.f capV V
  obtain ⟨a, b⟩ := hl
  by_cases c : h > 0
  · rw [if_pos c, if_neg (by omega)]
  · rw [if_neg c, if_pos (by omega)]
    congr 2
    omega
theorem rq_quot {h l b : Int} (k : Nat) (hk : 129 ≤ k) (h1 : U h) (h2 : U l) (hb : U b) (hb0 : b ≠ 0) (hlt : V h l / b + 1 < 340282366920938463463374607431768211456) (up : Bool) :
    backfillref04_quotient.f k h l b up = some (capV (V h l / b + if (up && decide (V h l % b > 0)) = true then 1 else 0)) := by
  unfold backfillref04_quotient.f
  rw [rdiv k hk h1 h2 hb hb0]
  simp only [Option.bind_some, if_true]
  have d0 : 0 ≤ V h l / b := Int.ediv_nonneg (by obtain ⟨a, _⟩ := h1; obtain ⟨c, _⟩ := h2; unfold V; omega) hb.1
  generalize V h l / b = q at *
  have hj : ∀ c : Bool, backfillref04_quotient.j0 k c (q / 18446744073709551616) (q % 18446744073709551616) = some (capV (q + if c = true then 1 else 0)) := by
    intro c
    obtain ⟨k, rfl⟩ : ∃ m, k = m + 1 := ⟨k - 1, by omega⟩
    simp only [backfillref04_quotient.j0]
    cases c with
    | true =>
      simp only [if_true, backfillref04_up.f, backfillref01_Of.f, Option.bind_some]
      rw [radd ⟨by omega, by omega⟩ (umod _) ⟨by omega, by omega⟩ ⟨by omega, by omega⟩]
      simp only [Option.bind_some]
      rw [show addV (V (q / 18446744073709551616) (q % 18446744073709551616)) (V 0 1) = ((q + 1) / 18446744073709551616, (q + 1) % 18446744073709551616, true) by
        unfold addV
        rw [show V (q / 18446744073709551616) (q % 18446744073709551616) + V 0 1 = q + 1 by unfold V; omega, if_pos hlt]]
      simp only []
      rw [rq_small (by omega) (umod _)]
      simp only [Option.bind_some]
      rw [show V ((q + 1) / 18446744073709551616) ((q + 1) % 18446744073709551616) = q + 1 by unfold V; omega]
    | false =>
      rw [if_neg (by decide), rq_small (by omega) (umod _)]
      simp only [Option.bind_some]
      rw [show V (q / 18446744073709551616) (q % 18446744073709551616) = q by unfold V; omega]
      simp
  cases up with
  | true => rw [if_pos rfl, hj]; simp
  | false => rw [if_neg (by decide), hj]; simp
theorem rq_quot0 {h l : Int} (k : Nat) (up : Bool) : backfillref04_quotient.f k h l 0 up = some (18446744073709551615, false) := by
  unfold backfillref04_quotient.f
  rw [rdiv0]
  simp
theorem rq_Of {n : Int} (h : n ≤ 9223372036854775807) : backfillref04_Of.f n = some (ofV n) := by
  unfold backfillref04_Of.f ofV capV
  by_cases c : n < 0
  · rw [if_pos c, if_pos c]
  · rw [if_neg c, if_neg c]
    by_cases d : n ≥ 4294967296
    · rw [if_pos d, if_neg (by omega)]
    · rw [if_neg d, if_pos (by omega), w64_in (x := n) (by omega) (by omega), w64_in (by omega) (by omega)]
theorem rq_add {a b : Int} (ha : U a) (hb : U b) : backfillref04_Add.f a b = some (capV (a + b)) := by
  unfold backfillref04_Add.f backfillref01_Of.f
  simp only [Option.bind_some]
  rw [radd ⟨by omega, by omega⟩ ha ⟨by omega, by omega⟩ hb]
  simp only [Option.bind_some]
  obtain ⟨a0, a1⟩ := ha; obtain ⟨b0, b1⟩ := hb
  have e1 : V 0 a + V 0 b = a + b := by unfold V; omega
  unfold addV
  rw [e1, if_pos (by omega)]
  simp only []
  rw [rq_small (by omega) (umod _)]
  simp only [Option.bind_some]
  rw [show V ((a + b) / 18446744073709551616) ((a + b) % 18446744073709551616) = a + b by unfold V; omega]
theorem rq_part {a f : Int} (k : Nat) (hk : 129 ≤ k) (ha : U a) (hf : U f) : backfillref04_Part.f k a f = some (partV a f) := by
  unfold backfillref04_Part.f
  have hl := part_le ha hf
  unfold partV at hl ⊢
  by_cases c : f > 9223372036854775808
  · rw [if_pos c, if_pos c]
    congr 1
    omega
  · rw [if_neg c] at hl
    rw [if_neg c, if_neg c, rmul ha hf]
    simp only [Option.bind_some]
    have m := mul_bd ha hf
    have hv : V (a * f / 18446744073709551616) (a * f % 18446744073709551616) = a * f := by unfold V; omega
    rw [rq_quot k hk ⟨by omega, by omega⟩ (umod _) ⟨by omega, by omega⟩ (by omega) (by rw [hv]; omega), hv]
    simp only [Option.bind_some]
    obtain ⟨a0, a1⟩ := ha
    have hlt : a * f / 9223372036854775808 < 18446744073709551616 := by omega
    simp [capV, hlt]
end Go.Proofs.YtmgmggkebmgafaaDoor.Q
