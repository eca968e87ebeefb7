/-
  DecayLaws answers true at every two usages and factors: what fades is never more, rises with what rises, and of two, faded one by one, there is as much as of both together, or one less. No condition; the variable rungs is listed, and tied to the program's text.
-/
import Derived.Test.YtmgmggkebmgafaaDoorQKLawDecay
import Derived.Test.YtmgmggkebmgafaaDoorGKx5
namespace Go.Proofs.YtmgmggkebmgafaaDoor.Pure
open Go.RowKit Go.Proofs.YtmgmggkebmgafaaDoor.GK Go.Proofs.YtmgmggkebmgafaaDoor.Q Go.Proofs.YtmgmggkebmgafaaDoorW.PrintWords
theorem part_mono {u v f : Int} (hf : U f) (h : u ≤ v) : partV u f ≤ partV v f := by
  unfold partV
  obtain ⟨f0, _⟩ := hf
  split
  · omega
  · have := Int.mul_le_mul_of_nonneg_right h f0
    exact Int.ediv_le_ediv (by decide) this
theorem part_mono2 {u f g : Int} (hu : U u) (h : f ≤ g) : partV u f ≤ partV u g := by
  unfold partV
  refine Int.ediv_le_ediv (by decide) (Int.mul_le_mul_of_nonneg_left ?_ hu.1)
  split <;> split <;> omega
theorem part_sum (u v f : Int) : partV (u + v) f = partV u f + partV v f ∨ partV (u + v) f = partV u f + partV v f + 1 := by
  unfold partV
  generalize (if f > 9223372036854775808 then 9223372036854775808 else f) = g
  rw [Int.add_mul]
  generalize u * g = x
  generalize v * g = y
  omega
theorem laws_j0 {u v f g : Int} (hu : U u) (hv : U v) (hf : U f) (hg : U g) (h : f ≤ g) : backfilllaw10_DecayLaws.j0 3 u v f g true = some true := by
  simp only [backfilllaw10_DecayLaws.j0]
  rw [fade hu hf, fade hv hf, fade hu hg]
  simp only [Option.bind_some]
  have l1 := part_le hu hf
  have l2 := part_le hv hf
  have m2 := part_mono2 hu h
  have hj : backfilllaw10_DecayLaws.j1 2 u v f true (partV u f) (partV v f) false = some true := by
    simp only [backfilllaw10_DecayLaws.j1]
    obtain ⟨u0, u1⟩ := hu
    obtain ⟨v0, v1⟩ := hv
    rw [if_neg (by decide), w64_in (x := 18446744073709551615 - v) (by omega) (by omega)]
    by_cases c : u > 18446744073709551615 - v
    · rw [if_pos c]
    · rw [if_neg c, w64_in (x := u + v) (by omega) (by omega), fade ⟨by omega, by omega⟩ hf, w64_in (x := partV u f + partV v f) (by omega) (by omega)]
      simp only [Option.bind_some, if_true]
      have l3 := part_le (a := u + v) ⟨by omega, by omega⟩ hf
      rcases part_sum u v f with e | e
      · rw [if_pos e]
      · rw [if_neg (by omega), w64_in (by omega) (by omega), e]
        simp
  rw [if_neg (by omega), if_neg (by omega)]
  by_cases c : u ≤ v
  · have := part_mono hf c
    rw [if_pos c, if_neg (by omega)]
    by_cases d : v ≤ u
    · have := part_mono hf d
      rw [if_pos d, decide_eq_false (by omega)]
      exact hj
    · rw [if_neg d]
      exact hj
  · rw [if_neg c]
    by_cases d : v ≤ u
    · have := part_mono hf d
      rw [if_pos d, decide_eq_false (by omega)]
      exact hj
    · rw [if_neg d]
      exact hj
theorem DecayLaws : backfilllaw10_DecayLaws.Pure := by
  intro u v f g hu hv hf hg
  refine ⟨3, ?_⟩
  unfold backfilllaw10_DecayLaws.f
  rw [shown10]
  simp only [Option.bind_some]
  by_cases c : f > g
  · rw [if_pos c]
    exact laws_j0 (wf_u hu) (wf_u hv) (wf_u hg) (wf_u hf) (by omega)
  · rw [if_neg c]
    exact laws_j0 (wf_u hu) (wf_u hv) (wf_u hf) (wf_u hg) (by omega)
end Go.Proofs.YtmgmggkebmgafaaDoor.Pure
