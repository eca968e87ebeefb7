import Derived.Test.YtcolhngdhlamkaaQWSqrt
namespace Go.Proofs.Ytcolhngdhlamkaa.Q
open Go.RowKit
theorem sqrtV_sq {v : Int} : ∀ (d : Nat) {r : Int}, 0 ≤ r → r * r ≤ v → v < (r + 2 ^ d) * (r + 2 ^ d) → sqrtV d r v * sqrtV d r v ≤ v ∧ v < (sqrtV d r v + 1) * (sqrtV d r v + 1)
  | 0, r, _, h1, h2 => by
    simp only [sqrtV]
    exact ⟨h1, by simpa using h2⟩
  | d + 1, r, h0, h1, h2 => by
    have p := pow_pos_ d
    simp only [sqrtV]
    by_cases c : (r + 2 ^ d) * (r + 2 ^ d) ≤ v
    · rw [if_pos c]
      refine sqrtV_sq d (by omega) c ?_
      rw [show r + 2 ^ d + 2 ^ d = r + 2 ^ (d + 1) by rw [pow_s]; omega]
      exact h2
    · rw [if_neg c]
      exact sqrtV_sq d h0 h1 (by omega)
end Go.Proofs.Ytcolhngdhlamkaa.Q
