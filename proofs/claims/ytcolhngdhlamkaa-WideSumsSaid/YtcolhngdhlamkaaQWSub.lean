import Derived.Test.YtcolhngdhlamkaaQWBase
import Derived.Test.YtcolhngdhlamkaaGWx5
namespace Go.Proofs.Ytcolhngdhlamkaa.Q
open Go.RowKit Go.Proofs.Ytcolhngdhlamkaa.GW Go.Proofs.YtcolhngdhlamkaaW.PrintWords Go.Proofs.YtcolhngdhlamkaaW.PrintLast Go.Proofs.YtcolhngdhlamkaaW.PrintMore

theorem sub64 {a b c : Int} (ha : U a) (hb : U b) (hc : 0 ≤ c) (hc1 : c ≤ 1) : bits_Sub64.f a b c = some ((a + 18446744073709551616 - b - c) % 18446744073709551616, if a < b + c then 1 else 0) := by
  unfold bits_Sub64.f
  rw [if_pos ⟨ha.1, hb.1, by have := hb.2; omega, hc, hc1⟩]
theorem wsub {ah al bh bl : Int} (h1 : U ah) (h2 : U al) (h3 : U bh) (h4 : U bl) : wide_Sub.f ah al bh bl = some (subV (V ah al) (V bh bl)) := by
  unfold wide_Sub.f subV V
  rw [sub64 h2 h4 (by omega) (by omega)]
  simp only [Option.bind_some]
  rw [sub64 h1 h3 (by split <;> omega) (by split <;> omega)]
  simp only [Option.bind_some]
  obtain ⟨h1a, h1b⟩ := h1; obtain ⟨h2a, h2b⟩ := h2; obtain ⟨h3a, h3b⟩ := h3; obtain ⟨h4a, h4b⟩ := h4
  by_cases hc : ah * 18446744073709551616 + al < bh * 18446744073709551616 + bl
  · rw [if_pos hc, if_pos]
    rw [if_pos]
    · decide
    · split <;> omega
  · rw [if_neg hc, if_neg]
    · congr 2
      · split <;> omega
      · congr 1
        omega
    · rw [if_neg]
      · decide
      · split <;> omega
end Go.Proofs.Ytcolhngdhlamkaa.Q
