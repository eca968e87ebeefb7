import Derived.Test.YtcolhngdhlamkaaQWBase
import Derived.Test.YtcolhngdhlamkaaQWRCmp
import Derived.Test.YtcolhngdhlamkaaGWx7
namespace Go.Proofs.Ytcolhngdhlamkaa.Q
open Go.RowKit Go.Proofs.Ytcolhngdhlamkaa.GW Go.Proofs.YtcolhngdhlamkaaW.PrintWords Go.Proofs.YtcolhngdhlamkaaW.PrintLast Go.Proofs.YtcolhngdhlamkaaW.PrintMore

theorem rsub {ah al bh bl : Int} (k : Nat) (hk : 1 ≤ k) (h1 : U ah) (h2 : U al) (h3 : U bh) (h4 : U bl) : backfillref01_Sub.f k ah al bh bl = some (subV (V ah al) (V bh bl)) := by
  unfold backfillref01_Sub.f
  rw [rcmp k hk h2 h4]
  simp only [Option.bind_some]
  unfold cmpV subV V
  obtain ⟨h1a, h1b⟩ := h1; obtain ⟨h2a, h2b⟩ := h2; obtain ⟨h3a, h3b⟩ := h3; obtain ⟨h4a, h4b⟩ := h4
  by_cases hc : ah * 18446744073709551616 + al < bh * 18446744073709551616 + bl
  · rw [if_pos hc, if_pos hc, if_pos (by decide)]
  · rw [if_neg hc, if_neg hc, if_neg (by split <;> decide)]
    simp only [w64]
    by_cases hl : al < bl
    · rw [if_pos hl]
      congr 2
      · omega
      · congr 1
        omega
    · rw [if_neg hl]
      congr 2
      · omega
      · congr 1
        omega
end Go.Proofs.Ytcolhngdhlamkaa.Q
