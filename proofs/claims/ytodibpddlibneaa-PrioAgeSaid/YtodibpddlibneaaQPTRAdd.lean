import Derived.Test.YtodibpddlibneaaQPTBase
import Derived.Test.YtodibpddlibneaaGPTx11
namespace Go.Proofs.Ytodibpddlibneaa.Q
open Go.RowKit Go.Proofs.Ytodibpddlibneaa.GPT Go.Proofs.YtodibpddlibneaaW.PrintWords Go.Proofs.YtodibpddlibneaaW.PrintLast Go.Proofs.YtodibpddlibneaaW.PrintMore

theorem radd {ah al bh bl : Int} (h1 : U ah) (h2 : U al) (h3 : U bh) (h4 : U bl) : backfillref01_Add.f ah al bh bl = some (addV (V ah al) (V bh bl)) := by
  unfold backfillref01_Add.f backfillref01_greatest.f addV V
  obtain ⟨h1a, h1b⟩ := h1; obtain ⟨h2a, h2b⟩ := h2; obtain ⟨h3a, h3b⟩ := h3; obtain ⟨h4a, h4b⟩ := h4
  simp only [Option.bind_some, w64]
  by_cases hl : (al + bl) % 18446744073709551616 < al
  · rw [if_pos hl]
    by_cases hh : (ah + bh) % 18446744073709551616 ≥ ah
    · rw [if_pos hh]
      by_cases hz : ((ah + bh) % 18446744073709551616 + 1) % 18446744073709551616 > 0
      · rw [if_pos hz, if_pos (by omega)]
        congr 2
        · omega
        · congr 1
          omega
      · rw [if_neg hz, if_neg (by omega)]
    · rw [if_neg hh, if_neg (by omega)]
  · rw [if_neg hl]
    by_cases hh : (ah + bh) % 18446744073709551616 ≥ ah
    · rw [if_pos hh, if_pos (by omega)]
      congr 2
      · omega
      · congr 1
        omega
    · rw [if_neg hh, if_neg (by omega)]
end Go.Proofs.Ytodibpddlibneaa.Q
