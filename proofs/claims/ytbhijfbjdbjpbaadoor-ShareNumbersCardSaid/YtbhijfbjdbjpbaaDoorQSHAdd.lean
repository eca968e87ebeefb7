import Derived.Test.YtbhijfbjdbjpbaaDoorQSHBase
import Derived.Test.YtbhijfbjdbjpbaaDoorGSHx3
namespace Go.Proofs.YtbhijfbjdbjpbaaDoor.Q
open Go.RowKit Go.Proofs.YtbhijfbjdbjpbaaDoor.GSH Go.Proofs.YtbhijfbjdbjpbaaDoorW.PrintWords Go.Proofs.YtbhijfbjdbjpbaaDoorW.PrintLast Go.Proofs.YtbhijfbjdbjpbaaDoorW.PrintMore

theorem add64 {a b c : Int} (ha : U a) (hb : U b) (hc : 0 ≤ c) (hc1 : c ≤ 1) : bits_Add64.f a b c = some ((a + b + c) % 18446744073709551616, (a + b + c) / 18446744073709551616) := by
  unfold bits_Add64.f
  rw [if_pos ⟨ha.1, hb.1, hc, hc1⟩]
theorem wadd {ah al bh bl : Int} (h1 : U ah) (h2 : U al) (h3 : U bh) (h4 : U bl) : wide_Add.f ah al bh bl = some (addV (V ah al) (V bh bl)) := by
  unfold wide_Add.f wide_greatest.f addV V
  rw [add64 h2 h4 (by omega) (by omega)]
  simp only [Option.bind_some]
  obtain ⟨h1a, h1b⟩ := h1; obtain ⟨h2a, h2b⟩ := h2; obtain ⟨h3a, h3b⟩ := h3; obtain ⟨h4a, h4b⟩ := h4
  rw [add64 ⟨h1a, h1b⟩ ⟨h3a, h3b⟩ (by omega) (by omega)]
  simp only [Option.bind_some]
  by_cases hc : ah * 18446744073709551616 + al + (bh * 18446744073709551616 + bl) < 340282366920938463463374607431768211456
  · rw [if_pos hc, if_neg (by omega)]
    congr 2
    · omega
    · congr 1
      omega
  · rw [if_neg hc, if_pos (by omega)]
end Go.Proofs.YtbhijfbjdbjpbaaDoor.Q
