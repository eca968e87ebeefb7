import Derived.Test.YtbhijfbjdbjpbaaDoorQSHBase
import Derived.Test.YtbhijfbjdbjpbaaDoorGSHx3
namespace Go.Proofs.YtbhijfbjdbjpbaaDoor.Q
open Go.RowKit Go.Proofs.YtbhijfbjdbjpbaaDoor.GSH Go.Proofs.YtbhijfbjdbjpbaaDoorW.PrintWords Go.Proofs.YtbhijfbjdbjpbaaDoorW.PrintLast Go.Proofs.YtbhijfbjdbjpbaaDoorW.PrintMore

theorem compare_ (a b : Int) : cmp_Compare_uint64.f a b = some (if a < b then -1 else if a > b then 1 else 0) := by
  unfold cmp_Compare_uint64.f cmp_isNaN_uint64.f
  simp only [bne_self_eq_false, Option.bind_some, Bool.false_eq_true, if_false]
  split
  · rfl
  · split <;> rfl
theorem wcmp {ah al bh bl : Int} (h2 : U al) (h4 : U bl) : wide_Cmp.f ah al bh bl = some (cmpV (V ah al) (V bh bl)) := by
  unfold wide_Cmp.f cmpV V
  rw [compare_, compare_]
  simp only [Option.bind_some]
  obtain ⟨h2a, h2b⟩ := h2; obtain ⟨h4a, h4b⟩ := h4
  by_cases e : ah = bh
  · rw [if_pos e]
    congr 1
    by_cases c : al < bl
    · rw [if_pos c, if_pos (show ah * 18446744073709551616 + al < bh * 18446744073709551616 + bl by omega)]
    · rw [if_neg c, if_neg (show ¬ ah * 18446744073709551616 + al < bh * 18446744073709551616 + bl by omega)]
      by_cases d : al > bl
      · rw [if_pos d, if_neg (show ¬ ah * 18446744073709551616 + al = bh * 18446744073709551616 + bl by omega)]
      · rw [if_neg d, if_pos (show ah * 18446744073709551616 + al = bh * 18446744073709551616 + bl by omega)]
  · rw [if_neg e]
    congr 1
    by_cases c : ah < bh
    · rw [if_pos c, if_pos (show ah * 18446744073709551616 + al < bh * 18446744073709551616 + bl by omega)]
    · rw [if_neg c, if_neg (show ¬ ah * 18446744073709551616 + al < bh * 18446744073709551616 + bl by omega), if_pos (show ah > bh by omega), if_neg (show ¬ ah * 18446744073709551616 + al = bh * 18446744073709551616 + bl by omega)]
end Go.Proofs.YtbhijfbjdbjpbaaDoor.Q
