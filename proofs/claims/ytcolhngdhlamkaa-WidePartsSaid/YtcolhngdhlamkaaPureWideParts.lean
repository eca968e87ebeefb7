/-
  WideParts answers true at every number, divisor and shift: the program's Div, Shl, Shr and Sqrt are the document's. No condition.
-/
import Derived.Test.YtcolhngdhlamkaaQWLawWide
import Derived.Test.YtcolhngdhlamkaaQWRSqrt
import Derived.Test.YtcolhngdhlamkaaQWRDiv
import Derived.Test.YtcolhngdhlamkaaGWx11
namespace Go.Proofs.Ytcolhngdhlamkaa.Pure
open Go.RowKit Go.Proofs.Ytcolhngdhlamkaa.GW Go.Proofs.Ytcolhngdhlamkaa.Q
theorem WideParts (h l b n : Int) (w0 : (Lit.int .u64 h).wf = true) (w1 : (Lit.int .u64 l).wf = true) (w2 : (Lit.int .u64 b).wf = true) (_ : (Lit.int .i64 n).wf = true) : ∃ k, backfilllaw01_WideParts.f k h l b n = some true := by
  have hh := wf_u w0
  have hl := wf_u w1
  have hb := wf_u w2
  refine ⟨200, ?_⟩
  unfold backfilllaw01_WideParts.f
  rw [shown01 200 (by omega)]
  have hd : ∃ q : Int × Int × Int × Bool, wide_Div.f 200 h l b = some q ∧ backfillref01_Div.f 200 h l b = some q := by
    by_cases hz : b = 0
    · subst hz
      exact ⟨_, wdiv0 200, rdiv0 200⟩
    · exact ⟨_, wdiv 200 (by omega) hh hl hb hz, rdiv 200 (by omega) hh hl hb hz⟩
  obtain ⟨q, hq, hr⟩ := hd
  rw [hq]
  simp only [ref01, num01, Option.bind_some]
  rw [hr]
  simp only [num01, Option.bind_some, beq_self_eq_true, Bool.and_self, if_true]
  rw [wshl_all hh hl, rshl_all hh hl, wshr_all hh hl, rshr_all hh hl, wsqrt 200 (by omega) hl, rsqrt 200 (by omega) hl]
  simp only [num01, Option.bind_some, beq_self_eq_true, Bool.and_self, if_true]
end Go.Proofs.Ytcolhngdhlamkaa.Pure
