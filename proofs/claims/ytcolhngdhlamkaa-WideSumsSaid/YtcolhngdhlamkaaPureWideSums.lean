/-
  WideSums answers true at every two numbers: the program's Add, Sub, Times, Cmp, Of and Mul are the document's. No condition.
-/
import Derived.Test.YtcolhngdhlamkaaQWLawWide
import Derived.Test.YtcolhngdhlamkaaQWRTimes
import Derived.Test.YtcolhngdhlamkaaQWSub
import Derived.Test.YtcolhngdhlamkaaQWRSub
import Derived.Test.YtcolhngdhlamkaaQWRCmp
import Derived.Test.YtcolhngdhlamkaaGWx7
namespace Go.Proofs.Ytcolhngdhlamkaa.Pure
open Go.RowKit Go.Proofs.Ytcolhngdhlamkaa.GW Go.Proofs.Ytcolhngdhlamkaa.Q
theorem WideSums (h l g m : Int) (w0 : (Lit.int .u64 h).wf = true) (w1 : (Lit.int .u64 l).wf = true) (w2 : (Lit.int .u64 g).wf = true) (w3 : (Lit.int .u64 m).wf = true) : ∃ k, backfilllaw01_WideSums.f k h l g m = some true := by
  have hh := wf_u w0
  have hl := wf_u w1
  have hg := wf_u w2
  have hm := wf_u w3
  refine ⟨200, ?_⟩
  unfold backfilllaw01_WideSums.f wide_Of.f
  rw [shown01 200 (by omega), wadd hh hl hg hm, wsub hh hl hg hm, wtimes hh hl hm]
  simp only [ref01, num01, Option.bind_some]
  rw [radd hh hl hg hm, rsub 200 (by omega) hh hl hg hm, rtimes hh hl hm]
  simp only [ref01, num01, Option.bind_some, beq_self_eq_true, Bool.and_self, if_true]
  rw [wcmp hl hm, rcmp 200 (by omega) hl hm, wmul hl hg, rmul hl hg]
  simp only [num01, Option.bind_some, beq_self_eq_true, Bool.and_self, if_true]
end Go.Proofs.Ytcolhngdhlamkaa.Pure
