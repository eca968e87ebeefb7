/-
  DecayTells answers true at every period, half, usage, factor and number of nodes: the program's Factor, Charge and Fade are the document's. No condition; the variable rungs is listed, and tied to the program's text.
-/
import Derived.Test.YtmgmggkebmgafaaDoorQKLawDecay
import Derived.Test.YtmgmggkebmgafaaDoorGKx4
namespace Go.Proofs.YtmgmggkebmgafaaDoor.Pure
open Go.RowKit Go.Proofs.YtmgmggkebmgafaaDoor.GK Go.Proofs.YtmgmggkebmgafaaDoor.Q
theorem DecayTells : backfilllaw10_DecayTells.Pure := by
  intro p h u f n hp hh hu hf hn
  refine ⟨200, ?_⟩
  unfold backfilllaw10_DecayTells.f
  rw [shown10, factor, rfactor 200 (by omega)]
  simp only [Option.bind_some, if_true]
  rw [charge (wf_u hu) (wf_i hn).2, rcharge (wf_u hu) (wf_i hn).2, fade (wf_u hu) (wf_u hf), rfade 200 (by omega) (wf_u hu) (wf_u hf)]
  simp only [Option.bind_some, beq_self_eq_true, if_true]
end Go.Proofs.YtmgmggkebmgafaaDoor.Pure
