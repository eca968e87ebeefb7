/-
  DecayNumbers answers true: the document's numbers are package api's. No input, no condition; the variable rungs is listed, and tied to the program's text.
-/
import Derived.Test.YtmgmggkebmgafaaDoorQKLawDecay
import Derived.Test.YtmgmggkebmgafaaDoorGKx6
namespace Go.Proofs.YtmgmggkebmgafaaDoor.Pure
open Go.RowKit Go.Proofs.YtmgmggkebmgafaaDoor.GK Go.Proofs.YtmgmggkebmgafaaDoor.Q
theorem DecayNumbers : backfilllaw10_DecayNumbers.Pure := by
  unfold backfilllaw10_DecayNumbers.Pure backfilllaw10_DecayNumbers.f
  rw [shown10]
  rfl
end Go.Proofs.YtmgmggkebmgafaaDoor.Pure
