/-
  FixqTells answers true at every two words and every whole number: the program's sums, differences, products, quotients (rounded down and up), whole numbers, floors and parts are the reference's. No condition.
-/
import Derived.Test.YtcolhngdhlamkaaQFTLawFixq
import Derived.Test.YtcolhngdhlamkaaGFTx9
namespace Go.Proofs.Ytcolhngdhlamkaa.Pure
open Go.RowKit Go.Proofs.Ytcolhngdhlamkaa.GFT
theorem FixqTells : backfilllaw04_FixqTells.Pure := fun _ _ _ ha hb hn => ⟨200, Q.fixqTells (Q.wf_u ha) (Q.wf_u hb) (Q.wf_i hn).2⟩
end Go.Proofs.Ytcolhngdhlamkaa.Pure
