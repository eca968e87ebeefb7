/-
  FixqNumbers answers true: the document's examples of layer 4 come out of the program as they stand there, and the two numbers are the document's. No condition.
-/
import Derived.Test.YtcolhngdhlamkaaGAx7
namespace Go.Proofs.Ytcolhngdhlamkaa.Pure
open Go.RowKit Go.Proofs.Ytcolhngdhlamkaa.GA Go.Proofs.YtcolhngdhlamkaaW.PrintWords Go.Proofs.YtcolhngdhlamkaaW.PrintLast

theorem FixqNumbers : backfilllaw04_FixqNumbers.Pure := ⟨40, by decide +kernel⟩

end Go.Proofs.Ytcolhngdhlamkaa.Pure
