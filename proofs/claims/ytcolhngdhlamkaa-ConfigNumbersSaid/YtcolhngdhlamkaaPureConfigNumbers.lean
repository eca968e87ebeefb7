/-
  ConfigNumbers answers true: the document's numbers are package api's. No input, no condition.
-/
import Derived.Test.YtcolhngdhlamkaaGCx9
namespace Go.Proofs.Ytcolhngdhlamkaa.Pure
open Go.RowKit Go.Proofs.Ytcolhngdhlamkaa.GC
theorem ConfigNumbers : backfilllaw11_ConfigNumbers.Pure := ⟨10, by decide +kernel⟩
end Go.Proofs.Ytcolhngdhlamkaa.Pure
