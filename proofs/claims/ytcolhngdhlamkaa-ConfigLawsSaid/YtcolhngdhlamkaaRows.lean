/-
  No cell of these rows narrows 'for every input' (looked for: loops, veiled, ifaces, maps, wideKeys, modest, calm, conditions, laid).
  DERIVED. THE GIVEN ROWS OF THIS SEAT. 9 by the template 'for every input the law returns true; each argument reads behind the call as it read before'; 0 by the template 'total and deterministic' (their statements: YtcolhngdhlamkaaTotals.lean).
  GIVEN WITH THE SEED: the statements are not yours to turn. If you find one false, say at which input.
  Laid BY PROGRAM, IN A SANDBOX (cutbox-rows.mjs): the forced cells as the released guide's own fill.sh prints them over the translation f4ffb59adf5b104e… (all of the seat's roots in one cut). By AI agents, Wed Nov 11 2026. No macro, syntax, notation, axiom, sorry.
-/
import Derived.Test.YtcolhngdhlamkaaChecked
import GoSem.Claim
import GoSem.ClaimJoined
import GoSem.ClaimMapViews
import Derived.JoinedTies
import Derived.KernelRfl
namespace Go.Proofs.Ytcolhngdhlamkaa
/- THE CELL 'sum', in the pinned program and in every row, IS THE sha256 OF THE DUMP (.gsa) THAT YtcolhngdhlamkaaProg.lean LOADS. Nothing in Lean hashes anything: it is a label: what it is worth is what the hold of that sum in a sandbox is worth. -/
noncomputable def Try.pinned : Pinned := { name := "ytcolhngdhlamkaa", sum := "f4ffb59adf5b104ed19af002dca2a22d2b705b36cf84aa07ee39625c8b9fe28c", checked := Try.checked }
namespace Rows
def none {H : Type} : Left H := { results := [], args := [] }

/-- 'backfilllaw04.FixqNumbers': WHATEVER THE INPUT: true; the input reads as it did. -/
def fixqNumbersSpec : ChangeSpec := { name := "fixqNumbers", fn := fun _ => fun
  | [] => { results := [.lit (.bool true)], args := [] }
  | _ => none }
def fixqNumbersRow : OpenClaim := { program := "ytcolhngdhlamkaa", sum := "f4ffb59adf5b104ed19af002dca2a22d2b705b36cf84aa07ee39625c8b9fe28c", func := "backfill/backfilllaw04.FixqNumbers", spec := "fixqNumbers", named := ["math/bits.divideError", "math/bits.overflowError"], apart := false }
def FixqNumbersSaid : Prop := fixqNumbersRow.holds Try.pinned (OpenSpec.ofChange fixqNumbersSpec)

/-- ITS FALSE NEIGHBOUR: 'it returns false'. Refute it at one input. -/
def fixqNumbersWrong : ChangeSpec := { name := "fixqNumbers", fn := fun _ => fun
  | [] => { results := [.lit (.bool false)], args := [] }
  | _ => none }
def FixqNumbersWrongFalsely : Prop := fixqNumbersRow.holds Try.pinned (OpenSpec.ofChange fixqNumbersWrong)

/-- 'backfilllaw01.WideParts': WHATEVER THE INPUT: true; the input reads as it did. -/
def widePartsSpec : ChangeSpec := { name := "wideParts", fn := fun _ => fun
  | [d1, d2, d3] => { results := [.lit (.bool true)], args := [d1, d2, d3] }
  | _ => none }
def widePartsRow : OpenClaim := { program := "ytcolhngdhlamkaa", sum := "f4ffb59adf5b104ed19af002dca2a22d2b705b36cf84aa07ee39625c8b9fe28c", func := "backfill/backfilllaw01.WideParts", spec := "wideParts", inPlace := ["math/bits.Add64"], named := ["math/bits.divideError", "math/bits.overflowError"], apart := false }
def WidePartsSaid : Prop := widePartsRow.holds Try.pinned (OpenSpec.ofChange widePartsSpec)

/-- ITS FALSE NEIGHBOUR: 'it returns false'. Refute it at one input. -/
def widePartsWrong : ChangeSpec := { name := "wideParts", fn := fun _ => fun
  | [d1, d2, d3] => { results := [.lit (.bool false)], args := [d1, d2, d3] }
  | _ => none }
def WidePartsWrongFalsely : Prop := widePartsRow.holds Try.pinned (OpenSpec.ofChange widePartsWrong)

/-- 'backfilllaw11.ConfigTells': WHATEVER THE INPUT: true; the input reads as it did. -/
def configTellsSpec : ChangeSpec := { name := "configTells", fn := fun _ => fun
  | [d] => { results := [.lit (.bool true)], args := [d] }
  | _ => none }
def configTellsRow : OpenClaim := { program := "ytcolhngdhlamkaa", sum := "f4ffb59adf5b104ed19af002dca2a22d2b705b36cf84aa07ee39625c8b9fe28c", func := "backfill/backfilllaw11.ConfigTells", spec := "configTells", inPlace := ["math/bits.Add64"], unfollowed := true, recurses := true, apart := false }
def ConfigTellsSaid : Prop := configTellsRow.holds Try.pinned (OpenSpec.ofChange configTellsSpec)

/-- ITS FALSE NEIGHBOUR: 'it returns false'. Refute it at one input. -/
def configTellsWrong : ChangeSpec := { name := "configTells", fn := fun _ => fun
  | [d] => { results := [.lit (.bool false)], args := [d] }
  | _ => none }
def ConfigTellsWrongFalsely : Prop := configTellsRow.holds Try.pinned (OpenSpec.ofChange configTellsWrong)

/-- 'backfilllaw11.ConfigLaws': WHATEVER THE INPUT: true; the input reads as it did. -/
def configLawsSpec : ChangeSpec := { name := "configLaws", fn := fun _ => fun
  | [d] => { results := [.lit (.bool true)], args := [d] }
  | _ => none }
def configLawsRow : OpenClaim := { program := "ytcolhngdhlamkaa", sum := "f4ffb59adf5b104ed19af002dca2a22d2b705b36cf84aa07ee39625c8b9fe28c", func := "backfill/backfilllaw11.ConfigLaws", spec := "configLaws", inPlace := ["math/bits.Add64"], unfollowed := true, recurses := true, apart := false }
def ConfigLawsSaid : Prop := configLawsRow.holds Try.pinned (OpenSpec.ofChange configLawsSpec)

/-- ITS FALSE NEIGHBOUR: 'it returns false'. Refute it at one input. -/
def configLawsWrong : ChangeSpec := { name := "configLaws", fn := fun _ => fun
  | [d] => { results := [.lit (.bool false)], args := [d] }
  | _ => none }
def ConfigLawsWrongFalsely : Prop := configLawsRow.holds Try.pinned (OpenSpec.ofChange configLawsWrong)

/-- 'backfilllaw11.ConfigNumbers': WHATEVER THE INPUT: true; the input reads as it did. -/
def configNumbersSpec : ChangeSpec := { name := "configNumbers", fn := fun _ => fun
  | [] => { results := [.lit (.bool true)], args := [] }
  | _ => none }
def configNumbersRow : OpenClaim := { program := "ytcolhngdhlamkaa", sum := "f4ffb59adf5b104ed19af002dca2a22d2b705b36cf84aa07ee39625c8b9fe28c", func := "backfill/backfilllaw11.ConfigNumbers", spec := "configNumbers", inPlace := ["math/bits.Add64"], unfollowed := true, recurses := true, apart := false }
def ConfigNumbersSaid : Prop := configNumbersRow.holds Try.pinned (OpenSpec.ofChange configNumbersSpec)

/-- ITS FALSE NEIGHBOUR: 'it returns false'. Refute it at one input. -/
def configNumbersWrong : ChangeSpec := { name := "configNumbers", fn := fun _ => fun
  | [] => { results := [.lit (.bool false)], args := [] }
  | _ => none }
def ConfigNumbersWrongFalsely : Prop := configNumbersRow.holds Try.pinned (OpenSpec.ofChange configNumbersWrong)

/-- 'backfilllaw01.WideSums': WHATEVER THE INPUT: true; the input reads as it did. -/
def wideSumsSpec : ChangeSpec := { name := "wideSums", fn := fun _ => fun
  | [d1, d2] => { results := [.lit (.bool true)], args := [d1, d2] }
  | _ => none }
def wideSumsRow : OpenClaim := { program := "ytcolhngdhlamkaa", sum := "f4ffb59adf5b104ed19af002dca2a22d2b705b36cf84aa07ee39625c8b9fe28c", func := "backfill/backfilllaw01.WideSums", spec := "wideSums", inPlace := ["math/bits.Add64", "math/bits.Sub64"], named := ["math/bits.divideError", "math/bits.overflowError"], apart := false }
def WideSumsSaid : Prop := wideSumsRow.holds Try.pinned (OpenSpec.ofChange wideSumsSpec)

/-- ITS FALSE NEIGHBOUR: 'it returns false'. Refute it at one input. -/
def wideSumsWrong : ChangeSpec := { name := "wideSums", fn := fun _ => fun
  | [d1, d2] => { results := [.lit (.bool false)], args := [d1, d2] }
  | _ => none }
def WideSumsWrongFalsely : Prop := wideSumsRow.holds Try.pinned (OpenSpec.ofChange wideSumsWrong)

/-- 'backfilllaw04.FixqTells': WHATEVER THE INPUT: true; the input reads as it did. -/
def fixqTellsSpec : ChangeSpec := { name := "fixqTells", fn := fun _ => fun
  | [d1, d2, d3] => { results := [.lit (.bool true)], args := [d1, d2, d3] }
  | _ => none }
def fixqTellsRow : OpenClaim := { program := "ytcolhngdhlamkaa", sum := "f4ffb59adf5b104ed19af002dca2a22d2b705b36cf84aa07ee39625c8b9fe28c", func := "backfill/backfilllaw04.FixqTells", spec := "fixqTells", inPlace := ["math/bits.Add64"], named := ["math/bits.divideError", "math/bits.overflowError"], apart := false }
def FixqTellsSaid : Prop := fixqTellsRow.holds Try.pinned (OpenSpec.ofChange fixqTellsSpec)

/-- ITS FALSE NEIGHBOUR: 'it returns false'. Refute it at one input. -/
def fixqTellsWrong : ChangeSpec := { name := "fixqTells", fn := fun _ => fun
  | [d1, d2, d3] => { results := [.lit (.bool false)], args := [d1, d2, d3] }
  | _ => none }
def FixqTellsWrongFalsely : Prop := fixqTellsRow.holds Try.pinned (OpenSpec.ofChange fixqTellsWrong)

/-- 'backfilllaw04.FixqLaws': WHATEVER THE INPUT: true; the input reads as it did. -/
def fixqLawsSpec : ChangeSpec := { name := "fixqLaws", fn := fun _ => fun
  | [d1, d2, d3] => { results := [.lit (.bool true)], args := [d1, d2, d3] }
  | _ => none }
def fixqLawsRow : OpenClaim := { program := "ytcolhngdhlamkaa", sum := "f4ffb59adf5b104ed19af002dca2a22d2b705b36cf84aa07ee39625c8b9fe28c", func := "backfill/backfilllaw04.FixqLaws", spec := "fixqLaws", inPlace := ["math/bits.Add64"], named := ["math/bits.divideError", "math/bits.overflowError"], apart := false }
def FixqLawsSaid : Prop := fixqLawsRow.holds Try.pinned (OpenSpec.ofChange fixqLawsSpec)

/-- ITS FALSE NEIGHBOUR: 'it returns false'. Refute it at one input. -/
def fixqLawsWrong : ChangeSpec := { name := "fixqLaws", fn := fun _ => fun
  | [d1, d2, d3] => { results := [.lit (.bool false)], args := [d1, d2, d3] }
  | _ => none }
def FixqLawsWrongFalsely : Prop := fixqLawsRow.holds Try.pinned (OpenSpec.ofChange fixqLawsWrong)

/-- 'backfilllaw01.WideBack': WHATEVER THE INPUT: true; the input reads as it did. -/
def wideBackSpec : ChangeSpec := { name := "wideBack", fn := fun _ => fun
  | [d1, d2, d3] => { results := [.lit (.bool true)], args := [d1, d2, d3] }
  | _ => none }
def wideBackRow : OpenClaim := { program := "ytcolhngdhlamkaa", sum := "f4ffb59adf5b104ed19af002dca2a22d2b705b36cf84aa07ee39625c8b9fe28c", func := "backfill/backfilllaw01.WideBack", spec := "wideBack", inPlace := ["math/bits.Add64", "math/bits.Sub64"], named := ["math/bits.divideError", "math/bits.overflowError"], apart := false }
def WideBackSaid : Prop := wideBackRow.holds Try.pinned (OpenSpec.ofChange wideBackSpec)

/-- ITS FALSE NEIGHBOUR: 'it returns false'. Refute it at one input. -/
def wideBackWrong : ChangeSpec := { name := "wideBack", fn := fun _ => fun
  | [d1, d2, d3] => { results := [.lit (.bool false)], args := [d1, d2, d3] }
  | _ => none }
def WideBackWrongFalsely : Prop := wideBackRow.holds Try.pinned (OpenSpec.ofChange wideBackWrong)

/- THE SECOND FORM. 'bulk': how many values and letters a reading holds, each counted each time it is reached (what is shared counts as often as it is met; a slice's spare places count too). A statement '..UptoSaid' is the law's where the arguments, and the package variables that the reading takes, are together of bulk at most 1048576: NARROWER than '..Said'. Prove '..Said' where nothing that the law and all that it calls make is longer than what came in: it says more and counts as full. Else prove '..UptoSaid'. A law counts once. -/
mutual
def uptoBulk {H : Type} : DataW H → Nat
  | .lit (.string bytes) => bytes.length + 1
  | .lit _ => 1
  | .nil => 1
  | .ptr d => uptoBulk d + 1
  | .slice elems spare => uptoBulkAll elems + uptoBulkAll spare + 1
  | .agg parts => uptoBulkAll parts + 1
  | .iface _ d => uptoBulk d + 1
  | .map entries => uptoBulkEntries entries + 1
  | .held _ => 1
def uptoBulkAll {H : Type} : List (DataW H) → Nat
  | [] => 0
  | d :: r => uptoBulk d + uptoBulkAll r
def uptoBulkEntries {H : Type} : List (Lit × DataW H) → Nat
  | [] => 0
  | x :: r => uptoBulkEntry x + uptoBulkEntries r
def uptoBulkEntry {H : Type} : Lit × DataW H → Nat
  | (.string bytes, d) => bytes.length + uptoBulk d + 1
  | (_, d) => uptoBulk d + 1
 end
def uptoSmall : (H : Type) → List (DataW H) → Bool := fun _ ds => decide (uptoBulkAll ds ≤ 1048576)
def OpenSpec.upto (s : _root_.Go.ChangeSpec) : _root_.Go.OpenSpec := { _root_.Go.OpenSpec.ofChange s with cond := some uptoSmall }

/-- 'backfilllaw04.FixqNumbers', WHERE WHAT IT READS IS OF BULK AT MOST 1048576: true; the input reads as it did. -/
def fixqNumbersUptoRow : OpenClaim := { program := "ytcolhngdhlamkaa", sum := "f4ffb59adf5b104ed19af002dca2a22d2b705b36cf84aa07ee39625c8b9fe28c", func := "backfill/backfilllaw04.FixqNumbers", spec := "fixqNumbers", named := ["math/bits.divideError", "math/bits.overflowError"], apart := false, narrowed := true }
def FixqNumbersUptoSaid : Prop := fixqNumbersUptoRow.holds Try.pinned (OpenSpec.upto fixqNumbersSpec)

/-- 'backfilllaw01.WideParts', WHERE WHAT IT READS IS OF BULK AT MOST 1048576: true; the input reads as it did. -/
def widePartsUptoRow : OpenClaim := { program := "ytcolhngdhlamkaa", sum := "f4ffb59adf5b104ed19af002dca2a22d2b705b36cf84aa07ee39625c8b9fe28c", func := "backfill/backfilllaw01.WideParts", spec := "wideParts", inPlace := ["math/bits.Add64"], named := ["math/bits.divideError", "math/bits.overflowError"], apart := false, narrowed := true }
def WidePartsUptoSaid : Prop := widePartsUptoRow.holds Try.pinned (OpenSpec.upto widePartsSpec)

/-- 'backfilllaw11.ConfigTells', WHERE WHAT IT READS IS OF BULK AT MOST 1048576: true; the input reads as it did. -/
def configTellsUptoRow : OpenClaim := { program := "ytcolhngdhlamkaa", sum := "f4ffb59adf5b104ed19af002dca2a22d2b705b36cf84aa07ee39625c8b9fe28c", func := "backfill/backfilllaw11.ConfigTells", spec := "configTells", inPlace := ["math/bits.Add64"], unfollowed := true, recurses := true, apart := false, narrowed := true }
def ConfigTellsUptoSaid : Prop := configTellsUptoRow.holds Try.pinned (OpenSpec.upto configTellsSpec)

/-- 'backfilllaw11.ConfigLaws', WHERE WHAT IT READS IS OF BULK AT MOST 1048576: true; the input reads as it did. -/
def configLawsUptoRow : OpenClaim := { program := "ytcolhngdhlamkaa", sum := "f4ffb59adf5b104ed19af002dca2a22d2b705b36cf84aa07ee39625c8b9fe28c", func := "backfill/backfilllaw11.ConfigLaws", spec := "configLaws", inPlace := ["math/bits.Add64"], unfollowed := true, recurses := true, apart := false, narrowed := true }
def ConfigLawsUptoSaid : Prop := configLawsUptoRow.holds Try.pinned (OpenSpec.upto configLawsSpec)

/-- 'backfilllaw11.ConfigNumbers', WHERE WHAT IT READS IS OF BULK AT MOST 1048576: true; the input reads as it did. -/
def configNumbersUptoRow : OpenClaim := { program := "ytcolhngdhlamkaa", sum := "f4ffb59adf5b104ed19af002dca2a22d2b705b36cf84aa07ee39625c8b9fe28c", func := "backfill/backfilllaw11.ConfigNumbers", spec := "configNumbers", inPlace := ["math/bits.Add64"], unfollowed := true, recurses := true, apart := false, narrowed := true }
def ConfigNumbersUptoSaid : Prop := configNumbersUptoRow.holds Try.pinned (OpenSpec.upto configNumbersSpec)

/-- 'backfilllaw01.WideSums', WHERE WHAT IT READS IS OF BULK AT MOST 1048576: true; the input reads as it did. -/
def wideSumsUptoRow : OpenClaim := { program := "ytcolhngdhlamkaa", sum := "f4ffb59adf5b104ed19af002dca2a22d2b705b36cf84aa07ee39625c8b9fe28c", func := "backfill/backfilllaw01.WideSums", spec := "wideSums", inPlace := ["math/bits.Add64", "math/bits.Sub64"], named := ["math/bits.divideError", "math/bits.overflowError"], apart := false, narrowed := true }
def WideSumsUptoSaid : Prop := wideSumsUptoRow.holds Try.pinned (OpenSpec.upto wideSumsSpec)

/-- 'backfilllaw04.FixqTells', WHERE WHAT IT READS IS OF BULK AT MOST 1048576: true; the input reads as it did. -/
def fixqTellsUptoRow : OpenClaim := { program := "ytcolhngdhlamkaa", sum := "f4ffb59adf5b104ed19af002dca2a22d2b705b36cf84aa07ee39625c8b9fe28c", func := "backfill/backfilllaw04.FixqTells", spec := "fixqTells", inPlace := ["math/bits.Add64"], named := ["math/bits.divideError", "math/bits.overflowError"], apart := false, narrowed := true }
def FixqTellsUptoSaid : Prop := fixqTellsUptoRow.holds Try.pinned (OpenSpec.upto fixqTellsSpec)

/-- 'backfilllaw04.FixqLaws', WHERE WHAT IT READS IS OF BULK AT MOST 1048576: true; the input reads as it did. -/
def fixqLawsUptoRow : OpenClaim := { program := "ytcolhngdhlamkaa", sum := "f4ffb59adf5b104ed19af002dca2a22d2b705b36cf84aa07ee39625c8b9fe28c", func := "backfill/backfilllaw04.FixqLaws", spec := "fixqLaws", inPlace := ["math/bits.Add64"], named := ["math/bits.divideError", "math/bits.overflowError"], apart := false, narrowed := true }
def FixqLawsUptoSaid : Prop := fixqLawsUptoRow.holds Try.pinned (OpenSpec.upto fixqLawsSpec)

/-- 'backfilllaw01.WideBack', WHERE WHAT IT READS IS OF BULK AT MOST 1048576: true; the input reads as it did. -/
def wideBackUptoRow : OpenClaim := { program := "ytcolhngdhlamkaa", sum := "f4ffb59adf5b104ed19af002dca2a22d2b705b36cf84aa07ee39625c8b9fe28c", func := "backfill/backfilllaw01.WideBack", spec := "wideBack", inPlace := ["math/bits.Add64", "math/bits.Sub64"], named := ["math/bits.divideError", "math/bits.overflowError"], apart := false, narrowed := true }
def WideBackUptoSaid : Prop := wideBackUptoRow.holds Try.pinned (OpenSpec.upto wideBackSpec)

end Rows
end Go.Proofs.Ytcolhngdhlamkaa
