/-
  No cell of these rows narrows 'for every input' (looked for: loops, veiled, ifaces, maps, wideKeys, modest, calm, conditions, laid).
  DERIVED. THE GIVEN ROWS OF THIS SEAT. 3 by the template 'for every input the law returns true; each argument reads behind the call as it read before'; 0 by the template 'total and deterministic' (their statements: YtodibpddlibneaaTotals.lean).
  GIVEN WITH THE SEED: the statements are not yours to turn. If you find one false, say at which input.
  Laid BY PROGRAM, IN A SANDBOX (cutbox-rows.mjs): the forced cells as the released guide's own fill.sh prints them over the translation de36f5b4a780d3d1… (all of the seat's roots in one cut). By AI agents, Wed Nov 11 2026. No macro, syntax, notation, axiom, sorry.
-/
import Derived.Test.YtodibpddlibneaaChecked
import GoSem.Claim
import GoSem.ClaimJoined
import GoSem.ClaimMapViews
import Derived.JoinedTies
import Derived.KernelRfl
namespace Go.Proofs.Ytodibpddlibneaa
/- THE CELL 'sum', in the pinned program and in every row, IS THE sha256 OF THE DUMP (.gsa) THAT YtodibpddlibneaaProg.lean LOADS. Nothing in Lean hashes anything: it is a label: what it is worth is what the hold of that sum in a sandbox is worth. -/
noncomputable def Try.pinned : Pinned := { name := "ytodibpddlibneaa", sum := "de36f5b4a780d3d1c0071a241759b67c42623415e1f5d448adaee4cd8011a9fe", checked := Try.checked }
namespace Rows
def none {H : Type} : Left H := { results := [], args := [] }

/-- 'backfilllaw14.PrioSorts': WHATEVER THE INPUT: true; the input reads as it did. -/
def prioSortsSpec : ChangeSpec := { name := "prioSorts", fn := fun _ => fun
  | [d1, d2] => { results := [.lit (.bool true)], args := [d1, d2] }
  | _ => none }
def prioSortsRow : OpenClaim := { program := "ytodibpddlibneaa", sum := "de36f5b4a780d3d1c0071a241759b67c42623415e1f5d448adaee4cd8011a9fe", func := "backfill/backfilllaw14.PrioSorts", spec := "prioSorts", inPlace := ["math/bits.Add64"], unfollowed := true, recurses := true, apart := false }
def PrioSortsSaid : Prop := prioSortsRow.holds Try.pinned (OpenSpec.ofChange prioSortsSpec)

/-- ITS FALSE NEIGHBOUR: 'it returns false'. Refute it at one input. -/
def prioSortsWrong : ChangeSpec := { name := "prioSorts", fn := fun _ => fun
  | [d1, d2] => { results := [.lit (.bool false)], args := [d1, d2] }
  | _ => none }
def PrioSortsWrongFalsely : Prop := prioSortsRow.holds Try.pinned (OpenSpec.ofChange prioSortsWrong)

/-- 'backfilllaw14.PrioTells': WHATEVER THE INPUT: true; the input reads as it did. -/
def prioTellsSpec : ChangeSpec := { name := "prioTells", fn := fun _ => fun
  | [d1, d2, d3, d4] => { results := [.lit (.bool true)], args := [d1, d2, d3, d4] }
  | _ => none }
def prioTellsRow : OpenClaim := { program := "ytodibpddlibneaa", sum := "de36f5b4a780d3d1c0071a241759b67c42623415e1f5d448adaee4cd8011a9fe", func := "backfill/backfilllaw14.PrioTells", spec := "prioTells", inPlace := ["math/bits.Add64"], unfollowed := true, recurses := true, apart := false }
def PrioTellsSaid : Prop := prioTellsRow.holds Try.pinned (OpenSpec.ofChange prioTellsSpec)

/-- ITS FALSE NEIGHBOUR: 'it returns false'. Refute it at one input. -/
def prioTellsWrong : ChangeSpec := { name := "prioTells", fn := fun _ => fun
  | [d1, d2, d3, d4] => { results := [.lit (.bool false)], args := [d1, d2, d3, d4] }
  | _ => none }
def PrioTellsWrongFalsely : Prop := prioTellsRow.holds Try.pinned (OpenSpec.ofChange prioTellsWrong)

/-- 'backfilllaw14.PrioAge': WHATEVER THE INPUT: true; the input reads as it did. -/
def prioAgeSpec : ChangeSpec := { name := "prioAge", fn := fun _ => fun
  | [d1, d2, d3, d4, d5, d6, d7, d8] => { results := [.lit (.bool true)], args := [d1, d2, d3, d4, d5, d6, d7, d8] }
  | _ => none }
def prioAgeRow : OpenClaim := { program := "ytodibpddlibneaa", sum := "de36f5b4a780d3d1c0071a241759b67c42623415e1f5d448adaee4cd8011a9fe", func := "backfill/backfilllaw14.PrioAge", spec := "prioAge", inPlace := ["math/bits.Add64"], unfollowed := true, recurses := true, apart := false }
def PrioAgeSaid : Prop := prioAgeRow.holds Try.pinned (OpenSpec.ofChange prioAgeSpec)

/-- ITS FALSE NEIGHBOUR: 'it returns false'. Refute it at one input. -/
def prioAgeWrong : ChangeSpec := { name := "prioAge", fn := fun _ => fun
  | [d1, d2, d3, d4, d5, d6, d7, d8] => { results := [.lit (.bool false)], args := [d1, d2, d3, d4, d5, d6, d7, d8] }
  | _ => none }
def PrioAgeWrongFalsely : Prop := prioAgeRow.holds Try.pinned (OpenSpec.ofChange prioAgeWrong)

/- THE SECOND FORM. 'bulk': how many values and letters a reading holds, each counted each time it is reached (what is shared counts as often as it is met; a slice's spare places count too). A statement '..UptoSaid' is the law's where the arguments, and the package variables that the reading takes, are together of bulk at most 1048576: NARROWER than '..Said'. Prove '..Said' where nothing that the law and all that it calls make is longer than what came in: it says more and counts as full. Else prove '..UptoSaid'. A law counts once. -/
mutual
def uptoBulk {H : Type} : DataW H → Nat
  | .lit (.string bytes) => bytes.length + 1
  | .lit _ => 1
  | .nil => 1
  | .ptr d => uptoBulk d + 1
  | .slice elems spare => uptoBulkAll elems + uptoBulkAll spare + 1
  | .agg parts => uptoBulkAll parts + 1
  | .iface _ d => uptoBulk d + 1
  | .map entries => uptoBulkEntries entries + 1
  | .held _ => 1
def uptoBulkAll {H : Type} : List (DataW H) → Nat
  | [] => 0
  | d :: r => uptoBulk d + uptoBulkAll r
def uptoBulkEntries {H : Type} : List (Lit × DataW H) → Nat
  | [] => 0
  | x :: r => uptoBulkEntry x + uptoBulkEntries r
def uptoBulkEntry {H : Type} : Lit × DataW H → Nat
  | (.string bytes, d) => bytes.length + uptoBulk d + 1
  | (_, d) => uptoBulk d + 1
 end
def uptoSmall : (H : Type) → List (DataW H) → Bool := fun _ ds => decide (uptoBulkAll ds ≤ 1048576)
def OpenSpec.upto (s : _root_.Go.ChangeSpec) : _root_.Go.OpenSpec := { _root_.Go.OpenSpec.ofChange s with cond := some uptoSmall }

/-- 'backfilllaw14.PrioSorts', WHERE WHAT IT READS IS OF BULK AT MOST 1048576: true; the input reads as it did. -/
def prioSortsUptoRow : OpenClaim := { program := "ytodibpddlibneaa", sum := "de36f5b4a780d3d1c0071a241759b67c42623415e1f5d448adaee4cd8011a9fe", func := "backfill/backfilllaw14.PrioSorts", spec := "prioSorts", inPlace := ["math/bits.Add64"], unfollowed := true, recurses := true, apart := false, narrowed := true }
def PrioSortsUptoSaid : Prop := prioSortsUptoRow.holds Try.pinned (OpenSpec.upto prioSortsSpec)

/-- 'backfilllaw14.PrioTells', WHERE WHAT IT READS IS OF BULK AT MOST 1048576: true; the input reads as it did. -/
def prioTellsUptoRow : OpenClaim := { program := "ytodibpddlibneaa", sum := "de36f5b4a780d3d1c0071a241759b67c42623415e1f5d448adaee4cd8011a9fe", func := "backfill/backfilllaw14.PrioTells", spec := "prioTells", inPlace := ["math/bits.Add64"], unfollowed := true, recurses := true, apart := false, narrowed := true }
def PrioTellsUptoSaid : Prop := prioTellsUptoRow.holds Try.pinned (OpenSpec.upto prioTellsSpec)

/-- 'backfilllaw14.PrioAge', WHERE WHAT IT READS IS OF BULK AT MOST 1048576: true; the input reads as it did. -/
def prioAgeUptoRow : OpenClaim := { program := "ytodibpddlibneaa", sum := "de36f5b4a780d3d1c0071a241759b67c42623415e1f5d448adaee4cd8011a9fe", func := "backfill/backfilllaw14.PrioAge", spec := "prioAge", inPlace := ["math/bits.Add64"], unfollowed := true, recurses := true, apart := false, narrowed := true }
def PrioAgeUptoSaid : Prop := prioAgeUptoRow.holds Try.pinned (OpenSpec.upto prioAgeSpec)

end Rows
end Go.Proofs.Ytodibpddlibneaa
