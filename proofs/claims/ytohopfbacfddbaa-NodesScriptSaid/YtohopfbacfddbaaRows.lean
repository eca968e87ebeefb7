/-
  No cell of these rows narrows 'for every input' (looked for: loops, veiled, ifaces, maps, wideKeys, modest, calm, conditions, laid).
  DERIVED. THE GIVEN ROWS OF THIS SEAT. 3 by the template 'for every input the law returns true; each argument reads behind the call as it read before'; 0 by the template 'total and deterministic' (their statements: YtohopfbacfddbaaTotals.lean).
  GIVEN WITH THE SEED: the statements are not yours to turn. If you find one false, say at which input.
  Laid BY PROGRAM, IN A SANDBOX (cutbox-rows.mjs): the forced cells as the released guide's own fill.sh prints them over the translation 00d94497a9b798f3… (all of the seat's roots in one cut). By AI agents, Wed Nov 11 2026. No macro, syntax, notation, axiom, sorry.
-/
import Derived.Test.YtohopfbacfddbaaChecked
import GoSem.Claim
import GoSem.ClaimJoined
import GoSem.ClaimMapViews
import Derived.JoinedTies
import Derived.KernelRfl
namespace Go.Proofs.Ytohopfbacfddbaa
/- THE CELL 'sum', in the pinned program and in every row, IS THE sha256 OF THE DUMP (.gsa) THAT YtohopfbacfddbaaProg.lean LOADS. Nothing in Lean hashes anything: it is a label: what it is worth is what the hold of that sum in a sandbox is worth. -/
noncomputable def Try.pinned : Pinned := { name := "ytohopfbacfddbaa", sum := "00d94497a9b798f3d27669db8ce24c4ec097aff58a22b09937b587bb0a2d1a2d", checked := Try.checked }
namespace Rows
def none {H : Type} : Left H := { results := [], args := [] }

/-- 'backfilllaw02.NodesLowest': WHATEVER THE INPUT: true; the input reads as it did. -/
def nodesLowestSpec : ChangeSpec := { name := "nodesLowest", fn := fun _ => fun
  | [d1, d2, d3] => { results := [.lit (.bool true)], args := [d1, d2, d3] }
  | _ => none }
def nodesLowestRow : OpenClaim := { program := "ytohopfbacfddbaa", sum := "00d94497a9b798f3d27669db8ce24c4ec097aff58a22b09937b587bb0a2d1a2d", func := "backfill/backfilllaw02.NodesLowest", spec := "nodesLowest", apart := false }
def NodesLowestSaid : Prop := nodesLowestRow.holds Try.pinned (OpenSpec.ofChange nodesLowestSpec)

/-- ITS FALSE NEIGHBOUR: 'it returns false'. Refute it at one input. -/
def nodesLowestWrong : ChangeSpec := { name := "nodesLowest", fn := fun _ => fun
  | [d1, d2, d3] => { results := [.lit (.bool false)], args := [d1, d2, d3] }
  | _ => none }
def NodesLowestWrongFalsely : Prop := nodesLowestRow.holds Try.pinned (OpenSpec.ofChange nodesLowestWrong)

/-- 'backfilllaw02.NodesNames': WHATEVER THE INPUT: true; the input reads as it did. -/
def nodesNamesSpec : ChangeSpec := { name := "nodesNames", fn := fun _ => fun
  | [] => { results := [.lit (.bool true)], args := [] }
  | _ => none }
def nodesNamesRow : OpenClaim := { program := "ytohopfbacfddbaa", sum := "00d94497a9b798f3d27669db8ce24c4ec097aff58a22b09937b587bb0a2d1a2d", func := "backfill/backfilllaw02.NodesNames", spec := "nodesNames", apart := false }
def NodesNamesSaid : Prop := nodesNamesRow.holds Try.pinned (OpenSpec.ofChange nodesNamesSpec)

/-- ITS FALSE NEIGHBOUR: 'it returns false'. Refute it at one input. -/
def nodesNamesWrong : ChangeSpec := { name := "nodesNames", fn := fun _ => fun
  | [] => { results := [.lit (.bool false)], args := [] }
  | _ => none }
def NodesNamesWrongFalsely : Prop := nodesNamesRow.holds Try.pinned (OpenSpec.ofChange nodesNamesWrong)

/-- 'backfilllaw02.NodesScript': WHATEVER THE INPUT: true; the input reads as it did. -/
def nodesScriptSpec : ChangeSpec := { name := "nodesScript", fn := fun _ => fun
  | [d1, d2, d3] => { results := [.lit (.bool true)], args := [d1, d2, d3] }
  | _ => none }
def nodesScriptRow : OpenClaim := { program := "ytohopfbacfddbaa", sum := "00d94497a9b798f3d27669db8ce24c4ec097aff58a22b09937b587bb0a2d1a2d", func := "backfill/backfilllaw02.NodesScript", spec := "nodesScript", apart := false }
def NodesScriptSaid : Prop := nodesScriptRow.holds Try.pinned (OpenSpec.ofChange nodesScriptSpec)

/-- ITS FALSE NEIGHBOUR: 'it returns false'. Refute it at one input. -/
def nodesScriptWrong : ChangeSpec := { name := "nodesScript", fn := fun _ => fun
  | [d1, d2, d3] => { results := [.lit (.bool false)], args := [d1, d2, d3] }
  | _ => none }
def NodesScriptWrongFalsely : Prop := nodesScriptRow.holds Try.pinned (OpenSpec.ofChange nodesScriptWrong)

/- THE SECOND FORM. 'bulk': how many values and letters a reading holds, each counted each time it is reached (what is shared counts as often as it is met; a slice's spare places count too). A statement '..UptoSaid' is the law's where the arguments, and the package variables that the reading takes, are together of bulk at most 1048576: NARROWER than '..Said'. Prove '..Said' where nothing that the law and all that it calls make is longer than what came in: it says more and counts as full. Else prove '..UptoSaid'. A law counts once. -/
mutual
def uptoBulk {H : Type} : DataW H → Nat
  | .lit (.string bytes) => bytes.length + 1
  | .lit _ => 1
  | .nil => 1
  | .ptr d => uptoBulk d + 1
  | .slice elems spare => uptoBulkAll elems + uptoBulkAll spare + 1
  | .agg parts => uptoBulkAll parts + 1
  | .iface _ d => uptoBulk d + 1
  | .map entries => uptoBulkEntries entries + 1
  | .held _ => 1
def uptoBulkAll {H : Type} : List (DataW H) → Nat
  | [] => 0
  | d :: r => uptoBulk d + uptoBulkAll r
def uptoBulkEntries {H : Type} : List (Lit × DataW H) → Nat
  | [] => 0
  | x :: r => uptoBulkEntry x + uptoBulkEntries r
def uptoBulkEntry {H : Type} : Lit × DataW H → Nat
  | (.string bytes, d) => bytes.length + uptoBulk d + 1
  | (_, d) => uptoBulk d + 1
 end
def uptoSmall : (H : Type) → List (DataW H) → Bool := fun _ ds => decide (uptoBulkAll ds ≤ 1048576)
def OpenSpec.upto (s : _root_.Go.ChangeSpec) : _root_.Go.OpenSpec := { _root_.Go.OpenSpec.ofChange s with cond := some uptoSmall }

/-- 'backfilllaw02.NodesLowest', WHERE WHAT IT READS IS OF BULK AT MOST 1048576: true; the input reads as it did. -/
def nodesLowestUptoRow : OpenClaim := { program := "ytohopfbacfddbaa", sum := "00d94497a9b798f3d27669db8ce24c4ec097aff58a22b09937b587bb0a2d1a2d", func := "backfill/backfilllaw02.NodesLowest", spec := "nodesLowest", apart := false, narrowed := true }
def NodesLowestUptoSaid : Prop := nodesLowestUptoRow.holds Try.pinned (OpenSpec.upto nodesLowestSpec)

/-- 'backfilllaw02.NodesNames', WHERE WHAT IT READS IS OF BULK AT MOST 1048576: true; the input reads as it did. -/
def nodesNamesUptoRow : OpenClaim := { program := "ytohopfbacfddbaa", sum := "00d94497a9b798f3d27669db8ce24c4ec097aff58a22b09937b587bb0a2d1a2d", func := "backfill/backfilllaw02.NodesNames", spec := "nodesNames", apart := false, narrowed := true }
def NodesNamesUptoSaid : Prop := nodesNamesUptoRow.holds Try.pinned (OpenSpec.upto nodesNamesSpec)

/-- 'backfilllaw02.NodesScript', WHERE WHAT IT READS IS OF BULK AT MOST 1048576: true; the input reads as it did. -/
def nodesScriptUptoRow : OpenClaim := { program := "ytohopfbacfddbaa", sum := "00d94497a9b798f3d27669db8ce24c4ec097aff58a22b09937b587bb0a2d1a2d", func := "backfill/backfilllaw02.NodesScript", spec := "nodesScript", apart := false, narrowed := true }
def NodesScriptUptoSaid : Prop := nodesScriptUptoRow.holds Try.pinned (OpenSpec.upto nodesScriptSpec)

end Rows
end Go.Proofs.Ytohopfbacfddbaa
