/-
  NARROWER THAN 'FOR EVERY INPUT', by the rows' own cells (each row's printed sentence says how): PrioRanks: laid · PrioOrder: laid.
  DERIVED. THE GIVEN ROWS OF THIS SEAT. 2 by the template 'for every input the law returns true; each argument reads behind the call as it read before'; 0 by the template 'total and deterministic' (their statements: YtodibpddlibneaaGreatDoorTotals.lean).
  GIVEN WITH THE SEED: the statements are not yours to turn. If you find one false, say at which input.
  Laid BY PROGRAM, IN A SANDBOX (cutbox-rows.mjs): the forced cells as the released guide's own fill.sh prints them over the translation c805a8802ef242fa… (all of the seat's roots in one cut). By AI agents, Wed Nov 11 2026. No macro, syntax, notation, axiom, sorry.
-/
import Derived.Test.YtodibpddlibneaaGreatDoorChecked
import GoSem.Claim
import GoSem.ClaimJoined
import GoSem.ClaimMapViews
import Derived.JoinedTies
import Derived.KernelRfl
namespace Go.Proofs.YtodibpddlibneaaGreatDoor
/- THE CELL 'sum', in the pinned program and in every row, IS THE sha256 OF THE DUMP (.gsa) THAT YtodibpddlibneaaGreatDoorProg.lean LOADS. Nothing in Lean hashes anything: it is a label: what it is worth is what the hold of that sum in a sandbox is worth. -/
noncomputable def Tryz.pinned : Pinned := { name := "ytodibpddlibneaagreatdoor", sum := "c805a8802ef242fae59234235279e0fd330a990c920648e3a46e2e6a477bf709", checked := Tryz.checked }
namespace Rows
def none {H : Type} : Left H := { results := [], args := [] }

/- WHAT THE LISTED PACKAGE-LEVEL VARIABLES READ AS WHEN THE CALL BEGINS. Each datum BY PROGRAM (the guide's laid-datum.mjs) off the statement by which the dump's own 'gosem.cut.vars' lays the variable. In a bare row this is a premise. The card (YtodibpddlibneaaGreatDoorCards.lean) ties it to the program's text. -/
def laid_backfill_ladder_rungs {H : Type} : DataW H := .agg [.lit (.int .u64 13043817825332782212), .lit (.int .u64 15511800964685064948), .lit (.int .u64 16915738899553466670), .lit (.int .u64 17664662643191237676), .lit (.int .u64 18051468387014017850), .lit (.int .u64 18248035989933441396), .lit (.int .u64 18347121020861646923), .lit (.int .u64 18396865112328554660), .lit (.int .u64 18421787711448657617), .lit (.int .u64 18434261669329232139), .lit (.int .u64 18440501815349552981), .lit (.int .u64 18443622680442407997), .lit (.int .u64 18445183311048607331), .lit (.int .u64 18445963675871538003), .lit (.int .u64 18446353870663572144), .lit (.int .u64 18446548971154807801), .lit (.int .u64 18446646522174239824), .lit (.int .u64 18446695297877410578), .lit (.int .u64 18446719685777359790), .lit (.int .u64 18446731879739425373), .lit (.int .u64 18446737976723480911), .lit (.int .u64 18446741025216264367), .lit (.int .u64 18446742549462845017), .lit (.int .u64 18446743311586182573), .lit (.int .u64 18446743692647863158), .lit (.int .u64 18446743883178706403), .lit (.int .u64 18446743978444128763), .lit (.int .u64 18446744026076840128), .lit (.int .u64 18446744049893195856), .lit (.int .u64 18446744061801373732), .lit (.int .u64 18446744067755462673), .lit (.int .u64 18446744070732507144)]

/-- 'backfilllaw14.PrioRanks': WHATEVER THE INPUT: true; the input reads as it did. -/
def prioRanksSpec : ChangeSpec := { name := "prioRanks", fn := fun _ => fun
  | [d] => { results := [.lit (.bool true)], args := [d] }
  | _ => none }
def prioRanksRow : OpenClaim := { program := "ytodibpddlibneaagreatdoor", sum := "c805a8802ef242fae59234235279e0fd330a990c920648e3a46e2e6a477bf709", func := "backfill/backfilllaw14.PrioRanks", spec := "prioRanks", inPlace := ["math/bits.Add64"], unfollowed := true, recurses := true, named := ["math/bits.divideError", "math/bits.overflowError", "backfill/ladder.rungs"], apart := false, laid := [("backfill/ladder.rungs", laid_backfill_ladder_rungs)] }
def PrioRanksSaid : Prop := prioRanksRow.holds Tryz.pinned (OpenSpec.ofChange prioRanksSpec)

/-- ITS FALSE NEIGHBOUR: 'it returns false'. Refute it at one input. -/
def prioRanksWrong : ChangeSpec := { name := "prioRanks", fn := fun _ => fun
  | [d] => { results := [.lit (.bool false)], args := [d] }
  | _ => none }
def PrioRanksWrongFalsely : Prop := prioRanksRow.holds Tryz.pinned (OpenSpec.ofChange prioRanksWrong)

/-- 'backfilllaw14.PrioOrder': WHATEVER THE INPUT: true; the input reads as it did. -/
def prioOrderSpec : ChangeSpec := { name := "prioOrder", fn := fun _ => fun
  | [d] => { results := [.lit (.bool true)], args := [d] }
  | _ => none }
def prioOrderRow : OpenClaim := { program := "ytodibpddlibneaagreatdoor", sum := "c805a8802ef242fae59234235279e0fd330a990c920648e3a46e2e6a477bf709", func := "backfill/backfilllaw14.PrioOrder", spec := "prioOrder", inPlace := ["math/bits.Add64"], unfollowed := true, recurses := true, named := ["math/bits.divideError", "math/bits.overflowError", "backfill/ladder.rungs"], apart := false, laid := [("backfill/ladder.rungs", laid_backfill_ladder_rungs)] }
def PrioOrderSaid : Prop := prioOrderRow.holds Tryz.pinned (OpenSpec.ofChange prioOrderSpec)

/-- ITS FALSE NEIGHBOUR: 'it returns false'. Refute it at one input. -/
def prioOrderWrong : ChangeSpec := { name := "prioOrder", fn := fun _ => fun
  | [d] => { results := [.lit (.bool false)], args := [d] }
  | _ => none }
def PrioOrderWrongFalsely : Prop := prioOrderRow.holds Tryz.pinned (OpenSpec.ofChange prioOrderWrong)

/- THE SECOND FORM. 'bulk': how many values and letters a reading holds, each counted each time it is reached (what is shared counts as often as it is met; a slice's spare places count too). A statement '..UptoSaid' is the law's where the arguments, and the package variables that the reading takes, are together of bulk at most 1048576: NARROWER than '..Said'. Prove '..Said' where nothing that the law and all that it calls make is longer than what came in: it says more and counts as full. Else prove '..UptoSaid'. A law counts once. -/
mutual
def uptoBulk {H : Type} : DataW H → Nat
  | .lit (.string bytes) => bytes.length + 1
  | .lit _ => 1
  | .nil => 1
  | .ptr d => uptoBulk d + 1
  | .slice elems spare => uptoBulkAll elems + uptoBulkAll spare + 1
  | .agg parts => uptoBulkAll parts + 1
  | .iface _ d => uptoBulk d + 1
  | .map entries => uptoBulkEntries entries + 1
  | .held _ => 1
def uptoBulkAll {H : Type} : List (DataW H) → Nat
  | [] => 0
  | d :: r => uptoBulk d + uptoBulkAll r
def uptoBulkEntries {H : Type} : List (Lit × DataW H) → Nat
  | [] => 0
  | x :: r => uptoBulkEntry x + uptoBulkEntries r
def uptoBulkEntry {H : Type} : Lit × DataW H → Nat
  | (.string bytes, d) => bytes.length + uptoBulk d + 1
  | (_, d) => uptoBulk d + 1
 end
def uptoSmall : (H : Type) → List (DataW H) → Bool := fun _ ds => decide (uptoBulkAll ds ≤ 1048576)
def OpenSpec.upto (s : _root_.Go.ChangeSpec) : _root_.Go.OpenSpec := { _root_.Go.OpenSpec.ofChange s with cond := some uptoSmall }

/-- 'backfilllaw14.PrioRanks', WHERE WHAT IT READS IS OF BULK AT MOST 1048576: true; the input reads as it did. -/
def prioRanksUptoRow : OpenClaim := { program := "ytodibpddlibneaagreatdoor", sum := "c805a8802ef242fae59234235279e0fd330a990c920648e3a46e2e6a477bf709", func := "backfill/backfilllaw14.PrioRanks", spec := "prioRanks", inPlace := ["math/bits.Add64"], unfollowed := true, recurses := true, named := ["math/bits.divideError", "math/bits.overflowError", "backfill/ladder.rungs"], apart := false, laid := [("backfill/ladder.rungs", laid_backfill_ladder_rungs)], narrowed := true }
def PrioRanksUptoSaid : Prop := prioRanksUptoRow.holds Tryz.pinned (OpenSpec.upto prioRanksSpec)

/-- 'backfilllaw14.PrioOrder', WHERE WHAT IT READS IS OF BULK AT MOST 1048576: true; the input reads as it did. -/
def prioOrderUptoRow : OpenClaim := { program := "ytodibpddlibneaagreatdoor", sum := "c805a8802ef242fae59234235279e0fd330a990c920648e3a46e2e6a477bf709", func := "backfill/backfilllaw14.PrioOrder", spec := "prioOrder", inPlace := ["math/bits.Add64"], unfollowed := true, recurses := true, named := ["math/bits.divideError", "math/bits.overflowError", "backfill/ladder.rungs"], apart := false, laid := [("backfill/ladder.rungs", laid_backfill_ladder_rungs)], narrowed := true }
def PrioOrderUptoSaid : Prop := prioOrderUptoRow.holds Tryz.pinned (OpenSpec.upto prioOrderSpec)

end Rows
end Go.Proofs.YtodibpddlibneaaGreatDoor
