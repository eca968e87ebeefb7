/-
  NARROWER THAN 'FOR EVERY INPUT', by the rows' own cells (each row's printed sentence says how): LadderRungs: laid · LadderTells: laid · LadderFalls: laid · LadderTrue: laid · DecayTells: laid · DecayFades: laid · DecayLaws: laid · DecayBounded: laid · DecayNumbers: laid.
  DERIVED. THE GIVEN ROWS OF THIS SEAT. 9 by the template 'for every input the law returns true; each argument reads behind the call as it read before'; 0 by the template 'total and deterministic' (their statements: YtmgmggkebmgafaaDoorTotals.lean).
  GIVEN WITH THE SEED: the statements are not yours to turn. If you find one false, say at which input.
  Laid BY PROGRAM, IN A SANDBOX (cutbox-rows.mjs): the forced cells as the released guide's own fill.sh prints them over the translation 790a2d0504bc8f8f… (all of the seat's roots in one cut). By AI agents, Wed Nov 11 2026. No macro, syntax, notation, axiom, sorry.
-/
import Derived.Test.YtmgmggkebmgafaaDoorChecked
import GoSem.Claim
import GoSem.ClaimJoined
import GoSem.ClaimMapViews
import Derived.JoinedTies
import Derived.KernelRfl
namespace Go.Proofs.YtmgmggkebmgafaaDoor
/- THE CELL 'sum', in the pinned program and in every row, IS THE sha256 OF THE DUMP (.gsa) THAT YtmgmggkebmgafaaDoorProg.lean LOADS. Nothing in Lean hashes anything: it is a label: what it is worth is what the hold of that sum in a sandbox is worth. -/
noncomputable def Tryd.pinned : Pinned := { name := "ytmgmggkebmgafaadoor", sum := "790a2d0504bc8f8f7263c4ea8b35acae801ad6b00863b00c6b473ebffb3f6e5f", checked := Tryd.checked }
namespace Rows
def none {H : Type} : Left H := { results := [], args := [] }

/- WHAT THE LISTED PACKAGE-LEVEL VARIABLES READ AS WHEN THE CALL BEGINS. Each datum BY PROGRAM (the guide's laid-datum.mjs) off the statement by which the dump's own 'gosem.cut.vars' lays the variable. In a bare row this is a premise. The card (YtmgmggkebmgafaaDoorCards.lean) ties it to the program's text. -/
def laid_backfill_ladder_rungs {H : Type} : DataW H := .agg [.lit (.int .u64 13043817825332782212), .lit (.int .u64 15511800964685064948), .lit (.int .u64 16915738899553466670), .lit (.int .u64 17664662643191237676), .lit (.int .u64 18051468387014017850), .lit (.int .u64 18248035989933441396), .lit (.int .u64 18347121020861646923), .lit (.int .u64 18396865112328554660), .lit (.int .u64 18421787711448657617), .lit (.int .u64 18434261669329232139), .lit (.int .u64 18440501815349552981), .lit (.int .u64 18443622680442407997), .lit (.int .u64 18445183311048607331), .lit (.int .u64 18445963675871538003), .lit (.int .u64 18446353870663572144), .lit (.int .u64 18446548971154807801), .lit (.int .u64 18446646522174239824), .lit (.int .u64 18446695297877410578), .lit (.int .u64 18446719685777359790), .lit (.int .u64 18446731879739425373), .lit (.int .u64 18446737976723480911), .lit (.int .u64 18446741025216264367), .lit (.int .u64 18446742549462845017), .lit (.int .u64 18446743311586182573), .lit (.int .u64 18446743692647863158), .lit (.int .u64 18446743883178706403), .lit (.int .u64 18446743978444128763), .lit (.int .u64 18446744026076840128), .lit (.int .u64 18446744049893195856), .lit (.int .u64 18446744061801373732), .lit (.int .u64 18446744067755462673), .lit (.int .u64 18446744070732507144)]

/-- 'backfilllaw07.LadderRungs': WHATEVER THE INPUT: true; the input reads as it did. -/
def ladderRungsSpec : ChangeSpec := { name := "ladderRungs", fn := fun _ => fun
  | [d] => { results := [.lit (.bool true)], args := [d] }
  | _ => none }
def ladderRungsRow : OpenClaim := { program := "ytmgmggkebmgafaadoor", sum := "790a2d0504bc8f8f7263c4ea8b35acae801ad6b00863b00c6b473ebffb3f6e5f", func := "backfill/backfilllaw07.LadderRungs", spec := "ladderRungs", named := ["backfill/ladder.rungs"], apart := false, laid := [("backfill/ladder.rungs", laid_backfill_ladder_rungs)] }
def LadderRungsSaid : Prop := ladderRungsRow.holds Tryd.pinned (OpenSpec.ofChange ladderRungsSpec)

/-- ITS FALSE NEIGHBOUR: 'it returns false'. Refute it at one input. -/
def ladderRungsWrong : ChangeSpec := { name := "ladderRungs", fn := fun _ => fun
  | [d] => { results := [.lit (.bool false)], args := [d] }
  | _ => none }
def LadderRungsWrongFalsely : Prop := ladderRungsRow.holds Tryd.pinned (OpenSpec.ofChange ladderRungsWrong)

/-- 'backfilllaw07.LadderTells': WHATEVER THE INPUT: true; the input reads as it did. -/
def ladderTellsSpec : ChangeSpec := { name := "ladderTells", fn := fun _ => fun
  | [d] => { results := [.lit (.bool true)], args := [d] }
  | _ => none }
def ladderTellsRow : OpenClaim := { program := "ytmgmggkebmgafaadoor", sum := "790a2d0504bc8f8f7263c4ea8b35acae801ad6b00863b00c6b473ebffb3f6e5f", func := "backfill/backfilllaw07.LadderTells", spec := "ladderTells", named := ["backfill/ladder.rungs"], apart := false, laid := [("backfill/ladder.rungs", laid_backfill_ladder_rungs)] }
def LadderTellsSaid : Prop := ladderTellsRow.holds Tryd.pinned (OpenSpec.ofChange ladderTellsSpec)

/-- ITS FALSE NEIGHBOUR: 'it returns false'. Refute it at one input. -/
def ladderTellsWrong : ChangeSpec := { name := "ladderTells", fn := fun _ => fun
  | [d] => { results := [.lit (.bool false)], args := [d] }
  | _ => none }
def LadderTellsWrongFalsely : Prop := ladderTellsRow.holds Tryd.pinned (OpenSpec.ofChange ladderTellsWrong)

/-- 'backfilllaw07.LadderFalls': WHATEVER THE INPUT: true; the input reads as it did. -/
def ladderFallsSpec : ChangeSpec := { name := "ladderFalls", fn := fun _ => fun
  | [d1, d2] => { results := [.lit (.bool true)], args := [d1, d2] }
  | _ => none }
def ladderFallsRow : OpenClaim := { program := "ytmgmggkebmgafaadoor", sum := "790a2d0504bc8f8f7263c4ea8b35acae801ad6b00863b00c6b473ebffb3f6e5f", func := "backfill/backfilllaw07.LadderFalls", spec := "ladderFalls", named := ["backfill/ladder.rungs"], apart := false, laid := [("backfill/ladder.rungs", laid_backfill_ladder_rungs)] }
def LadderFallsSaid : Prop := ladderFallsRow.holds Tryd.pinned (OpenSpec.ofChange ladderFallsSpec)

/-- ITS FALSE NEIGHBOUR: 'it returns false'. Refute it at one input. -/
def ladderFallsWrong : ChangeSpec := { name := "ladderFalls", fn := fun _ => fun
  | [d1, d2] => { results := [.lit (.bool false)], args := [d1, d2] }
  | _ => none }
def LadderFallsWrongFalsely : Prop := ladderFallsRow.holds Tryd.pinned (OpenSpec.ofChange ladderFallsWrong)

/-- 'backfilllaw07.LadderTrue': WHATEVER THE INPUT: true; the input reads as it did. -/
def ladderTrueSpec : ChangeSpec := { name := "ladderTrue", fn := fun _ => fun
  | [d] => { results := [.lit (.bool true)], args := [d] }
  | _ => none }
def ladderTrueRow : OpenClaim := { program := "ytmgmggkebmgafaadoor", sum := "790a2d0504bc8f8f7263c4ea8b35acae801ad6b00863b00c6b473ebffb3f6e5f", func := "backfill/backfilllaw07.LadderTrue", spec := "ladderTrue", named := ["backfill/ladder.rungs"], apart := false, laid := [("backfill/ladder.rungs", laid_backfill_ladder_rungs)] }
def LadderTrueSaid : Prop := ladderTrueRow.holds Tryd.pinned (OpenSpec.ofChange ladderTrueSpec)

/-- ITS FALSE NEIGHBOUR: 'it returns false'. Refute it at one input. -/
def ladderTrueWrong : ChangeSpec := { name := "ladderTrue", fn := fun _ => fun
  | [d] => { results := [.lit (.bool false)], args := [d] }
  | _ => none }
def LadderTrueWrongFalsely : Prop := ladderTrueRow.holds Tryd.pinned (OpenSpec.ofChange ladderTrueWrong)

/-- 'backfilllaw10.DecayTells': WHATEVER THE INPUT: true; the input reads as it did. -/
def decayTellsSpec : ChangeSpec := { name := "decayTells", fn := fun _ => fun
  | [d1, d2, d3, d4, d5] => { results := [.lit (.bool true)], args := [d1, d2, d3, d4, d5] }
  | _ => none }
def decayTellsRow : OpenClaim := { program := "ytmgmggkebmgafaadoor", sum := "790a2d0504bc8f8f7263c4ea8b35acae801ad6b00863b00c6b473ebffb3f6e5f", func := "backfill/backfilllaw10.DecayTells", spec := "decayTells", inPlace := ["math/bits.Add64"], named := ["backfill/ladder.rungs"], apart := false, laid := [("backfill/ladder.rungs", laid_backfill_ladder_rungs)] }
def DecayTellsSaid : Prop := decayTellsRow.holds Tryd.pinned (OpenSpec.ofChange decayTellsSpec)

/-- ITS FALSE NEIGHBOUR: 'it returns false'. Refute it at one input. -/
def decayTellsWrong : ChangeSpec := { name := "decayTells", fn := fun _ => fun
  | [d1, d2, d3, d4, d5] => { results := [.lit (.bool false)], args := [d1, d2, d3, d4, d5] }
  | _ => none }
def DecayTellsWrongFalsely : Prop := decayTellsRow.holds Tryd.pinned (OpenSpec.ofChange decayTellsWrong)

/-- 'backfilllaw10.DecayFades': WHATEVER THE INPUT: true; the input reads as it did. -/
def decayFadesSpec : ChangeSpec := { name := "decayFades", fn := fun _ => fun
  | [d1, d2, d3] => { results := [.lit (.bool true)], args := [d1, d2, d3] }
  | _ => none }
def decayFadesRow : OpenClaim := { program := "ytmgmggkebmgafaadoor", sum := "790a2d0504bc8f8f7263c4ea8b35acae801ad6b00863b00c6b473ebffb3f6e5f", func := "backfill/backfilllaw10.DecayFades", spec := "decayFades", inPlace := ["math/bits.Add64"], named := ["backfill/ladder.rungs"], apart := false, laid := [("backfill/ladder.rungs", laid_backfill_ladder_rungs)] }
def DecayFadesSaid : Prop := decayFadesRow.holds Tryd.pinned (OpenSpec.ofChange decayFadesSpec)

/-- ITS FALSE NEIGHBOUR: 'it returns false'. Refute it at one input. -/
def decayFadesWrong : ChangeSpec := { name := "decayFades", fn := fun _ => fun
  | [d1, d2, d3] => { results := [.lit (.bool false)], args := [d1, d2, d3] }
  | _ => none }
def DecayFadesWrongFalsely : Prop := decayFadesRow.holds Tryd.pinned (OpenSpec.ofChange decayFadesWrong)

/-- 'backfilllaw10.DecayLaws': WHATEVER THE INPUT: true; the input reads as it did. -/
def decayLawsSpec : ChangeSpec := { name := "decayLaws", fn := fun _ => fun
  | [d1, d2, d3, d4] => { results := [.lit (.bool true)], args := [d1, d2, d3, d4] }
  | _ => none }
def decayLawsRow : OpenClaim := { program := "ytmgmggkebmgafaadoor", sum := "790a2d0504bc8f8f7263c4ea8b35acae801ad6b00863b00c6b473ebffb3f6e5f", func := "backfill/backfilllaw10.DecayLaws", spec := "decayLaws", inPlace := ["math/bits.Add64"], named := ["backfill/ladder.rungs"], apart := false, laid := [("backfill/ladder.rungs", laid_backfill_ladder_rungs)] }
def DecayLawsSaid : Prop := decayLawsRow.holds Tryd.pinned (OpenSpec.ofChange decayLawsSpec)

/-- ITS FALSE NEIGHBOUR: 'it returns false'. Refute it at one input. -/
def decayLawsWrong : ChangeSpec := { name := "decayLaws", fn := fun _ => fun
  | [d1, d2, d3, d4] => { results := [.lit (.bool false)], args := [d1, d2, d3, d4] }
  | _ => none }
def DecayLawsWrongFalsely : Prop := decayLawsRow.holds Tryd.pinned (OpenSpec.ofChange decayLawsWrong)

/-- 'backfilllaw10.DecayBounded': WHATEVER THE INPUT: true; the input reads as it did. -/
def decayBoundedSpec : ChangeSpec := { name := "decayBounded", fn := fun _ => fun
  | [d1, d2, d3, d4] => { results := [.lit (.bool true)], args := [d1, d2, d3, d4] }
  | _ => none }
def decayBoundedRow : OpenClaim := { program := "ytmgmggkebmgafaadoor", sum := "790a2d0504bc8f8f7263c4ea8b35acae801ad6b00863b00c6b473ebffb3f6e5f", func := "backfill/backfilllaw10.DecayBounded", spec := "decayBounded", inPlace := ["math/bits.Add64"], named := ["backfill/ladder.rungs"], apart := false, laid := [("backfill/ladder.rungs", laid_backfill_ladder_rungs)] }
def DecayBoundedSaid : Prop := decayBoundedRow.holds Tryd.pinned (OpenSpec.ofChange decayBoundedSpec)

/-- ITS FALSE NEIGHBOUR: 'it returns false'. Refute it at one input. -/
def decayBoundedWrong : ChangeSpec := { name := "decayBounded", fn := fun _ => fun
  | [d1, d2, d3, d4] => { results := [.lit (.bool false)], args := [d1, d2, d3, d4] }
  | _ => none }
def DecayBoundedWrongFalsely : Prop := decayBoundedRow.holds Tryd.pinned (OpenSpec.ofChange decayBoundedWrong)

/-- 'backfilllaw10.DecayNumbers': WHATEVER THE INPUT: true; the input reads as it did. -/
def decayNumbersSpec : ChangeSpec := { name := "decayNumbers", fn := fun _ => fun
  | [] => { results := [.lit (.bool true)], args := [] }
  | _ => none }
def decayNumbersRow : OpenClaim := { program := "ytmgmggkebmgafaadoor", sum := "790a2d0504bc8f8f7263c4ea8b35acae801ad6b00863b00c6b473ebffb3f6e5f", func := "backfill/backfilllaw10.DecayNumbers", spec := "decayNumbers", inPlace := ["math/bits.Add64"], named := ["backfill/ladder.rungs"], apart := false, laid := [("backfill/ladder.rungs", laid_backfill_ladder_rungs)] }
def DecayNumbersSaid : Prop := decayNumbersRow.holds Tryd.pinned (OpenSpec.ofChange decayNumbersSpec)

/-- ITS FALSE NEIGHBOUR: 'it returns false'. Refute it at one input. -/
def decayNumbersWrong : ChangeSpec := { name := "decayNumbers", fn := fun _ => fun
  | [] => { results := [.lit (.bool false)], args := [] }
  | _ => none }
def DecayNumbersWrongFalsely : Prop := decayNumbersRow.holds Tryd.pinned (OpenSpec.ofChange decayNumbersWrong)

/- THE SECOND FORM. 'bulk': how many values and letters a reading holds, each counted each time it is reached (what is shared counts as often as it is met; a slice's spare places count too). A statement '..UptoSaid' is the law's where the arguments, and the package variables that the reading takes, are together of bulk at most 1048576: NARROWER than '..Said'. Prove '..Said' where nothing that the law and all that it calls make is longer than what came in: it says more and counts as full. Else prove '..UptoSaid'. A law counts once. -/
mutual
def uptoBulk {H : Type} : DataW H → Nat
  | .lit (.string bytes) => bytes.length + 1
  | .lit _ => 1
  | .nil => 1
  | .ptr d => uptoBulk d + 1
  | .slice elems spare => uptoBulkAll elems + uptoBulkAll spare + 1
  | .agg parts => uptoBulkAll parts + 1
  | .iface _ d => uptoBulk d + 1
  | .map entries => uptoBulkEntries entries + 1
  | .held _ => 1
def uptoBulkAll {H : Type} : List (DataW H) → Nat
  | [] => 0
  | d :: r => uptoBulk d + uptoBulkAll r
def uptoBulkEntries {H : Type} : List (Lit × DataW H) → Nat
  | [] => 0
  | x :: r => uptoBulkEntry x + uptoBulkEntries r
def uptoBulkEntry {H : Type} : Lit × DataW H → Nat
  | (.string bytes, d) => bytes.length + uptoBulk d + 1
  | (_, d) => uptoBulk d + 1
 end
def uptoSmall : (H : Type) → List (DataW H) → Bool := fun _ ds => decide (uptoBulkAll ds ≤ 1048576)
def OpenSpec.upto (s : _root_.Go.ChangeSpec) : _root_.Go.OpenSpec := { _root_.Go.OpenSpec.ofChange s with cond := some uptoSmall }

/-- 'backfilllaw07.LadderRungs', WHERE WHAT IT READS IS OF BULK AT MOST 1048576: true; the input reads as it did. -/
def ladderRungsUptoRow : OpenClaim := { program := "ytmgmggkebmgafaadoor", sum := "790a2d0504bc8f8f7263c4ea8b35acae801ad6b00863b00c6b473ebffb3f6e5f", func := "backfill/backfilllaw07.LadderRungs", spec := "ladderRungs", named := ["backfill/ladder.rungs"], apart := false, laid := [("backfill/ladder.rungs", laid_backfill_ladder_rungs)], narrowed := true }
def LadderRungsUptoSaid : Prop := ladderRungsUptoRow.holds Tryd.pinned (OpenSpec.upto ladderRungsSpec)

/-- 'backfilllaw07.LadderTells', WHERE WHAT IT READS IS OF BULK AT MOST 1048576: true; the input reads as it did. -/
def ladderTellsUptoRow : OpenClaim := { program := "ytmgmggkebmgafaadoor", sum := "790a2d0504bc8f8f7263c4ea8b35acae801ad6b00863b00c6b473ebffb3f6e5f", func := "backfill/backfilllaw07.LadderTells", spec := "ladderTells", named := ["backfill/ladder.rungs"], apart := false, laid := [("backfill/ladder.rungs", laid_backfill_ladder_rungs)], narrowed := true }
def LadderTellsUptoSaid : Prop := ladderTellsUptoRow.holds Tryd.pinned (OpenSpec.upto ladderTellsSpec)

/-- 'backfilllaw07.LadderFalls', WHERE WHAT IT READS IS OF BULK AT MOST 1048576: true; the input reads as it did. -/
def ladderFallsUptoRow : OpenClaim := { program := "ytmgmggkebmgafaadoor", sum := "790a2d0504bc8f8f7263c4ea8b35acae801ad6b00863b00c6b473ebffb3f6e5f", func := "backfill/backfilllaw07.LadderFalls", spec := "ladderFalls", named := ["backfill/ladder.rungs"], apart := false, laid := [("backfill/ladder.rungs", laid_backfill_ladder_rungs)], narrowed := true }
def LadderFallsUptoSaid : Prop := ladderFallsUptoRow.holds Tryd.pinned (OpenSpec.upto ladderFallsSpec)

/-- 'backfilllaw07.LadderTrue', WHERE WHAT IT READS IS OF BULK AT MOST 1048576: true; the input reads as it did. -/
def ladderTrueUptoRow : OpenClaim := { program := "ytmgmggkebmgafaadoor", sum := "790a2d0504bc8f8f7263c4ea8b35acae801ad6b00863b00c6b473ebffb3f6e5f", func := "backfill/backfilllaw07.LadderTrue", spec := "ladderTrue", named := ["backfill/ladder.rungs"], apart := false, laid := [("backfill/ladder.rungs", laid_backfill_ladder_rungs)], narrowed := true }
def LadderTrueUptoSaid : Prop := ladderTrueUptoRow.holds Tryd.pinned (OpenSpec.upto ladderTrueSpec)

/-- 'backfilllaw10.DecayTells', WHERE WHAT IT READS IS OF BULK AT MOST 1048576: true; the input reads as it did. -/
def decayTellsUptoRow : OpenClaim := { program := "ytmgmggkebmgafaadoor", sum := "790a2d0504bc8f8f7263c4ea8b35acae801ad6b00863b00c6b473ebffb3f6e5f", func := "backfill/backfilllaw10.DecayTells", spec := "decayTells", inPlace := ["math/bits.Add64"], named := ["backfill/ladder.rungs"], apart := false, laid := [("backfill/ladder.rungs", laid_backfill_ladder_rungs)], narrowed := true }
def DecayTellsUptoSaid : Prop := decayTellsUptoRow.holds Tryd.pinned (OpenSpec.upto decayTellsSpec)

/-- 'backfilllaw10.DecayFades', WHERE WHAT IT READS IS OF BULK AT MOST 1048576: true; the input reads as it did. -/
def decayFadesUptoRow : OpenClaim := { program := "ytmgmggkebmgafaadoor", sum := "790a2d0504bc8f8f7263c4ea8b35acae801ad6b00863b00c6b473ebffb3f6e5f", func := "backfill/backfilllaw10.DecayFades", spec := "decayFades", inPlace := ["math/bits.Add64"], named := ["backfill/ladder.rungs"], apart := false, laid := [("backfill/ladder.rungs", laid_backfill_ladder_rungs)], narrowed := true }
def DecayFadesUptoSaid : Prop := decayFadesUptoRow.holds Tryd.pinned (OpenSpec.upto decayFadesSpec)

/-- 'backfilllaw10.DecayLaws', WHERE WHAT IT READS IS OF BULK AT MOST 1048576: true; the input reads as it did. -/
def decayLawsUptoRow : OpenClaim := { program := "ytmgmggkebmgafaadoor", sum := "790a2d0504bc8f8f7263c4ea8b35acae801ad6b00863b00c6b473ebffb3f6e5f", func := "backfill/backfilllaw10.DecayLaws", spec := "decayLaws", inPlace := ["math/bits.Add64"], named := ["backfill/ladder.rungs"], apart := false, laid := [("backfill/ladder.rungs", laid_backfill_ladder_rungs)], narrowed := true }
def DecayLawsUptoSaid : Prop := decayLawsUptoRow.holds Tryd.pinned (OpenSpec.upto decayLawsSpec)

/-- 'backfilllaw10.DecayBounded', WHERE WHAT IT READS IS OF BULK AT MOST 1048576: true; the input reads as it did. -/
def decayBoundedUptoRow : OpenClaim := { program := "ytmgmggkebmgafaadoor", sum := "790a2d0504bc8f8f7263c4ea8b35acae801ad6b00863b00c6b473ebffb3f6e5f", func := "backfill/backfilllaw10.DecayBounded", spec := "decayBounded", inPlace := ["math/bits.Add64"], named := ["backfill/ladder.rungs"], apart := false, laid := [("backfill/ladder.rungs", laid_backfill_ladder_rungs)], narrowed := true }
def DecayBoundedUptoSaid : Prop := decayBoundedUptoRow.holds Tryd.pinned (OpenSpec.upto decayBoundedSpec)

/-- 'backfilllaw10.DecayNumbers', WHERE WHAT IT READS IS OF BULK AT MOST 1048576: true; the input reads as it did. -/
def decayNumbersUptoRow : OpenClaim := { program := "ytmgmggkebmgafaadoor", sum := "790a2d0504bc8f8f7263c4ea8b35acae801ad6b00863b00c6b473ebffb3f6e5f", func := "backfill/backfilllaw10.DecayNumbers", spec := "decayNumbers", inPlace := ["math/bits.Add64"], named := ["backfill/ladder.rungs"], apart := false, laid := [("backfill/ladder.rungs", laid_backfill_ladder_rungs)], narrowed := true }
def DecayNumbersUptoSaid : Prop := decayNumbersUptoRow.holds Tryd.pinned (OpenSpec.upto decayNumbersSpec)

end Rows
end Go.Proofs.YtmgmggkebmgafaaDoor
