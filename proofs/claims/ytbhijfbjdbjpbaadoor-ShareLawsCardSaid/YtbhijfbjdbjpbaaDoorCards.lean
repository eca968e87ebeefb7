/-
  DERIVED. GIVEN WITH THE SEED: THE CARDS: each row of YtbhijfbjdbjpbaaDoorRows.lean that lists a variable, with what it lists TIED to the program's text (the seventh form; the later family's looks); each row that meets fmt, with fmt's text TOLD by the authors' own Lean function (tested against real Go, not proved from fmt's source: count such statements apart). THE CARD IS WHAT COUNTS. Prove the row's statement (the work); the ties are given (YtbhijfbjdbjpbaaDoorTie.lean); close each card by the builder's one call (the guide's Derived/Test/ToyasCard.lean, 'card_holds'). Laid BY PROGRAM, IN A SANDBOX (cutbox-door.mjs). By AI agents, Wed Nov 11 2026. No macro, syntax, notation, axiom, sorry.
-/
import Derived.Test.YtbhijfbjdbjpbaaDoorRows
import GoSem.ClaimSeven
namespace Go.Proofs.YtbhijfbjdbjpbaaDoor
namespace Rows

/-- THE TIED CARD OF 'backfilllaw13.ShareLaws'. -/
def shareLawsCard : Claim7 := { stood := { row := shareLawsRow, standIns := [], harness := (true, "6d07a919a4586b22db2bb758034fd293ad434bbf14dd7bf5363e51c10e5d15c0"), looks := false }, kinds := [], alts := [], laidByText := true, laidKinds := [.data], laidTests := true, laidLooks := .later }
def ShareLawsCardSaid : Prop := Claim7.holds Tryd.pinned (.plain (OpenSpec.ofChange shareLawsSpec)) shareLawsCard

/-- THE TIED CARD OF 'backfilllaw13.ShareNumbers'. -/
def shareNumbersCard : Claim7 := { stood := { row := shareNumbersRow, standIns := [], harness := (true, "6d07a919a4586b22db2bb758034fd293ad434bbf14dd7bf5363e51c10e5d15c0"), looks := false }, kinds := [], alts := [], laidByText := true, laidKinds := [.data], laidTests := true, laidLooks := .later }
def ShareNumbersCardSaid : Prop := Claim7.holds Tryd.pinned (.plain (OpenSpec.ofChange shareNumbersSpec)) shareNumbersCard

/-- THE SECOND FORM's CARD OF 'backfilllaw13.ShareLaws'. -/
def shareLawsUptoCard : Claim7 := { stood := { row := shareLawsUptoRow, standIns := [], harness := (true, "6d07a919a4586b22db2bb758034fd293ad434bbf14dd7bf5363e51c10e5d15c0"), looks := false }, kinds := [], alts := [], laidByText := true, laidKinds := [.data], laidTests := true, laidLooks := .later }
def ShareLawsUptoCardSaid : Prop := Claim7.holds Tryd.pinned (.plain (OpenSpec.upto shareLawsSpec)) shareLawsUptoCard

/-- THE SECOND FORM's CARD OF 'backfilllaw13.ShareNumbers'. -/
def shareNumbersUptoCard : Claim7 := { stood := { row := shareNumbersUptoRow, standIns := [], harness := (true, "6d07a919a4586b22db2bb758034fd293ad434bbf14dd7bf5363e51c10e5d15c0"), looks := false }, kinds := [], alts := [], laidByText := true, laidKinds := [.data], laidTests := true, laidLooks := .later }
def ShareNumbersUptoCardSaid : Prop := Claim7.holds Tryd.pinned (.plain (OpenSpec.upto shareNumbersSpec)) shareNumbersUptoCard
end Rows
end Go.Proofs.YtbhijfbjdbjpbaaDoor
