/-
  DERIVED. GIVEN WITH THE SEED: THE CARDS: each row of YtbhijfbjdbjpbaaGreatDoorRows.lean that lists a variable, with what it lists TIED to the program's text (the seventh form; the later family's looks); each row that meets fmt, with fmt's text TOLD by the authors' own Lean function (tested against real Go, not proved from fmt's source: count such statements apart). THE CARD IS WHAT COUNTS. Prove the row's statement (the work); the ties are given (YtbhijfbjdbjpbaaGreatDoorTie.lean); close each card by the builder's one call (the guide's Derived/Test/ToyasCard.lean, 'card_holds'). Laid BY PROGRAM, IN A SANDBOX (cutbox-door.mjs). By AI agents, Wed Nov 11 2026. No macro, syntax, notation, axiom, sorry.
-/
import Derived.Test.YtbhijfbjdbjpbaaGreatDoorRows
import GoSem.ClaimSeven
namespace Go.Proofs.YtbhijfbjdbjpbaaGreatDoor
namespace Rows

/-- THE TIED CARD OF 'backfilllaw13.ShareTells'. -/
def shareTellsCard : Claim7 := { stood := { row := shareTellsRow, standIns := [], harness := (true, "ea428c284765214ec0b0d09c42e608f51d684e9ea8da8e3763c73867d8bc5bba"), looks := false }, kinds := [], alts := [], laidByText := true, laidKinds := [.data], laidTests := true, laidLooks := .later }
def ShareTellsCardSaid : Prop := Claim7.holds Tryz.pinned (.plain (OpenSpec.ofChange shareTellsSpec)) shareTellsCard

/-- THE SECOND FORM's CARD OF 'backfilllaw13.ShareTells'. -/
def shareTellsUptoCard : Claim7 := { stood := { row := shareTellsUptoRow, standIns := [], harness := (true, "ea428c284765214ec0b0d09c42e608f51d684e9ea8da8e3763c73867d8bc5bba"), looks := false }, kinds := [], alts := [], laidByText := true, laidKinds := [.data], laidTests := true, laidLooks := .later }
def ShareTellsUptoCardSaid : Prop := Claim7.holds Tryz.pinned (.plain (OpenSpec.upto shareTellsSpec)) shareTellsUptoCard
end Rows
end Go.Proofs.YtbhijfbjdbjpbaaGreatDoor
