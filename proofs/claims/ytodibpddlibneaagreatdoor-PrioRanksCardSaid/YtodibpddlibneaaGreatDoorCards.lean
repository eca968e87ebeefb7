/-
  DERIVED. GIVEN WITH THE SEED: THE CARDS: each row of YtodibpddlibneaaGreatDoorRows.lean that lists a variable, with what it lists TIED to the program's text (the seventh form; the later family's looks); each row that meets fmt, with fmt's text TOLD by the authors' own Lean function (tested against real Go, not proved from fmt's source: count such statements apart). THE CARD IS WHAT COUNTS. Prove the row's statement (the work); the ties are given (YtodibpddlibneaaGreatDoorTie.lean); close each card by the builder's one call (the guide's Derived/Test/ToyasCard.lean, 'card_holds'). Laid BY PROGRAM, IN A SANDBOX (cutbox-door.mjs). By AI agents, Wed Nov 11 2026. No macro, syntax, notation, axiom, sorry.
-/
import Derived.Test.YtodibpddlibneaaGreatDoorRows
import GoSem.ClaimSeven
namespace Go.Proofs.YtodibpddlibneaaGreatDoor
namespace Rows

/-- THE TIED CARD OF 'backfilllaw14.PrioRanks'. -/
def prioRanksCard : Claim7 := { stood := { row := prioRanksRow, standIns := [], harness := (true, "8c8470bf52190165865e54abc8f778e40067d53953d759ef77399a5563ab9dba"), looks := false }, kinds := [], alts := [], laidByText := true, laidKinds := [.data], laidTests := true, laidLooks := .later }
def PrioRanksCardSaid : Prop := Claim7.holds Tryz.pinned (.plain (OpenSpec.ofChange prioRanksSpec)) prioRanksCard

/-- THE TIED CARD OF 'backfilllaw14.PrioOrder'. -/
def prioOrderCard : Claim7 := { stood := { row := prioOrderRow, standIns := [], harness := (true, "8c8470bf52190165865e54abc8f778e40067d53953d759ef77399a5563ab9dba"), looks := false }, kinds := [], alts := [], laidByText := true, laidKinds := [.data], laidTests := true, laidLooks := .later }
def PrioOrderCardSaid : Prop := Claim7.holds Tryz.pinned (.plain (OpenSpec.ofChange prioOrderSpec)) prioOrderCard

/-- THE SECOND FORM's CARD OF 'backfilllaw14.PrioRanks'. -/
def prioRanksUptoCard : Claim7 := { stood := { row := prioRanksUptoRow, standIns := [], harness := (true, "8c8470bf52190165865e54abc8f778e40067d53953d759ef77399a5563ab9dba"), looks := false }, kinds := [], alts := [], laidByText := true, laidKinds := [.data], laidTests := true, laidLooks := .later }
def PrioRanksUptoCardSaid : Prop := Claim7.holds Tryz.pinned (.plain (OpenSpec.upto prioRanksSpec)) prioRanksUptoCard

/-- THE SECOND FORM's CARD OF 'backfilllaw14.PrioOrder'. -/
def prioOrderUptoCard : Claim7 := { stood := { row := prioOrderUptoRow, standIns := [], harness := (true, "8c8470bf52190165865e54abc8f778e40067d53953d759ef77399a5563ab9dba"), looks := false }, kinds := [], alts := [], laidByText := true, laidKinds := [.data], laidTests := true, laidLooks := .later }
def PrioOrderUptoCardSaid : Prop := Claim7.holds Tryz.pinned (.plain (OpenSpec.upto prioOrderSpec)) prioOrderUptoCard
end Rows
end Go.Proofs.YtodibpddlibneaaGreatDoor
