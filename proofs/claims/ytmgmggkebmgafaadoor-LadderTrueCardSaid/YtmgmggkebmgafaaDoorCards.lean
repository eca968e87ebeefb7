/-
  DERIVED. GIVEN WITH THE SEED: THE CARDS: each row of YtmgmggkebmgafaaDoorRows.lean that lists a variable, with what it lists TIED to the program's text (the seventh form; the later family's looks); each row that meets fmt, with fmt's text TOLD by the authors' own Lean function (tested against real Go, not proved from fmt's source: count such statements apart). THE CARD IS WHAT COUNTS. Prove the row's statement (the work); the ties are given (YtmgmggkebmgafaaDoorTie.lean); close each card by the builder's one call (the guide's Derived/Test/ToyasCard.lean, 'card_holds'). Laid BY PROGRAM, IN A SANDBOX (cutbox-door.mjs). By AI agents, Wed Nov 11 2026. No macro, syntax, notation, axiom, sorry.
-/
import Derived.Test.YtmgmggkebmgafaaDoorRows
import GoSem.ClaimSeven
namespace Go.Proofs.YtmgmggkebmgafaaDoor
namespace Rows

/-- THE TIED CARD OF 'backfilllaw07.LadderRungs'. -/
def ladderRungsCard : Claim7 := { stood := { row := ladderRungsRow, standIns := [], harness := (true, "6c31d28f1344d515c2c3af687d05d18c5851bbeae62e59e0fe1af245ac63732a"), looks := false }, kinds := [], alts := [], laidByText := true, laidKinds := [.data], laidTests := true, laidLooks := .later }
def LadderRungsCardSaid : Prop := Claim7.holds Tryd.pinned (.plain (OpenSpec.ofChange ladderRungsSpec)) ladderRungsCard

/-- THE TIED CARD OF 'backfilllaw07.LadderTells'. -/
def ladderTellsCard : Claim7 := { stood := { row := ladderTellsRow, standIns := [], harness := (true, "6c31d28f1344d515c2c3af687d05d18c5851bbeae62e59e0fe1af245ac63732a"), looks := false }, kinds := [], alts := [], laidByText := true, laidKinds := [.data], laidTests := true, laidLooks := .later }
def LadderTellsCardSaid : Prop := Claim7.holds Tryd.pinned (.plain (OpenSpec.ofChange ladderTellsSpec)) ladderTellsCard

/-- THE TIED CARD OF 'backfilllaw07.LadderFalls'. -/
def ladderFallsCard : Claim7 := { stood := { row := ladderFallsRow, standIns := [], harness := (true, "6c31d28f1344d515c2c3af687d05d18c5851bbeae62e59e0fe1af245ac63732a"), looks := false }, kinds := [], alts := [], laidByText := true, laidKinds := [.data], laidTests := true, laidLooks := .later }
def LadderFallsCardSaid : Prop := Claim7.holds Tryd.pinned (.plain (OpenSpec.ofChange ladderFallsSpec)) ladderFallsCard

/-- THE TIED CARD OF 'backfilllaw07.LadderTrue'. -/
def ladderTrueCard : Claim7 := { stood := { row := ladderTrueRow, standIns := [], harness := (true, "6c31d28f1344d515c2c3af687d05d18c5851bbeae62e59e0fe1af245ac63732a"), looks := false }, kinds := [], alts := [], laidByText := true, laidKinds := [.data], laidTests := true, laidLooks := .later }
def LadderTrueCardSaid : Prop := Claim7.holds Tryd.pinned (.plain (OpenSpec.ofChange ladderTrueSpec)) ladderTrueCard

/-- THE TIED CARD OF 'backfilllaw10.DecayTells'. -/
def decayTellsCard : Claim7 := { stood := { row := decayTellsRow, standIns := [], harness := (true, "6c31d28f1344d515c2c3af687d05d18c5851bbeae62e59e0fe1af245ac63732a"), looks := false }, kinds := [], alts := [], laidByText := true, laidKinds := [.data], laidTests := true, laidLooks := .later }
def DecayTellsCardSaid : Prop := Claim7.holds Tryd.pinned (.plain (OpenSpec.ofChange decayTellsSpec)) decayTellsCard

/-- THE TIED CARD OF 'backfilllaw10.DecayFades'. -/
def decayFadesCard : Claim7 := { stood := { row := decayFadesRow, standIns := [], harness := (true, "6c31d28f1344d515c2c3af687d05d18c5851bbeae62e59e0fe1af245ac63732a"), looks := false }, kinds := [], alts := [], laidByText := true, laidKinds := [.data], laidTests := true, laidLooks := .later }
def DecayFadesCardSaid : Prop := Claim7.holds Tryd.pinned (.plain (OpenSpec.ofChange decayFadesSpec)) decayFadesCard

/-- THE TIED CARD OF 'backfilllaw10.DecayLaws'. -/
def decayLawsCard : Claim7 := { stood := { row := decayLawsRow, standIns := [], harness := (true, "6c31d28f1344d515c2c3af687d05d18c5851bbeae62e59e0fe1af245ac63732a"), looks := false }, kinds := [], alts := [], laidByText := true, laidKinds := [.data], laidTests := true, laidLooks := .later }
def DecayLawsCardSaid : Prop := Claim7.holds Tryd.pinned (.plain (OpenSpec.ofChange decayLawsSpec)) decayLawsCard

/-- THE TIED CARD OF 'backfilllaw10.DecayBounded'. -/
def decayBoundedCard : Claim7 := { stood := { row := decayBoundedRow, standIns := [], harness := (true, "6c31d28f1344d515c2c3af687d05d18c5851bbeae62e59e0fe1af245ac63732a"), looks := false }, kinds := [], alts := [], laidByText := true, laidKinds := [.data], laidTests := true, laidLooks := .later }
def DecayBoundedCardSaid : Prop := Claim7.holds Tryd.pinned (.plain (OpenSpec.ofChange decayBoundedSpec)) decayBoundedCard

/-- THE TIED CARD OF 'backfilllaw10.DecayNumbers'. -/
def decayNumbersCard : Claim7 := { stood := { row := decayNumbersRow, standIns := [], harness := (true, "6c31d28f1344d515c2c3af687d05d18c5851bbeae62e59e0fe1af245ac63732a"), looks := false }, kinds := [], alts := [], laidByText := true, laidKinds := [.data], laidTests := true, laidLooks := .later }
def DecayNumbersCardSaid : Prop := Claim7.holds Tryd.pinned (.plain (OpenSpec.ofChange decayNumbersSpec)) decayNumbersCard

/-- THE SECOND FORM's CARD OF 'backfilllaw07.LadderRungs'. -/
def ladderRungsUptoCard : Claim7 := { stood := { row := ladderRungsUptoRow, standIns := [], harness := (true, "6c31d28f1344d515c2c3af687d05d18c5851bbeae62e59e0fe1af245ac63732a"), looks := false }, kinds := [], alts := [], laidByText := true, laidKinds := [.data], laidTests := true, laidLooks := .later }
def LadderRungsUptoCardSaid : Prop := Claim7.holds Tryd.pinned (.plain (OpenSpec.upto ladderRungsSpec)) ladderRungsUptoCard

/-- THE SECOND FORM's CARD OF 'backfilllaw07.LadderTells'. -/
def ladderTellsUptoCard : Claim7 := { stood := { row := ladderTellsUptoRow, standIns := [], harness := (true, "6c31d28f1344d515c2c3af687d05d18c5851bbeae62e59e0fe1af245ac63732a"), looks := false }, kinds := [], alts := [], laidByText := true, laidKinds := [.data], laidTests := true, laidLooks := .later }
def LadderTellsUptoCardSaid : Prop := Claim7.holds Tryd.pinned (.plain (OpenSpec.upto ladderTellsSpec)) ladderTellsUptoCard

/-- THE SECOND FORM's CARD OF 'backfilllaw07.LadderFalls'. -/
def ladderFallsUptoCard : Claim7 := { stood := { row := ladderFallsUptoRow, standIns := [], harness := (true, "6c31d28f1344d515c2c3af687d05d18c5851bbeae62e59e0fe1af245ac63732a"), looks := false }, kinds := [], alts := [], laidByText := true, laidKinds := [.data], laidTests := true, laidLooks := .later }
def LadderFallsUptoCardSaid : Prop := Claim7.holds Tryd.pinned (.plain (OpenSpec.upto ladderFallsSpec)) ladderFallsUptoCard

/-- THE SECOND FORM's CARD OF 'backfilllaw07.LadderTrue'. -/
def ladderTrueUptoCard : Claim7 := { stood := { row := ladderTrueUptoRow, standIns := [], harness := (true, "6c31d28f1344d515c2c3af687d05d18c5851bbeae62e59e0fe1af245ac63732a"), looks := false }, kinds := [], alts := [], laidByText := true, laidKinds := [.data], laidTests := true, laidLooks := .later }
def LadderTrueUptoCardSaid : Prop := Claim7.holds Tryd.pinned (.plain (OpenSpec.upto ladderTrueSpec)) ladderTrueUptoCard

/-- THE SECOND FORM's CARD OF 'backfilllaw10.DecayTells'. -/
def decayTellsUptoCard : Claim7 := { stood := { row := decayTellsUptoRow, standIns := [], harness := (true, "6c31d28f1344d515c2c3af687d05d18c5851bbeae62e59e0fe1af245ac63732a"), looks := false }, kinds := [], alts := [], laidByText := true, laidKinds := [.data], laidTests := true, laidLooks := .later }
def DecayTellsUptoCardSaid : Prop := Claim7.holds Tryd.pinned (.plain (OpenSpec.upto decayTellsSpec)) decayTellsUptoCard

/-- THE SECOND FORM's CARD OF 'backfilllaw10.DecayFades'. -/
def decayFadesUptoCard : Claim7 := { stood := { row := decayFadesUptoRow, standIns := [], harness := (true, "6c31d28f1344d515c2c3af687d05d18c5851bbeae62e59e0fe1af245ac63732a"), looks := false }, kinds := [], alts := [], laidByText := true, laidKinds := [.data], laidTests := true, laidLooks := .later }
def DecayFadesUptoCardSaid : Prop := Claim7.holds Tryd.pinned (.plain (OpenSpec.upto decayFadesSpec)) decayFadesUptoCard

/-- THE SECOND FORM's CARD OF 'backfilllaw10.DecayLaws'. -/
def decayLawsUptoCard : Claim7 := { stood := { row := decayLawsUptoRow, standIns := [], harness := (true, "6c31d28f1344d515c2c3af687d05d18c5851bbeae62e59e0fe1af245ac63732a"), looks := false }, kinds := [], alts := [], laidByText := true, laidKinds := [.data], laidTests := true, laidLooks := .later }
def DecayLawsUptoCardSaid : Prop := Claim7.holds Tryd.pinned (.plain (OpenSpec.upto decayLawsSpec)) decayLawsUptoCard

/-- THE SECOND FORM's CARD OF 'backfilllaw10.DecayBounded'. -/
def decayBoundedUptoCard : Claim7 := { stood := { row := decayBoundedUptoRow, standIns := [], harness := (true, "6c31d28f1344d515c2c3af687d05d18c5851bbeae62e59e0fe1af245ac63732a"), looks := false }, kinds := [], alts := [], laidByText := true, laidKinds := [.data], laidTests := true, laidLooks := .later }
def DecayBoundedUptoCardSaid : Prop := Claim7.holds Tryd.pinned (.plain (OpenSpec.upto decayBoundedSpec)) decayBoundedUptoCard

/-- THE SECOND FORM's CARD OF 'backfilllaw10.DecayNumbers'. -/
def decayNumbersUptoCard : Claim7 := { stood := { row := decayNumbersUptoRow, standIns := [], harness := (true, "6c31d28f1344d515c2c3af687d05d18c5851bbeae62e59e0fe1af245ac63732a"), looks := false }, kinds := [], alts := [], laidByText := true, laidKinds := [.data], laidTests := true, laidLooks := .later }
def DecayNumbersUptoCardSaid : Prop := Claim7.holds Tryd.pinned (.plain (OpenSpec.upto decayNumbersSpec)) decayNumbersUptoCard
end Rows
end Go.Proofs.YtmgmggkebmgafaaDoor
