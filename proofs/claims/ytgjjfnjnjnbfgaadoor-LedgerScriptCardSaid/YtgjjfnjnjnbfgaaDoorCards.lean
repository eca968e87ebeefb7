/-
  DERIVED. GIVEN WITH THE SEED: THE CARDS: each row of YtgjjfnjnjnbfgaaDoorRows.lean that lists a variable, with what it lists TIED to the program's text (the seventh form; the later family's looks); each row that meets fmt, with fmt's text TOLD by the authors' own Lean function (tested against real Go, not proved from fmt's source: count such statements apart). THE CARD IS WHAT COUNTS. Prove the row's statement (the work); the ties are given (YtgjjfnjnjnbfgaaDoorTie.lean); close each card by the builder's one call (the guide's Derived/Test/ToyasCard.lean, 'card_holds'). Laid BY PROGRAM, IN A SANDBOX (cutbox-door.mjs). By AI agents, Wed Nov 11 2026. No macro, syntax, notation, axiom, sorry.
-/
import Derived.Test.YtgjjfnjnjnbfgaaDoorRows
import GoSem.ClaimSeven
namespace Go.Proofs.YtgjjfnjnjnbfgaaDoor
namespace Rows

/-- THE TIED CARD OF 'backfilllaw12.LedgerScript'. -/
def ledgerScriptCard : Claim7 := { stood := { row := ledgerScriptRow, standIns := [], harness := (true, "3675bbc4567e0599982dad3b6705d6e88f8db9f03a90f5361c52000bc907e081"), looks := false }, kinds := [], alts := [], laidByText := true, laidKinds := [.data], laidTests := true, laidLooks := .later }
def LedgerScriptCardSaid : Prop := Claim7.holds Tryd.pinned (.plain (OpenSpec.ofChange ledgerScriptSpec)) ledgerScriptCard

/-- THE TIED CARD OF 'backfilllaw12.LedgerLess'. -/
def ledgerLessCard : Claim7 := { stood := { row := ledgerLessRow, standIns := [], harness := (true, "3675bbc4567e0599982dad3b6705d6e88f8db9f03a90f5361c52000bc907e081"), looks := false }, kinds := [], alts := [], laidByText := true, laidKinds := [.data], laidTests := true, laidLooks := .later }
def LedgerLessCardSaid : Prop := Claim7.holds Tryd.pinned (.plain (OpenSpec.ofChange ledgerLessSpec)) ledgerLessCard

/-- THE TIED CARD OF 'backfilllaw12.LedgerApart'. -/
def ledgerApartCard : Claim7 := { stood := { row := ledgerApartRow, standIns := [], harness := (true, "3675bbc4567e0599982dad3b6705d6e88f8db9f03a90f5361c52000bc907e081"), looks := false }, kinds := [], alts := [], laidByText := true, laidKinds := [.data], laidTests := true, laidLooks := .later }
def LedgerApartCardSaid : Prop := Claim7.holds Tryd.pinned (.plain (OpenSpec.ofChange ledgerApartSpec)) ledgerApartCard

/-- THE TIED CARD OF 'backfilllaw12.LedgerRaw'. -/
def ledgerRawCard : Claim7 := { stood := { row := ledgerRawRow, standIns := [], harness := (true, "3675bbc4567e0599982dad3b6705d6e88f8db9f03a90f5361c52000bc907e081"), looks := false }, kinds := [], alts := [], laidByText := true, laidKinds := [.data], laidTests := true, laidLooks := .later }
def LedgerRawCardSaid : Prop := Claim7.holds Tryd.pinned (.plain (OpenSpec.ofChange ledgerRawSpec)) ledgerRawCard

/-- THE TIED CARD OF 'backfilllaw12.LedgerAdds'. -/
def ledgerAddsCard : Claim7 := { stood := { row := ledgerAddsRow, standIns := [], harness := (true, "3675bbc4567e0599982dad3b6705d6e88f8db9f03a90f5361c52000bc907e081"), looks := false }, kinds := [], alts := [], laidByText := true, laidKinds := [.data], laidTests := true, laidLooks := .later }
def LedgerAddsCardSaid : Prop := Claim7.holds Tryd.pinned (.plain (OpenSpec.ofChange ledgerAddsSpec)) ledgerAddsCard

/-- THE SECOND FORM's CARD OF 'backfilllaw12.LedgerScript'. -/
def ledgerScriptUptoCard : Claim7 := { stood := { row := ledgerScriptUptoRow, standIns := [], harness := (true, "3675bbc4567e0599982dad3b6705d6e88f8db9f03a90f5361c52000bc907e081"), looks := false }, kinds := [], alts := [], laidByText := true, laidKinds := [.data], laidTests := true, laidLooks := .later }
def LedgerScriptUptoCardSaid : Prop := Claim7.holds Tryd.pinned (.plain (OpenSpec.upto ledgerScriptSpec)) ledgerScriptUptoCard

/-- THE SECOND FORM's CARD OF 'backfilllaw12.LedgerLess'. -/
def ledgerLessUptoCard : Claim7 := { stood := { row := ledgerLessUptoRow, standIns := [], harness := (true, "3675bbc4567e0599982dad3b6705d6e88f8db9f03a90f5361c52000bc907e081"), looks := false }, kinds := [], alts := [], laidByText := true, laidKinds := [.data], laidTests := true, laidLooks := .later }
def LedgerLessUptoCardSaid : Prop := Claim7.holds Tryd.pinned (.plain (OpenSpec.upto ledgerLessSpec)) ledgerLessUptoCard

/-- THE SECOND FORM's CARD OF 'backfilllaw12.LedgerApart'. -/
def ledgerApartUptoCard : Claim7 := { stood := { row := ledgerApartUptoRow, standIns := [], harness := (true, "3675bbc4567e0599982dad3b6705d6e88f8db9f03a90f5361c52000bc907e081"), looks := false }, kinds := [], alts := [], laidByText := true, laidKinds := [.data], laidTests := true, laidLooks := .later }
def LedgerApartUptoCardSaid : Prop := Claim7.holds Tryd.pinned (.plain (OpenSpec.upto ledgerApartSpec)) ledgerApartUptoCard

/-- THE SECOND FORM's CARD OF 'backfilllaw12.LedgerRaw'. -/
def ledgerRawUptoCard : Claim7 := { stood := { row := ledgerRawUptoRow, standIns := [], harness := (true, "3675bbc4567e0599982dad3b6705d6e88f8db9f03a90f5361c52000bc907e081"), looks := false }, kinds := [], alts := [], laidByText := true, laidKinds := [.data], laidTests := true, laidLooks := .later }
def LedgerRawUptoCardSaid : Prop := Claim7.holds Tryd.pinned (.plain (OpenSpec.upto ledgerRawSpec)) ledgerRawUptoCard

/-- THE SECOND FORM's CARD OF 'backfilllaw12.LedgerAdds'. -/
def ledgerAddsUptoCard : Claim7 := { stood := { row := ledgerAddsUptoRow, standIns := [], harness := (true, "3675bbc4567e0599982dad3b6705d6e88f8db9f03a90f5361c52000bc907e081"), looks := false }, kinds := [], alts := [], laidByText := true, laidKinds := [.data], laidTests := true, laidLooks := .later }
def LedgerAddsUptoCardSaid : Prop := Claim7.holds Tryd.pinned (.plain (OpenSpec.upto ledgerAddsSpec)) ledgerAddsUptoCard
end Rows
end Go.Proofs.YtgjjfnjnjnbfgaaDoor
