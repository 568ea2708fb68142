/-
  DERIVED. GIVEN WITH THE SEED: THE CARDS: each row of YteibicnbkggiiaaGreatDoorRows.lean that lists a variable, with what it lists TIED to the program's text (the seventh form; the later family's looks); each row that meets fmt, with fmt's text TOLD by the authors' own Lean function (tested against real Go, not proved from fmt's source: count such statements apart). THE CARD IS WHAT COUNTS. Prove the row's statement (the work); the ties are given (YteibicnbkggiiaaGreatDoorTie.lean); close each card by the builder's one call (the guide's Derived/Test/ToyasCard.lean, 'card_holds'). Laid BY PROGRAM, IN A SANDBOX (cutbox-door.mjs). By AI agents, Wed Nov 11 2026. No macro, syntax, notation, axiom, sorry.
-/
import Derived.Test.YteibicnbkggiiaaGreatDoorRows
import GoSem.ClaimSeven
namespace Go.Proofs.YteibicnbkggiiaaGreatDoor
namespace Rows

/-- THE TIED CARD OF 'rollbooklaw22.DeriveChecks'. -/
def deriveChecksCard : Claim7 := { stood := { row := deriveChecksRow, standIns := [], harness := (true, "15f80ec6773e01e4cede916b332fa9d2eeb97356a942cee345259d4efc2be8e2"), looks := true }, kinds := [], alts := [], laidByText := true, laidKinds := [.data, .data, .data, .sentinel, .sentinel, .data, .data, .widerDeep], laidTests := true, laidLooks := .later }
def DeriveChecksCardSaid : Prop := Claim7.holds Tryz.pinned (.plain (OpenSpec.ofChange deriveChecksSpec)) deriveChecksCard

/-- THE TIED CARD OF 'rollbooklaw22.DeriveVersions'. -/
def deriveVersionsCard : Claim7 := { stood := { row := deriveVersionsRow, standIns := [], harness := (true, "15f80ec6773e01e4cede916b332fa9d2eeb97356a942cee345259d4efc2be8e2"), looks := true }, kinds := [], alts := [], laidByText := true, laidKinds := [.data, .data, .data, .sentinel, .sentinel, .data, .data, .widerDeep], laidTests := true, laidLooks := .later }
def DeriveVersionsCardSaid : Prop := Claim7.holds Tryz.pinned (.plain (OpenSpec.ofChange deriveVersionsSpec)) deriveVersionsCard

/-- THE SECOND FORM's CARD OF 'rollbooklaw22.DeriveChecks'. -/
def deriveChecksUptoCard : Claim7 := { stood := { row := deriveChecksUptoRow, standIns := [], harness := (true, "15f80ec6773e01e4cede916b332fa9d2eeb97356a942cee345259d4efc2be8e2"), looks := true }, kinds := [], alts := [], laidByText := true, laidKinds := [.data, .data, .data, .sentinel, .sentinel, .data, .data, .widerDeep], laidTests := true, laidLooks := .later }
def DeriveChecksUptoCardSaid : Prop := Claim7.holds Tryz.pinned (.plain (OpenSpec.upto deriveChecksSpec)) deriveChecksUptoCard

/-- THE SECOND FORM's CARD OF 'rollbooklaw22.DeriveVersions'. -/
def deriveVersionsUptoCard : Claim7 := { stood := { row := deriveVersionsUptoRow, standIns := [], harness := (true, "15f80ec6773e01e4cede916b332fa9d2eeb97356a942cee345259d4efc2be8e2"), looks := true }, kinds := [], alts := [], laidByText := true, laidKinds := [.data, .data, .data, .sentinel, .sentinel, .data, .data, .widerDeep], laidTests := true, laidLooks := .later }
def DeriveVersionsUptoCardSaid : Prop := Claim7.holds Tryz.pinned (.plain (OpenSpec.upto deriveVersionsSpec)) deriveVersionsUptoCard
end Rows
end Go.Proofs.YteibicnbkggiiaaGreatDoor
