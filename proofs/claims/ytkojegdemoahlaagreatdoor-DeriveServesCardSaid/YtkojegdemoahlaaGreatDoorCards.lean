/-
  DERIVED. GIVEN WITH THE SEED: THE CARDS: each row of YtkojegdemoahlaaGreatDoorRows.lean that lists a variable, with what it lists TIED to the program's text (the seventh form; the later family's looks); each row that meets fmt, with fmt's text TOLD by the authors' own Lean function (tested against real Go, not proved from fmt's source: count such statements apart). THE CARD IS WHAT COUNTS. Prove the row's statement (the work); the ties are given (YtkojegdemoahlaaGreatDoorTie.lean); close each card by the builder's one call (the guide's Derived/Test/ToyasCard.lean, 'card_holds'). Laid BY PROGRAM, IN A SANDBOX (cutbox-door.mjs). By AI agents, Wed Nov 11 2026. No macro, syntax, notation, axiom, sorry.
-/
import Derived.Test.YtkojegdemoahlaaGreatDoorRows
import GoSem.ClaimSeven
namespace Go.Proofs.YtkojegdemoahlaaGreatDoor
namespace Rows

/-- THE TIED CARD OF 'rollbooklaw22.DeriveServes'. -/
def deriveServesCard : Claim7 := { stood := { row := deriveServesRow, standIns := [], harness := (true, "0ccea55e030e0cab4d4579438c3096f605d630ceb0546784d1c6dc83450825dd"), looks := true }, kinds := [], alts := [], laidByText := true, laidKinds := [.data, .data, .data, .sentinel, .sentinel, .data, .data, .widerDeep], laidTests := true, laidLooks := .later }
def DeriveServesCardSaid : Prop := Claim7.holds Tryz.pinned (.plain (OpenSpec.ofChange deriveServesSpec)) deriveServesCard

/-- THE SECOND FORM's CARD OF 'rollbooklaw22.DeriveServes'. -/
def deriveServesUptoCard : Claim7 := { stood := { row := deriveServesUptoRow, standIns := [], harness := (true, "0ccea55e030e0cab4d4579438c3096f605d630ceb0546784d1c6dc83450825dd"), looks := true }, kinds := [], alts := [], laidByText := true, laidKinds := [.data, .data, .data, .sentinel, .sentinel, .data, .data, .widerDeep], laidTests := true, laidLooks := .later }
def DeriveServesUptoCardSaid : Prop := Claim7.holds Tryz.pinned (.plain (OpenSpec.upto deriveServesSpec)) deriveServesUptoCard
end Rows
end Go.Proofs.YtkojegdemoahlaaGreatDoor
