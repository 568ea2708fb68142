/-
  DERIVED. GIVEN WITH THE SEED: THE CARDS: each row of YtgdicjnjhchooaaGreatDoorRows.lean that lists a variable, with what it lists TIED to the program's text (the seventh form; the later family's looks); each row that meets fmt, with fmt's text TOLD by the authors' own Lean function (tested against real Go, not proved from fmt's source: count such statements apart). THE CARD IS WHAT COUNTS. Prove the row's statement (the work); the ties are given (YtgdicjnjhchooaaGreatDoorTie.lean); close each card by the builder's one call (the guide's Derived/Test/ToyasCard.lean, 'card_holds'). Laid BY PROGRAM, IN A SANDBOX (cutbox-door.mjs). By AI agents, Wed Nov 11 2026. No macro, syntax, notation, axiom, sorry.
-/
import Derived.Test.YtgdicjnjhchooaaGreatDoorRows
import GoSem.ClaimSeven
namespace Go.Proofs.YtgdicjnjhchooaaGreatDoor
namespace Rows

/-- THE TIED CARD OF 'rollbooklaw22.DeriveOnes'. -/
def deriveOnesCard : Claim7 := { stood := { row := deriveOnesRow, standIns := [], harness := (true, "178076f675abb3dfb1a5158cf897bd4fcf377eff095631640523c4fc08130472"), looks := true }, kinds := [], alts := [], laidByText := true, laidKinds := [.data, .data, .data, .sentinel, .sentinel, .data, .data, .widerDeep], laidTests := true, laidLooks := .later }
def DeriveOnesCardSaid : Prop := Claim7.holds Tryz.pinned (.plain (OpenSpec.ofChange deriveOnesSpec)) deriveOnesCard

/-- THE TIED CARD OF 'rollbooklaw22.DeriveDeadlines'. -/
def deriveDeadlinesCard : Claim7 := { stood := { row := deriveDeadlinesRow, standIns := [], harness := (true, "178076f675abb3dfb1a5158cf897bd4fcf377eff095631640523c4fc08130472"), looks := true }, kinds := [], alts := [], laidByText := true, laidKinds := [.data, .data, .data, .sentinel, .sentinel, .data, .data, .widerDeep], laidTests := true, laidLooks := .later }
def DeriveDeadlinesCardSaid : Prop := Claim7.holds Tryz.pinned (.plain (OpenSpec.ofChange deriveDeadlinesSpec)) deriveDeadlinesCard

/-- THE SECOND FORM's CARD OF 'rollbooklaw22.DeriveOnes'. -/
def deriveOnesUptoCard : Claim7 := { stood := { row := deriveOnesUptoRow, standIns := [], harness := (true, "178076f675abb3dfb1a5158cf897bd4fcf377eff095631640523c4fc08130472"), looks := true }, kinds := [], alts := [], laidByText := true, laidKinds := [.data, .data, .data, .sentinel, .sentinel, .data, .data, .widerDeep], laidTests := true, laidLooks := .later }
def DeriveOnesUptoCardSaid : Prop := Claim7.holds Tryz.pinned (.plain (OpenSpec.upto deriveOnesSpec)) deriveOnesUptoCard

/-- THE SECOND FORM's CARD OF 'rollbooklaw22.DeriveDeadlines'. -/
def deriveDeadlinesUptoCard : Claim7 := { stood := { row := deriveDeadlinesUptoRow, standIns := [], harness := (true, "178076f675abb3dfb1a5158cf897bd4fcf377eff095631640523c4fc08130472"), looks := true }, kinds := [], alts := [], laidByText := true, laidKinds := [.data, .data, .data, .sentinel, .sentinel, .data, .data, .widerDeep], laidTests := true, laidLooks := .later }
def DeriveDeadlinesUptoCardSaid : Prop := Claim7.holds Tryz.pinned (.plain (OpenSpec.upto deriveDeadlinesSpec)) deriveDeadlinesUptoCard
end Rows
end Go.Proofs.YtgdicjnjhchooaaGreatDoor
