/-
  DERIVED. GIVEN WITH THE SEED: THE CARDS: each row of YtipfkbkkndacjaaGreatDoorRows.lean that lists a variable, with what it lists TIED to the program's text (the seventh form; the later family's looks); each row that meets fmt, with fmt's text TOLD by the authors' own Lean function (tested against real Go, not proved from fmt's source: count such statements apart). THE CARD IS WHAT COUNTS. Prove the row's statement (the work); the ties are given (YtipfkbkkndacjaaGreatDoorTie.lean); close each card by the builder's one call (the guide's Derived/Test/ToyasCard.lean, 'card_holds'). Laid BY PROGRAM, IN A SANDBOX (cutbox-door.mjs). By AI agents, Wed Nov 11 2026. No macro, syntax, notation, axiom, sorry.
-/
import Derived.Test.YtipfkbkkndacjaaGreatDoorRows
import GoSem.ClaimSeven
namespace Go.Proofs.YtipfkbkkndacjaaGreatDoor
namespace Rows

/-- THE TIED CARD OF 'rollbooklaw22.DeriveApplies'. -/
def deriveAppliesCard : Claim7 := { stood := { row := deriveAppliesRow, standIns := [], harness := (true, "baffee899de4cb062999e4382add8fbc52677b13de13219bc0b6deee2f1817db"), looks := true }, kinds := [], alts := [], laidByText := true, laidKinds := [.data, .data, .data, .sentinel, .sentinel, .data, .data, .widerDeep], laidTests := true, laidLooks := .later }
def DeriveAppliesCardSaid : Prop := Claim7.holds Tryz.pinned (.plain (OpenSpec.ofChange deriveAppliesSpec)) deriveAppliesCard

/-- THE TIED CARD OF 'rollbooklaw22.DeriveOrder'. -/
def deriveOrderCard : Claim7 := { stood := { row := deriveOrderRow, standIns := [], harness := (true, "baffee899de4cb062999e4382add8fbc52677b13de13219bc0b6deee2f1817db"), looks := true }, kinds := [], alts := [], laidByText := true, laidKinds := [.data, .data, .data, .sentinel, .sentinel, .data, .data, .widerDeep], laidTests := true, laidLooks := .later }
def DeriveOrderCardSaid : Prop := Claim7.holds Tryz.pinned (.plain (OpenSpec.ofChange deriveOrderSpec)) deriveOrderCard

/-- THE TIED CARD OF 'rollbooklaw22.DeriveRoots'. -/
def deriveRootsCard : Claim7 := { stood := { row := deriveRootsRow, standIns := [], harness := (true, "baffee899de4cb062999e4382add8fbc52677b13de13219bc0b6deee2f1817db"), looks := true }, kinds := [], alts := [], laidByText := true, laidKinds := [.data, .data, .data, .sentinel, .sentinel, .data, .data, .widerDeep], laidTests := true, laidLooks := .later }
def DeriveRootsCardSaid : Prop := Claim7.holds Tryz.pinned (.plain (OpenSpec.ofChange deriveRootsSpec)) deriveRootsCard

/-- THE TIED CARD OF 'rollbooklaw22.DeriveDefaults'. -/
def deriveDefaultsCard : Claim7 := { stood := { row := deriveDefaultsRow, standIns := [], harness := (true, "baffee899de4cb062999e4382add8fbc52677b13de13219bc0b6deee2f1817db"), looks := true }, kinds := [], alts := [], laidByText := true, laidKinds := [.data, .data, .data, .sentinel, .sentinel, .data, .data, .widerDeep], laidTests := true, laidLooks := .later }
def DeriveDefaultsCardSaid : Prop := Claim7.holds Tryz.pinned (.plain (OpenSpec.ofChange deriveDefaultsSpec)) deriveDefaultsCard

/-- THE TIED CARD OF 'rollbooklaw22.DeriveAnswers'. -/
def deriveAnswersCard : Claim7 := { stood := { row := deriveAnswersRow, standIns := [], harness := (true, "baffee899de4cb062999e4382add8fbc52677b13de13219bc0b6deee2f1817db"), looks := true }, kinds := [], alts := [], laidByText := true, laidKinds := [.data, .data, .data, .sentinel, .sentinel, .data, .data, .widerDeep], laidTests := true, laidLooks := .later }
def DeriveAnswersCardSaid : Prop := Claim7.holds Tryz.pinned (.plain (OpenSpec.ofChange deriveAnswersSpec)) deriveAnswersCard

/-- THE TIED CARD OF 'rollbooklaw22.DeriveReasons'. -/
def deriveReasonsCard : Claim7 := { stood := { row := deriveReasonsRow, standIns := [], harness := (true, "baffee899de4cb062999e4382add8fbc52677b13de13219bc0b6deee2f1817db"), looks := true }, kinds := [], alts := [], laidByText := true, laidKinds := [.data, .data, .data, .sentinel, .sentinel, .data, .data, .widerDeep], laidTests := true, laidLooks := .later }
def DeriveReasonsCardSaid : Prop := Claim7.holds Tryz.pinned (.plain (OpenSpec.ofChange deriveReasonsSpec)) deriveReasonsCard

/-- THE TIED CARD OF 'rollbooklaw22.DeriveTexts'. -/
def deriveTextsCard : Claim7 := { stood := { row := deriveTextsRow, standIns := [], harness := (true, "baffee899de4cb062999e4382add8fbc52677b13de13219bc0b6deee2f1817db"), looks := true }, kinds := [], alts := [], laidByText := true, laidKinds := [.data, .data, .data, .sentinel, .sentinel, .data, .data, .widerDeep], laidTests := true, laidLooks := .later }
def DeriveTextsCardSaid : Prop := Claim7.holds Tryz.pinned (.plain (OpenSpec.ofChange deriveTextsSpec)) deriveTextsCard

/-- THE SECOND FORM's CARD OF 'rollbooklaw22.DeriveApplies'. -/
def deriveAppliesUptoCard : Claim7 := { stood := { row := deriveAppliesUptoRow, standIns := [], harness := (true, "baffee899de4cb062999e4382add8fbc52677b13de13219bc0b6deee2f1817db"), looks := true }, kinds := [], alts := [], laidByText := true, laidKinds := [.data, .data, .data, .sentinel, .sentinel, .data, .data, .widerDeep], laidTests := true, laidLooks := .later }
def DeriveAppliesUptoCardSaid : Prop := Claim7.holds Tryz.pinned (.plain (OpenSpec.upto deriveAppliesSpec)) deriveAppliesUptoCard

/-- THE SECOND FORM's CARD OF 'rollbooklaw22.DeriveOrder'. -/
def deriveOrderUptoCard : Claim7 := { stood := { row := deriveOrderUptoRow, standIns := [], harness := (true, "baffee899de4cb062999e4382add8fbc52677b13de13219bc0b6deee2f1817db"), looks := true }, kinds := [], alts := [], laidByText := true, laidKinds := [.data, .data, .data, .sentinel, .sentinel, .data, .data, .widerDeep], laidTests := true, laidLooks := .later }
def DeriveOrderUptoCardSaid : Prop := Claim7.holds Tryz.pinned (.plain (OpenSpec.upto deriveOrderSpec)) deriveOrderUptoCard

/-- THE SECOND FORM's CARD OF 'rollbooklaw22.DeriveRoots'. -/
def deriveRootsUptoCard : Claim7 := { stood := { row := deriveRootsUptoRow, standIns := [], harness := (true, "baffee899de4cb062999e4382add8fbc52677b13de13219bc0b6deee2f1817db"), looks := true }, kinds := [], alts := [], laidByText := true, laidKinds := [.data, .data, .data, .sentinel, .sentinel, .data, .data, .widerDeep], laidTests := true, laidLooks := .later }
def DeriveRootsUptoCardSaid : Prop := Claim7.holds Tryz.pinned (.plain (OpenSpec.upto deriveRootsSpec)) deriveRootsUptoCard

/-- THE SECOND FORM's CARD OF 'rollbooklaw22.DeriveDefaults'. -/
def deriveDefaultsUptoCard : Claim7 := { stood := { row := deriveDefaultsUptoRow, standIns := [], harness := (true, "baffee899de4cb062999e4382add8fbc52677b13de13219bc0b6deee2f1817db"), looks := true }, kinds := [], alts := [], laidByText := true, laidKinds := [.data, .data, .data, .sentinel, .sentinel, .data, .data, .widerDeep], laidTests := true, laidLooks := .later }
def DeriveDefaultsUptoCardSaid : Prop := Claim7.holds Tryz.pinned (.plain (OpenSpec.upto deriveDefaultsSpec)) deriveDefaultsUptoCard

/-- THE SECOND FORM's CARD OF 'rollbooklaw22.DeriveAnswers'. -/
def deriveAnswersUptoCard : Claim7 := { stood := { row := deriveAnswersUptoRow, standIns := [], harness := (true, "baffee899de4cb062999e4382add8fbc52677b13de13219bc0b6deee2f1817db"), looks := true }, kinds := [], alts := [], laidByText := true, laidKinds := [.data, .data, .data, .sentinel, .sentinel, .data, .data, .widerDeep], laidTests := true, laidLooks := .later }
def DeriveAnswersUptoCardSaid : Prop := Claim7.holds Tryz.pinned (.plain (OpenSpec.upto deriveAnswersSpec)) deriveAnswersUptoCard

/-- THE SECOND FORM's CARD OF 'rollbooklaw22.DeriveReasons'. -/
def deriveReasonsUptoCard : Claim7 := { stood := { row := deriveReasonsUptoRow, standIns := [], harness := (true, "baffee899de4cb062999e4382add8fbc52677b13de13219bc0b6deee2f1817db"), looks := true }, kinds := [], alts := [], laidByText := true, laidKinds := [.data, .data, .data, .sentinel, .sentinel, .data, .data, .widerDeep], laidTests := true, laidLooks := .later }
def DeriveReasonsUptoCardSaid : Prop := Claim7.holds Tryz.pinned (.plain (OpenSpec.upto deriveReasonsSpec)) deriveReasonsUptoCard

/-- THE SECOND FORM's CARD OF 'rollbooklaw22.DeriveTexts'. -/
def deriveTextsUptoCard : Claim7 := { stood := { row := deriveTextsUptoRow, standIns := [], harness := (true, "baffee899de4cb062999e4382add8fbc52677b13de13219bc0b6deee2f1817db"), looks := true }, kinds := [], alts := [], laidByText := true, laidKinds := [.data, .data, .data, .sentinel, .sentinel, .data, .data, .widerDeep], laidTests := true, laidLooks := .later }
def DeriveTextsUptoCardSaid : Prop := Claim7.holds Tryz.pinned (.plain (OpenSpec.upto deriveTextsSpec)) deriveTextsUptoCard
end Rows
end Go.Proofs.YtipfkbkkndacjaaGreatDoor
