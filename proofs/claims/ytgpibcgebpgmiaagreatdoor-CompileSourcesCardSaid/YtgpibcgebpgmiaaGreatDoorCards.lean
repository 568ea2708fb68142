/-
  DERIVED. GIVEN WITH THE SEED: THE CARDS: each row of YtgpibcgebpgmiaaGreatDoorRows.lean that lists a variable, with what it lists TIED to the program's text (the seventh form; the later family's looks); each row that meets fmt, with fmt's text TOLD by the authors' own Lean function (tested against real Go, not proved from fmt's source: count such statements apart). THE CARD IS WHAT COUNTS. Prove the row's statement (the work); the ties are given (YtgpibcgebpgmiaaGreatDoorTie.lean); close each card by the builder's one call (the guide's Derived/Test/ToyasCard.lean, 'card_holds'). Laid BY PROGRAM, IN A SANDBOX (cutbox-door.mjs). By AI agents, Wed Nov 11 2026. No macro, syntax, notation, axiom, sorry.
-/
import Derived.Test.YtgpibcgebpgmiaaGreatDoorRows
import GoSem.ClaimSeven
namespace Go.Proofs.YtgpibcgebpgmiaaGreatDoor
namespace Rows

/-- THE TIED CARD OF 'rollbooklaw15.CompileSources'. -/
def compileSourcesCard : Claim7 := { stood := { row := compileSourcesRow, standIns := [], harness := (true, "f29ffc9f937b73044bbefd59b098d9ffec28777c84b84a6f4967b1b9cbe4f5ce"), looks := true }, kinds := [], alts := [], laidByText := true, laidKinds := [.data, .data, .data, .sentinel, .sentinel, .data, .widerDeep], laidTests := true, laidLooks := .later }
def CompileSourcesCardSaid : Prop := Claim7.holds Tryz.pinned (.plain (OpenSpec.ofChange compileSourcesSpec)) compileSourcesCard

/-- THE TIED CARD OF 'rollbooklaw14.TypesSources'. -/
def typesSourcesCard : Claim7 := { stood := { row := typesSourcesRow, standIns := [], harness := (true, "f29ffc9f937b73044bbefd59b098d9ffec28777c84b84a6f4967b1b9cbe4f5ce"), looks := true }, kinds := [], alts := [], laidByText := true, laidKinds := [.data, .data, .data, .sentinel, .sentinel, .data, .widerDeep], laidTests := true, laidLooks := .later }
def TypesSourcesCardSaid : Prop := Claim7.holds Tryz.pinned (.plain (OpenSpec.ofChange typesSourcesSpec)) typesSourcesCard

/-- THE TIED CARD OF 'rollbooklaw14.TypesArbitrary'. -/
def typesArbitraryCard : Claim7 := { stood := { row := typesArbitraryRow, standIns := [], harness := (true, "f29ffc9f937b73044bbefd59b098d9ffec28777c84b84a6f4967b1b9cbe4f5ce"), looks := true }, kinds := [], alts := [], laidByText := true, laidKinds := [.data, .data, .data, .sentinel, .sentinel, .data, .widerDeep], laidTests := true, laidLooks := .later }
def TypesArbitraryCardSaid : Prop := Claim7.holds Tryz.pinned (.plain (OpenSpec.ofChange typesArbitrarySpec)) typesArbitraryCard

/-- THE SECOND FORM's CARD OF 'rollbooklaw15.CompileSources'. -/
def compileSourcesUptoCard : Claim7 := { stood := { row := compileSourcesUptoRow, standIns := [], harness := (true, "f29ffc9f937b73044bbefd59b098d9ffec28777c84b84a6f4967b1b9cbe4f5ce"), looks := true }, kinds := [], alts := [], laidByText := true, laidKinds := [.data, .data, .data, .sentinel, .sentinel, .data, .widerDeep], laidTests := true, laidLooks := .later }
def CompileSourcesUptoCardSaid : Prop := Claim7.holds Tryz.pinned (.plain (OpenSpec.upto compileSourcesSpec)) compileSourcesUptoCard

/-- THE SECOND FORM's CARD OF 'rollbooklaw14.TypesSources'. -/
def typesSourcesUptoCard : Claim7 := { stood := { row := typesSourcesUptoRow, standIns := [], harness := (true, "f29ffc9f937b73044bbefd59b098d9ffec28777c84b84a6f4967b1b9cbe4f5ce"), looks := true }, kinds := [], alts := [], laidByText := true, laidKinds := [.data, .data, .data, .sentinel, .sentinel, .data, .widerDeep], laidTests := true, laidLooks := .later }
def TypesSourcesUptoCardSaid : Prop := Claim7.holds Tryz.pinned (.plain (OpenSpec.upto typesSourcesSpec)) typesSourcesUptoCard

/-- THE SECOND FORM's CARD OF 'rollbooklaw14.TypesArbitrary'. -/
def typesArbitraryUptoCard : Claim7 := { stood := { row := typesArbitraryUptoRow, standIns := [], harness := (true, "f29ffc9f937b73044bbefd59b098d9ffec28777c84b84a6f4967b1b9cbe4f5ce"), looks := true }, kinds := [], alts := [], laidByText := true, laidKinds := [.data, .data, .data, .sentinel, .sentinel, .data, .widerDeep], laidTests := true, laidLooks := .later }
def TypesArbitraryUptoCardSaid : Prop := Claim7.holds Tryz.pinned (.plain (OpenSpec.upto typesArbitrarySpec)) typesArbitraryUptoCard
end Rows
end Go.Proofs.YtgpibcgebpgmiaaGreatDoor
