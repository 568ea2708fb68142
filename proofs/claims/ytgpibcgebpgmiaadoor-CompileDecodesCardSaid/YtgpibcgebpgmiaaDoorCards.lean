/-
  DERIVED. GIVEN WITH THE SEED: THE CARDS: each row of YtgpibcgebpgmiaaDoorRows.lean that lists a variable, with what it lists TIED to the program's text (the seventh form; the later family's looks); each row that meets fmt, with fmt's text TOLD by the authors' own Lean function (tested against real Go, not proved from fmt's source: count such statements apart). THE CARD IS WHAT COUNTS. Prove the row's statement (the work); the ties are given (YtgpibcgebpgmiaaDoorTie.lean); close each card by the builder's one call (the guide's Derived/Test/ToyasCard.lean, 'card_holds'). Laid BY PROGRAM, IN A SANDBOX (cutbox-door.mjs). By AI agents, Wed Nov 11 2026. No macro, syntax, notation, axiom, sorry.
-/
import Derived.Test.YtgpibcgebpgmiaaDoorRows
import GoSem.ClaimSeven
namespace Go.Proofs.YtgpibcgebpgmiaaDoor
namespace Rows

/-- THE TIED CARD OF 'rollbooklaw14.TypesSubstitutes'. -/
def typesSubstitutesCard : Claim7 := { stood := { row := typesSubstitutesRow, standIns := [], harness := (true, "6a0bb6528c9837b161e3f805fd7535890cabddfd947c4dbcbf63d5d2614c383a"), looks := false }, kinds := [], alts := [], laidByText := true, laidKinds := [.widerDeep], laidTests := true, laidLooks := .later }
def TypesSubstitutesCardSaid : Prop := Claim7.holds Tryd.pinned (.plain (OpenSpec.ofChange typesSubstitutesSpec)) typesSubstitutesCard

/-- THE TIED CARD OF 'rollbooklaw15.CompileDecodes'. -/
def compileDecodesCard : Claim7 := { stood := { row := compileDecodesRow, standIns := [], harness := (true, "6a0bb6528c9837b161e3f805fd7535890cabddfd947c4dbcbf63d5d2614c383a"), looks := false }, kinds := [], alts := [], laidByText := true, laidKinds := [.widerDeep], laidTests := true, laidLooks := .later }
def CompileDecodesCardSaid : Prop := Claim7.holds Tryd.pinned (.plain (OpenSpec.ofChange compileDecodesSpec)) compileDecodesCard

/-- THE TIED CARD OF 'rollbooklaw15.CompileEncodes'. -/
def compileEncodesCard : Claim7 := { stood := { row := compileEncodesRow, standIns := [], harness := (true, "6a0bb6528c9837b161e3f805fd7535890cabddfd947c4dbcbf63d5d2614c383a"), looks := false }, kinds := [], alts := [], laidByText := true, laidKinds := [.widerDeep], laidTests := true, laidLooks := .later }
def CompileEncodesCardSaid : Prop := Claim7.holds Tryd.pinned (.plain (OpenSpec.ofChange compileEncodesSpec)) compileEncodesCard

/-- THE TIED CARD OF 'rollbooklaw15.CompileTypes'. -/
def compileTypesCard : Claim7 := { stood := { row := compileTypesRow, standIns := [], harness := (true, "6a0bb6528c9837b161e3f805fd7535890cabddfd947c4dbcbf63d5d2614c383a"), looks := false }, kinds := [], alts := [], laidByText := true, laidKinds := [.widerDeep], laidTests := true, laidLooks := .later }
def CompileTypesCardSaid : Prop := Claim7.holds Tryd.pinned (.plain (OpenSpec.ofChange compileTypesSpec)) compileTypesCard

/-- THE SECOND FORM's CARD OF 'rollbooklaw14.TypesSubstitutes'. -/
def typesSubstitutesUptoCard : Claim7 := { stood := { row := typesSubstitutesUptoRow, standIns := [], harness := (true, "6a0bb6528c9837b161e3f805fd7535890cabddfd947c4dbcbf63d5d2614c383a"), looks := false }, kinds := [], alts := [], laidByText := true, laidKinds := [.widerDeep], laidTests := true, laidLooks := .later }
def TypesSubstitutesUptoCardSaid : Prop := Claim7.holds Tryd.pinned (.plain (OpenSpec.upto typesSubstitutesSpec)) typesSubstitutesUptoCard

/-- THE SECOND FORM's CARD OF 'rollbooklaw15.CompileDecodes'. -/
def compileDecodesUptoCard : Claim7 := { stood := { row := compileDecodesUptoRow, standIns := [], harness := (true, "6a0bb6528c9837b161e3f805fd7535890cabddfd947c4dbcbf63d5d2614c383a"), looks := false }, kinds := [], alts := [], laidByText := true, laidKinds := [.widerDeep], laidTests := true, laidLooks := .later }
def CompileDecodesUptoCardSaid : Prop := Claim7.holds Tryd.pinned (.plain (OpenSpec.upto compileDecodesSpec)) compileDecodesUptoCard

/-- THE SECOND FORM's CARD OF 'rollbooklaw15.CompileEncodes'. -/
def compileEncodesUptoCard : Claim7 := { stood := { row := compileEncodesUptoRow, standIns := [], harness := (true, "6a0bb6528c9837b161e3f805fd7535890cabddfd947c4dbcbf63d5d2614c383a"), looks := false }, kinds := [], alts := [], laidByText := true, laidKinds := [.widerDeep], laidTests := true, laidLooks := .later }
def CompileEncodesUptoCardSaid : Prop := Claim7.holds Tryd.pinned (.plain (OpenSpec.upto compileEncodesSpec)) compileEncodesUptoCard

/-- THE SECOND FORM's CARD OF 'rollbooklaw15.CompileTypes'. -/
def compileTypesUptoCard : Claim7 := { stood := { row := compileTypesUptoRow, standIns := [], harness := (true, "6a0bb6528c9837b161e3f805fd7535890cabddfd947c4dbcbf63d5d2614c383a"), looks := false }, kinds := [], alts := [], laidByText := true, laidKinds := [.widerDeep], laidTests := true, laidLooks := .later }
def CompileTypesUptoCardSaid : Prop := Claim7.holds Tryd.pinned (.plain (OpenSpec.upto compileTypesSpec)) compileTypesUptoCard
end Rows
end Go.Proofs.YtgpibcgebpgmiaaDoor
