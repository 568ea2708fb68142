/-
  DERIVED. GIVEN WITH THE SEED: THE CARDS: each row of YtfjmlobgjdmecaaDoorRows.lean that lists a variable, with what it lists TIED to the program's text (the seventh form; the later family's looks); each row that meets fmt, with fmt's text TOLD by the authors' own Lean function (tested against real Go, not proved from fmt's source: count such statements apart). THE CARD IS WHAT COUNTS. Prove the row's statement (the work); the ties are given (YtfjmlobgjdmecaaDoorTie.lean); close each card by the builder's one call (the guide's Derived/Test/ToyasCard.lean, 'card_holds'). Laid BY PROGRAM, IN A SANDBOX (cutbox-door.mjs). By AI agents, Wed Nov 11 2026. No macro, syntax, notation, axiom, sorry.
-/
import Derived.Test.YtfjmlobgjdmecaaDoorRows
import GoSem.ClaimSeven
namespace Go.Proofs.YtfjmlobgjdmecaaDoor
namespace Rows

/-- THE TIED CARD OF 'rollbooklaw15.CompileExpressions'. -/
def compileExpressionsCard : Claim7 := { stood := { row := compileExpressionsRow, standIns := [], harness := (true, "7908a0dbb0b46f27dbf6289e10b09c546959ce0e0f64907fd24f582283beaa79"), looks := false }, kinds := [], alts := [], laidByText := true, laidKinds := [.widerDeep], laidTests := true, laidLooks := .later }
def CompileExpressionsCardSaid : Prop := Claim7.holds Tryd.pinned (.plain (OpenSpec.ofChange compileExpressionsSpec)) compileExpressionsCard

/-- THE TIED CARD OF 'rollbooklaw15.CompileVerifies'. -/
def compileVerifiesCard : Claim7 := { stood := { row := compileVerifiesRow, standIns := [], harness := (true, "7908a0dbb0b46f27dbf6289e10b09c546959ce0e0f64907fd24f582283beaa79"), looks := false }, kinds := [], alts := [], laidByText := true, laidKinds := [.widerDeep], laidTests := true, laidLooks := .later }
def CompileVerifiesCardSaid : Prop := Claim7.holds Tryd.pinned (.plain (OpenSpec.ofChange compileVerifiesSpec)) compileVerifiesCard

/-- THE TIED CARD OF 'rollbooklaw15.CompileWalks'. -/
def compileWalksCard : Claim7 := { stood := { row := compileWalksRow, standIns := [], harness := (true, "7908a0dbb0b46f27dbf6289e10b09c546959ce0e0f64907fd24f582283beaa79"), looks := false }, kinds := [], alts := [], laidByText := true, laidKinds := [.widerDeep], laidTests := true, laidLooks := .later }
def CompileWalksCardSaid : Prop := Claim7.holds Tryd.pinned (.plain (OpenSpec.ofChange compileWalksSpec)) compileWalksCard

/-- THE TIED CARD OF 'rollbooklaw15.CompileParts'. -/
def compilePartsCard : Claim7 := { stood := { row := compilePartsRow, standIns := [], harness := (true, "7908a0dbb0b46f27dbf6289e10b09c546959ce0e0f64907fd24f582283beaa79"), looks := false }, kinds := [], alts := [], laidByText := true, laidKinds := [.widerDeep], laidTests := true, laidLooks := .later }
def CompilePartsCardSaid : Prop := Claim7.holds Tryd.pinned (.plain (OpenSpec.ofChange compilePartsSpec)) compilePartsCard

/-- THE TIED CARD OF 'rollbooklaw15.CompileRules'. -/
def compileRulesCard : Claim7 := { stood := { row := compileRulesRow, standIns := [], harness := (true, "7908a0dbb0b46f27dbf6289e10b09c546959ce0e0f64907fd24f582283beaa79"), looks := false }, kinds := [], alts := [], laidByText := true, laidKinds := [.widerDeep], laidTests := true, laidLooks := .later }
def CompileRulesCardSaid : Prop := Claim7.holds Tryd.pinned (.plain (OpenSpec.ofChange compileRulesSpec)) compileRulesCard

/-- THE TIED CARD OF 'rollbooklaw15.CompileChecks'. -/
def compileChecksCard : Claim7 := { stood := { row := compileChecksRow, standIns := [], harness := (true, "7908a0dbb0b46f27dbf6289e10b09c546959ce0e0f64907fd24f582283beaa79"), looks := false }, kinds := [], alts := [], laidByText := true, laidKinds := [.widerDeep], laidTests := true, laidLooks := .later }
def CompileChecksCardSaid : Prop := Claim7.holds Tryd.pinned (.plain (OpenSpec.ofChange compileChecksSpec)) compileChecksCard

/-- THE TIED CARD OF 'rollbooklaw14.TypesOf'. -/
def typesOfCard : Claim7 := { stood := { row := typesOfRow, standIns := [], harness := (true, "7908a0dbb0b46f27dbf6289e10b09c546959ce0e0f64907fd24f582283beaa79"), looks := false }, kinds := [], alts := [], laidByText := true, laidKinds := [.widerDeep], laidTests := true, laidLooks := .later }
def TypesOfCardSaid : Prop := Claim7.holds Tryd.pinned (.plain (OpenSpec.ofChange typesOfSpec)) typesOfCard

/-- THE TIED CARD OF 'rollbooklaw14.TypesLeaves'. -/
def typesLeavesCard : Claim7 := { stood := { row := typesLeavesRow, standIns := [], harness := (true, "7908a0dbb0b46f27dbf6289e10b09c546959ce0e0f64907fd24f582283beaa79"), looks := false }, kinds := [], alts := [], laidByText := true, laidKinds := [.widerDeep], laidTests := true, laidLooks := .later }
def TypesLeavesCardSaid : Prop := Claim7.holds Tryd.pinned (.plain (OpenSpec.ofChange typesLeavesSpec)) typesLeavesCard

/-- THE TIED CARD OF 'rollbooklaw14.TypesNests'. -/
def typesNestsCard : Claim7 := { stood := { row := typesNestsRow, standIns := [], harness := (true, "7908a0dbb0b46f27dbf6289e10b09c546959ce0e0f64907fd24f582283beaa79"), looks := false }, kinds := [], alts := [], laidByText := true, laidKinds := [.widerDeep], laidTests := true, laidLooks := .later }
def TypesNestsCardSaid : Prop := Claim7.holds Tryd.pinned (.plain (OpenSpec.ofChange typesNestsSpec)) typesNestsCard

/-- THE TIED CARD OF 'rollbooklaw14.TypesCheck'. -/
def typesCheckCard : Claim7 := { stood := { row := typesCheckRow, standIns := [], harness := (true, "7908a0dbb0b46f27dbf6289e10b09c546959ce0e0f64907fd24f582283beaa79"), looks := false }, kinds := [], alts := [], laidByText := true, laidKinds := [.widerDeep], laidTests := true, laidLooks := .later }
def TypesCheckCardSaid : Prop := Claim7.holds Tryd.pinned (.plain (OpenSpec.ofChange typesCheckSpec)) typesCheckCard

/-- THE TIED CARD OF 'rollbooklaw14.TypesUses'. -/
def typesUsesCard : Claim7 := { stood := { row := typesUsesRow, standIns := [], harness := (true, "7908a0dbb0b46f27dbf6289e10b09c546959ce0e0f64907fd24f582283beaa79"), looks := false }, kinds := [], alts := [], laidByText := true, laidKinds := [.widerDeep], laidTests := true, laidLooks := .later }
def TypesUsesCardSaid : Prop := Claim7.holds Tryd.pinned (.plain (OpenSpec.ofChange typesUsesSpec)) typesUsesCard

/-- THE TIED CARD OF 'rollbooklaw14.TypesParts'. -/
def typesPartsCard : Claim7 := { stood := { row := typesPartsRow, standIns := [], harness := (true, "7908a0dbb0b46f27dbf6289e10b09c546959ce0e0f64907fd24f582283beaa79"), looks := false }, kinds := [], alts := [], laidByText := true, laidKinds := [.widerDeep], laidTests := true, laidLooks := .later }
def TypesPartsCardSaid : Prop := Claim7.holds Tryd.pinned (.plain (OpenSpec.ofChange typesPartsSpec)) typesPartsCard

/-- THE SECOND FORM's CARD OF 'rollbooklaw15.CompileExpressions'. -/
def compileExpressionsUptoCard : Claim7 := { stood := { row := compileExpressionsUptoRow, standIns := [], harness := (true, "7908a0dbb0b46f27dbf6289e10b09c546959ce0e0f64907fd24f582283beaa79"), looks := false }, kinds := [], alts := [], laidByText := true, laidKinds := [.widerDeep], laidTests := true, laidLooks := .later }
def CompileExpressionsUptoCardSaid : Prop := Claim7.holds Tryd.pinned (.plain (OpenSpec.upto compileExpressionsSpec)) compileExpressionsUptoCard

/-- THE SECOND FORM's CARD OF 'rollbooklaw15.CompileVerifies'. -/
def compileVerifiesUptoCard : Claim7 := { stood := { row := compileVerifiesUptoRow, standIns := [], harness := (true, "7908a0dbb0b46f27dbf6289e10b09c546959ce0e0f64907fd24f582283beaa79"), looks := false }, kinds := [], alts := [], laidByText := true, laidKinds := [.widerDeep], laidTests := true, laidLooks := .later }
def CompileVerifiesUptoCardSaid : Prop := Claim7.holds Tryd.pinned (.plain (OpenSpec.upto compileVerifiesSpec)) compileVerifiesUptoCard

/-- THE SECOND FORM's CARD OF 'rollbooklaw15.CompileWalks'. -/
def compileWalksUptoCard : Claim7 := { stood := { row := compileWalksUptoRow, standIns := [], harness := (true, "7908a0dbb0b46f27dbf6289e10b09c546959ce0e0f64907fd24f582283beaa79"), looks := false }, kinds := [], alts := [], laidByText := true, laidKinds := [.widerDeep], laidTests := true, laidLooks := .later }
def CompileWalksUptoCardSaid : Prop := Claim7.holds Tryd.pinned (.plain (OpenSpec.upto compileWalksSpec)) compileWalksUptoCard

/-- THE SECOND FORM's CARD OF 'rollbooklaw15.CompileParts'. -/
def compilePartsUptoCard : Claim7 := { stood := { row := compilePartsUptoRow, standIns := [], harness := (true, "7908a0dbb0b46f27dbf6289e10b09c546959ce0e0f64907fd24f582283beaa79"), looks := false }, kinds := [], alts := [], laidByText := true, laidKinds := [.widerDeep], laidTests := true, laidLooks := .later }
def CompilePartsUptoCardSaid : Prop := Claim7.holds Tryd.pinned (.plain (OpenSpec.upto compilePartsSpec)) compilePartsUptoCard

/-- THE SECOND FORM's CARD OF 'rollbooklaw15.CompileRules'. -/
def compileRulesUptoCard : Claim7 := { stood := { row := compileRulesUptoRow, standIns := [], harness := (true, "7908a0dbb0b46f27dbf6289e10b09c546959ce0e0f64907fd24f582283beaa79"), looks := false }, kinds := [], alts := [], laidByText := true, laidKinds := [.widerDeep], laidTests := true, laidLooks := .later }
def CompileRulesUptoCardSaid : Prop := Claim7.holds Tryd.pinned (.plain (OpenSpec.upto compileRulesSpec)) compileRulesUptoCard

/-- THE SECOND FORM's CARD OF 'rollbooklaw15.CompileChecks'. -/
def compileChecksUptoCard : Claim7 := { stood := { row := compileChecksUptoRow, standIns := [], harness := (true, "7908a0dbb0b46f27dbf6289e10b09c546959ce0e0f64907fd24f582283beaa79"), looks := false }, kinds := [], alts := [], laidByText := true, laidKinds := [.widerDeep], laidTests := true, laidLooks := .later }
def CompileChecksUptoCardSaid : Prop := Claim7.holds Tryd.pinned (.plain (OpenSpec.upto compileChecksSpec)) compileChecksUptoCard

/-- THE SECOND FORM's CARD OF 'rollbooklaw14.TypesOf'. -/
def typesOfUptoCard : Claim7 := { stood := { row := typesOfUptoRow, standIns := [], harness := (true, "7908a0dbb0b46f27dbf6289e10b09c546959ce0e0f64907fd24f582283beaa79"), looks := false }, kinds := [], alts := [], laidByText := true, laidKinds := [.widerDeep], laidTests := true, laidLooks := .later }
def TypesOfUptoCardSaid : Prop := Claim7.holds Tryd.pinned (.plain (OpenSpec.upto typesOfSpec)) typesOfUptoCard

/-- THE SECOND FORM's CARD OF 'rollbooklaw14.TypesLeaves'. -/
def typesLeavesUptoCard : Claim7 := { stood := { row := typesLeavesUptoRow, standIns := [], harness := (true, "7908a0dbb0b46f27dbf6289e10b09c546959ce0e0f64907fd24f582283beaa79"), looks := false }, kinds := [], alts := [], laidByText := true, laidKinds := [.widerDeep], laidTests := true, laidLooks := .later }
def TypesLeavesUptoCardSaid : Prop := Claim7.holds Tryd.pinned (.plain (OpenSpec.upto typesLeavesSpec)) typesLeavesUptoCard

/-- THE SECOND FORM's CARD OF 'rollbooklaw14.TypesNests'. -/
def typesNestsUptoCard : Claim7 := { stood := { row := typesNestsUptoRow, standIns := [], harness := (true, "7908a0dbb0b46f27dbf6289e10b09c546959ce0e0f64907fd24f582283beaa79"), looks := false }, kinds := [], alts := [], laidByText := true, laidKinds := [.widerDeep], laidTests := true, laidLooks := .later }
def TypesNestsUptoCardSaid : Prop := Claim7.holds Tryd.pinned (.plain (OpenSpec.upto typesNestsSpec)) typesNestsUptoCard

/-- THE SECOND FORM's CARD OF 'rollbooklaw14.TypesCheck'. -/
def typesCheckUptoCard : Claim7 := { stood := { row := typesCheckUptoRow, standIns := [], harness := (true, "7908a0dbb0b46f27dbf6289e10b09c546959ce0e0f64907fd24f582283beaa79"), looks := false }, kinds := [], alts := [], laidByText := true, laidKinds := [.widerDeep], laidTests := true, laidLooks := .later }
def TypesCheckUptoCardSaid : Prop := Claim7.holds Tryd.pinned (.plain (OpenSpec.upto typesCheckSpec)) typesCheckUptoCard

/-- THE SECOND FORM's CARD OF 'rollbooklaw14.TypesUses'. -/
def typesUsesUptoCard : Claim7 := { stood := { row := typesUsesUptoRow, standIns := [], harness := (true, "7908a0dbb0b46f27dbf6289e10b09c546959ce0e0f64907fd24f582283beaa79"), looks := false }, kinds := [], alts := [], laidByText := true, laidKinds := [.widerDeep], laidTests := true, laidLooks := .later }
def TypesUsesUptoCardSaid : Prop := Claim7.holds Tryd.pinned (.plain (OpenSpec.upto typesUsesSpec)) typesUsesUptoCard

/-- THE SECOND FORM's CARD OF 'rollbooklaw14.TypesParts'. -/
def typesPartsUptoCard : Claim7 := { stood := { row := typesPartsUptoRow, standIns := [], harness := (true, "7908a0dbb0b46f27dbf6289e10b09c546959ce0e0f64907fd24f582283beaa79"), looks := false }, kinds := [], alts := [], laidByText := true, laidKinds := [.widerDeep], laidTests := true, laidLooks := .later }
def TypesPartsUptoCardSaid : Prop := Claim7.holds Tryd.pinned (.plain (OpenSpec.upto typesPartsSpec)) typesPartsUptoCard
end Rows
end Go.Proofs.YtfjmlobgjdmecaaDoor
