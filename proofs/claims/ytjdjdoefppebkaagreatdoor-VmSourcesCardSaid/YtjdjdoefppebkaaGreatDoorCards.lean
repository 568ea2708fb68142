/-
  DERIVED. GIVEN WITH THE SEED: THE CARDS: each row of YtjdjdoefppebkaaGreatDoorRows.lean that lists a variable, with what it lists TIED to the program's text (the seventh form; the later family's looks); each row that meets fmt, with fmt's text TOLD by the authors' own Lean function (tested against real Go, not proved from fmt's source: count such statements apart). THE CARD IS WHAT COUNTS. Prove the row's statement (the work); the ties are given (YtjdjdoefppebkaaGreatDoorTie.lean); close each card by the builder's one call (the guide's Derived/Test/ToyasCard.lean, 'card_holds'). Laid BY PROGRAM, IN A SANDBOX (cutbox-door.mjs). By AI agents, Wed Nov 11 2026. No macro, syntax, notation, axiom, sorry.
-/
import Derived.Test.YtjdjdoefppebkaaGreatDoorRows
import GoSem.ClaimSeven
namespace Go.Proofs.YtjdjdoefppebkaaGreatDoor
namespace Rows

/-- THE TIED CARD OF 'rollbooklaw16.VmRuns'. -/
def vmRunsCard : Claim7 := { stood := { row := vmRunsRow, standIns := [], harness := (true, "b9bb4ef8a1355af77975ce3cc536d92da84005ef35b4577e6e5ddfddf78a18b2"), looks := true }, kinds := [], alts := [], laidByText := true, laidKinds := [.data, .data, .data, .sentinel, .sentinel, .data, .data], laidTests := true, laidLooks := .later }
def VmRunsCardSaid : Prop := Claim7.holds Tryz.pinned (.plain (OpenSpec.ofChange vmRunsSpec)) vmRunsCard

/-- THE TIED CARD OF 'rollbooklaw16.VmCodes'. -/
def vmCodesCard : Claim7 := { stood := { row := vmCodesRow, standIns := [], harness := (true, "b9bb4ef8a1355af77975ce3cc536d92da84005ef35b4577e6e5ddfddf78a18b2"), looks := true }, kinds := [], alts := [], laidByText := true, laidKinds := [.data, .data, .data, .sentinel, .sentinel, .data, .data], laidTests := true, laidLooks := .later }
def VmCodesCardSaid : Prop := Claim7.holds Tryz.pinned (.plain (OpenSpec.ofChange vmCodesSpec)) vmCodesCard

/-- THE TIED CARD OF 'rollbooklaw16.VmEvals'. -/
def vmEvalsCard : Claim7 := { stood := { row := vmEvalsRow, standIns := [], harness := (true, "b9bb4ef8a1355af77975ce3cc536d92da84005ef35b4577e6e5ddfddf78a18b2"), looks := true }, kinds := [], alts := [], laidByText := true, laidKinds := [.data, .data, .data, .sentinel, .sentinel, .data, .data], laidTests := true, laidLooks := .later }
def VmEvalsCardSaid : Prop := Claim7.holds Tryz.pinned (.plain (OpenSpec.ofChange vmEvalsSpec)) vmEvalsCard

/-- THE TIED CARD OF 'rollbooklaw19.CarrierRules'. -/
def carrierRulesCard : Claim7 := { stood := { row := carrierRulesRow, standIns := [], harness := (true, "b9bb4ef8a1355af77975ce3cc536d92da84005ef35b4577e6e5ddfddf78a18b2"), looks := true }, kinds := [], alts := [], laidByText := true, laidKinds := [.data, .data, .data, .sentinel, .sentinel, .data, .data], laidTests := true, laidLooks := .later }
def CarrierRulesCardSaid : Prop := Claim7.holds Tryz.pinned (.plain (OpenSpec.ofChange carrierRulesSpec)) carrierRulesCard

/-- THE TIED CARD OF 'rollbooklaw16.VmKnows'. -/
def vmKnowsCard : Claim7 := { stood := { row := vmKnowsRow, standIns := [], harness := (true, "b9bb4ef8a1355af77975ce3cc536d92da84005ef35b4577e6e5ddfddf78a18b2"), looks := true }, kinds := [], alts := [], laidByText := true, laidKinds := [.data, .data, .data, .sentinel, .sentinel, .data, .data, .widerDeep], laidTests := true, laidLooks := .later }
def VmKnowsCardSaid : Prop := Claim7.holds Tryz.pinned (.plain (OpenSpec.ofChange vmKnowsSpec)) vmKnowsCard

/-- THE TIED CARD OF 'rollbooklaw16.VmDays'. -/
def vmDaysCard : Claim7 := { stood := { row := vmDaysRow, standIns := [], harness := (true, "b9bb4ef8a1355af77975ce3cc536d92da84005ef35b4577e6e5ddfddf78a18b2"), looks := true }, kinds := [], alts := [], laidByText := true, laidKinds := [.data, .data, .data, .sentinel, .sentinel, .data, .data, .widerDeep], laidTests := true, laidLooks := .later }
def VmDaysCardSaid : Prop := Claim7.holds Tryz.pinned (.plain (OpenSpec.ofChange vmDaysSpec)) vmDaysCard

/-- THE TIED CARD OF 'rollbooklaw16.VmFields'. -/
def vmFieldsCard : Claim7 := { stood := { row := vmFieldsRow, standIns := [], harness := (true, "b9bb4ef8a1355af77975ce3cc536d92da84005ef35b4577e6e5ddfddf78a18b2"), looks := true }, kinds := [], alts := [], laidByText := true, laidKinds := [.data, .data, .data, .sentinel, .sentinel, .data, .data, .widerDeep], laidTests := true, laidLooks := .later }
def VmFieldsCardSaid : Prop := Claim7.holds Tryz.pinned (.plain (OpenSpec.ofChange vmFieldsSpec)) vmFieldsCard

/-- THE TIED CARD OF 'rollbooklaw16.VmSources'. -/
def vmSourcesCard : Claim7 := { stood := { row := vmSourcesRow, standIns := [], harness := (true, "b9bb4ef8a1355af77975ce3cc536d92da84005ef35b4577e6e5ddfddf78a18b2"), looks := true }, kinds := [], alts := [], laidByText := true, laidKinds := [.data, .data, .data, .sentinel, .sentinel, .data, .data, .widerDeep], laidTests := true, laidLooks := .later }
def VmSourcesCardSaid : Prop := Claim7.holds Tryz.pinned (.plain (OpenSpec.ofChange vmSourcesSpec)) vmSourcesCard

/-- THE TIED CARD OF 'rollbooklaw16.VmAgrees'. -/
def vmAgreesCard : Claim7 := { stood := { row := vmAgreesRow, standIns := [], harness := (true, "b9bb4ef8a1355af77975ce3cc536d92da84005ef35b4577e6e5ddfddf78a18b2"), looks := true }, kinds := [], alts := [], laidByText := true, laidKinds := [.data, .data, .data, .sentinel, .sentinel, .data, .data, .widerDeep], laidTests := true, laidLooks := .later }
def VmAgreesCardSaid : Prop := Claim7.holds Tryz.pinned (.plain (OpenSpec.ofChange vmAgreesSpec)) vmAgreesCard

/-- THE SECOND FORM's CARD OF 'rollbooklaw16.VmRuns'. -/
def vmRunsUptoCard : Claim7 := { stood := { row := vmRunsUptoRow, standIns := [], harness := (true, "b9bb4ef8a1355af77975ce3cc536d92da84005ef35b4577e6e5ddfddf78a18b2"), looks := true }, kinds := [], alts := [], laidByText := true, laidKinds := [.data, .data, .data, .sentinel, .sentinel, .data, .data], laidTests := true, laidLooks := .later }
def VmRunsUptoCardSaid : Prop := Claim7.holds Tryz.pinned (.plain (OpenSpec.upto vmRunsSpec)) vmRunsUptoCard

/-- THE SECOND FORM's CARD OF 'rollbooklaw16.VmCodes'. -/
def vmCodesUptoCard : Claim7 := { stood := { row := vmCodesUptoRow, standIns := [], harness := (true, "b9bb4ef8a1355af77975ce3cc536d92da84005ef35b4577e6e5ddfddf78a18b2"), looks := true }, kinds := [], alts := [], laidByText := true, laidKinds := [.data, .data, .data, .sentinel, .sentinel, .data, .data], laidTests := true, laidLooks := .later }
def VmCodesUptoCardSaid : Prop := Claim7.holds Tryz.pinned (.plain (OpenSpec.upto vmCodesSpec)) vmCodesUptoCard

/-- THE SECOND FORM's CARD OF 'rollbooklaw16.VmEvals'. -/
def vmEvalsUptoCard : Claim7 := { stood := { row := vmEvalsUptoRow, standIns := [], harness := (true, "b9bb4ef8a1355af77975ce3cc536d92da84005ef35b4577e6e5ddfddf78a18b2"), looks := true }, kinds := [], alts := [], laidByText := true, laidKinds := [.data, .data, .data, .sentinel, .sentinel, .data, .data], laidTests := true, laidLooks := .later }
def VmEvalsUptoCardSaid : Prop := Claim7.holds Tryz.pinned (.plain (OpenSpec.upto vmEvalsSpec)) vmEvalsUptoCard

/-- THE SECOND FORM's CARD OF 'rollbooklaw19.CarrierRules'. -/
def carrierRulesUptoCard : Claim7 := { stood := { row := carrierRulesUptoRow, standIns := [], harness := (true, "b9bb4ef8a1355af77975ce3cc536d92da84005ef35b4577e6e5ddfddf78a18b2"), looks := true }, kinds := [], alts := [], laidByText := true, laidKinds := [.data, .data, .data, .sentinel, .sentinel, .data, .data], laidTests := true, laidLooks := .later }
def CarrierRulesUptoCardSaid : Prop := Claim7.holds Tryz.pinned (.plain (OpenSpec.upto carrierRulesSpec)) carrierRulesUptoCard

/-- THE SECOND FORM's CARD OF 'rollbooklaw16.VmKnows'. -/
def vmKnowsUptoCard : Claim7 := { stood := { row := vmKnowsUptoRow, standIns := [], harness := (true, "b9bb4ef8a1355af77975ce3cc536d92da84005ef35b4577e6e5ddfddf78a18b2"), looks := true }, kinds := [], alts := [], laidByText := true, laidKinds := [.data, .data, .data, .sentinel, .sentinel, .data, .data, .widerDeep], laidTests := true, laidLooks := .later }
def VmKnowsUptoCardSaid : Prop := Claim7.holds Tryz.pinned (.plain (OpenSpec.upto vmKnowsSpec)) vmKnowsUptoCard

/-- THE SECOND FORM's CARD OF 'rollbooklaw16.VmDays'. -/
def vmDaysUptoCard : Claim7 := { stood := { row := vmDaysUptoRow, standIns := [], harness := (true, "b9bb4ef8a1355af77975ce3cc536d92da84005ef35b4577e6e5ddfddf78a18b2"), looks := true }, kinds := [], alts := [], laidByText := true, laidKinds := [.data, .data, .data, .sentinel, .sentinel, .data, .data, .widerDeep], laidTests := true, laidLooks := .later }
def VmDaysUptoCardSaid : Prop := Claim7.holds Tryz.pinned (.plain (OpenSpec.upto vmDaysSpec)) vmDaysUptoCard

/-- THE SECOND FORM's CARD OF 'rollbooklaw16.VmFields'. -/
def vmFieldsUptoCard : Claim7 := { stood := { row := vmFieldsUptoRow, standIns := [], harness := (true, "b9bb4ef8a1355af77975ce3cc536d92da84005ef35b4577e6e5ddfddf78a18b2"), looks := true }, kinds := [], alts := [], laidByText := true, laidKinds := [.data, .data, .data, .sentinel, .sentinel, .data, .data, .widerDeep], laidTests := true, laidLooks := .later }
def VmFieldsUptoCardSaid : Prop := Claim7.holds Tryz.pinned (.plain (OpenSpec.upto vmFieldsSpec)) vmFieldsUptoCard

/-- THE SECOND FORM's CARD OF 'rollbooklaw16.VmSources'. -/
def vmSourcesUptoCard : Claim7 := { stood := { row := vmSourcesUptoRow, standIns := [], harness := (true, "b9bb4ef8a1355af77975ce3cc536d92da84005ef35b4577e6e5ddfddf78a18b2"), looks := true }, kinds := [], alts := [], laidByText := true, laidKinds := [.data, .data, .data, .sentinel, .sentinel, .data, .data, .widerDeep], laidTests := true, laidLooks := .later }
def VmSourcesUptoCardSaid : Prop := Claim7.holds Tryz.pinned (.plain (OpenSpec.upto vmSourcesSpec)) vmSourcesUptoCard

/-- THE SECOND FORM's CARD OF 'rollbooklaw16.VmAgrees'. -/
def vmAgreesUptoCard : Claim7 := { stood := { row := vmAgreesUptoRow, standIns := [], harness := (true, "b9bb4ef8a1355af77975ce3cc536d92da84005ef35b4577e6e5ddfddf78a18b2"), looks := true }, kinds := [], alts := [], laidByText := true, laidKinds := [.data, .data, .data, .sentinel, .sentinel, .data, .data, .widerDeep], laidTests := true, laidLooks := .later }
def VmAgreesUptoCardSaid : Prop := Claim7.holds Tryz.pinned (.plain (OpenSpec.upto vmAgreesSpec)) vmAgreesUptoCard
end Rows
end Go.Proofs.YtjdjdoefppebkaaGreatDoor
