/-
  NARROWER THAN 'FOR EVERY INPUT', by the rows' own cells (each row's printed sentence says how): VmRuns: laid · VmCodes: laid · VmEvals: laid · CarrierRules: laid · VmKnows: laid · VmDays: laid · VmFields: laid · VmSources: laid · VmAgrees: laid.
  DERIVED. THE GIVEN ROWS OF THIS SEAT. 9 by the template 'for every input the law returns true; each argument reads behind the call as it read before'; 0 by the template 'total and deterministic' (their statements: YtjdjdoefppebkaaGreatDoorTotals.lean).
  GIVEN WITH THE SEED: the statements are not yours to turn. If you find one false, say at which input.
  Laid BY PROGRAM, IN A SANDBOX (cutbox-rows.mjs): the forced cells as the released guide's own fill.sh prints them over the translation f9d84874af8b7ac3… (all of the seat's roots in one cut). By AI agents, Wed Nov 11 2026. No macro, syntax, notation, axiom, sorry.
-/
import Derived.Test.YtjdjdoefppebkaaGreatDoorChecked
import GoSem.Claim
import GoSem.ClaimJoined
import GoSem.ClaimMapViews
import Derived.JoinedTies
import Derived.KernelRfl
namespace Go.Proofs.YtjdjdoefppebkaaGreatDoor
/- THE CELL 'sum', in the pinned program and in every row, IS THE sha256 OF THE DUMP (.gsa) THAT YtjdjdoefppebkaaGreatDoorProg.lean LOADS. Nothing in Lean hashes anything: it is a label: what it is worth is what the hold of that sum in a sandbox is worth. -/
noncomputable def Tryz.pinned : Pinned := { name := "ytjdjdoefppebkaagreatdoor", sum := "f9d84874af8b7ac37c1abee5d46afe626f8562aab7b6bbeae5361196b8427444", checked := Tryz.checked }
namespace Rows
def none {H : Type} : Left H := { results := [], args := [] }

/- WHAT THE LISTED PACKAGE-LEVEL VARIABLES READ AS WHEN THE CALL BEGINS. Each datum BY PROGRAM (the guide's laid-datum.mjs) off the statement by which the dump's own 'gosem.cut.vars' lays the variable. In a bare row this is a premise. The card (YtjdjdoefppebkaaGreatDoorCards.lean) ties it to the program's text. -/
def laid_math_bits_deBruijn32tab {H : Type} : DataW H := .agg [.lit (.int .u8 0), .lit (.int .u8 1), .lit (.int .u8 28), .lit (.int .u8 2), .lit (.int .u8 29), .lit (.int .u8 14), .lit (.int .u8 24), .lit (.int .u8 3), .lit (.int .u8 30), .lit (.int .u8 22), .lit (.int .u8 20), .lit (.int .u8 15), .lit (.int .u8 25), .lit (.int .u8 17), .lit (.int .u8 4), .lit (.int .u8 8), .lit (.int .u8 31), .lit (.int .u8 27), .lit (.int .u8 13), .lit (.int .u8 23), .lit (.int .u8 21), .lit (.int .u8 19), .lit (.int .u8 16), .lit (.int .u8 7), .lit (.int .u8 26), .lit (.int .u8 12), .lit (.int .u8 18), .lit (.int .u8 6), .lit (.int .u8 11), .lit (.int .u8 5), .lit (.int .u8 10), .lit (.int .u8 9)]
def laid_math_bits_deBruijn64tab {H : Type} : DataW H := .agg [.lit (.int .u8 0), .lit (.int .u8 1), .lit (.int .u8 56), .lit (.int .u8 2), .lit (.int .u8 57), .lit (.int .u8 49), .lit (.int .u8 28), .lit (.int .u8 3), .lit (.int .u8 61), .lit (.int .u8 58), .lit (.int .u8 42), .lit (.int .u8 50), .lit (.int .u8 38), .lit (.int .u8 29), .lit (.int .u8 17), .lit (.int .u8 4), .lit (.int .u8 62), .lit (.int .u8 47), .lit (.int .u8 59), .lit (.int .u8 36), .lit (.int .u8 45), .lit (.int .u8 43), .lit (.int .u8 51), .lit (.int .u8 22), .lit (.int .u8 53), .lit (.int .u8 39), .lit (.int .u8 33), .lit (.int .u8 30), .lit (.int .u8 24), .lit (.int .u8 18), .lit (.int .u8 12), .lit (.int .u8 5), .lit (.int .u8 63), .lit (.int .u8 55), .lit (.int .u8 48), .lit (.int .u8 27), .lit (.int .u8 60), .lit (.int .u8 41), .lit (.int .u8 37), .lit (.int .u8 16), .lit (.int .u8 46), .lit (.int .u8 35), .lit (.int .u8 44), .lit (.int .u8 21), .lit (.int .u8 52), .lit (.int .u8 32), .lit (.int .u8 23), .lit (.int .u8 11), .lit (.int .u8 54), .lit (.int .u8 26), .lit (.int .u8 40), .lit (.int .u8 15), .lit (.int .u8 34), .lit (.int .u8 20), .lit (.int .u8 31), .lit (.int .u8 10), .lit (.int .u8 25), .lit (.int .u8 14), .lit (.int .u8 19), .lit (.int .u8 9), .lit (.int .u8 13), .lit (.int .u8 8), .lit (.int .u8 7), .lit (.int .u8 6)]
def laid_internal_strconv_uint64pow10 {H : Type} : DataW H := .agg [.lit (.int .u64 1), .lit (.int .u64 10), .lit (.int .u64 100), .lit (.int .u64 1000), .lit (.int .u64 10000), .lit (.int .u64 100000), .lit (.int .u64 1000000), .lit (.int .u64 10000000), .lit (.int .u64 100000000), .lit (.int .u64 1000000000), .lit (.int .u64 10000000000), .lit (.int .u64 100000000000), .lit (.int .u64 1000000000000), .lit (.int .u64 10000000000000), .lit (.int .u64 100000000000000), .lit (.int .u64 1000000000000000), .lit (.int .u64 10000000000000000), .lit (.int .u64 100000000000000000), .lit (.int .u64 1000000000000000000), .lit (.int .u64 10000000000000000000)]
def laid_strconv_ErrRange {H : Type} : DataW H := .iface "*errors.errorString" (.ptr (.agg [.lit (.string [118, 97, 108, 117, 101, 32, 111, 117, 116, 32, 111, 102, 32, 114, 97, 110, 103, 101])]))
def laid_strconv_ErrSyntax {H : Type} : DataW H := .iface "*errors.errorString" (.ptr (.agg [.lit (.string [105, 110, 118, 97, 108, 105, 100, 32, 115, 121, 110, 116, 97, 120])]))
def laid_rollbook_date_lengths {H : Type} : DataW H := .agg [.lit (.int .i64 0), .lit (.int .i64 31), .lit (.int .i64 28), .lit (.int .i64 31), .lit (.int .i64 30), .lit (.int .i64 31), .lit (.int .i64 30), .lit (.int .i64 31), .lit (.int .i64 31), .lit (.int .i64 30), .lit (.int .i64 31), .lit (.int .i64 30), .lit (.int .i64 31)]
def laid_rollbook_holiday_moves {H : Type} : DataW H := .agg [.agg [.lit (.int .i64 0), .lit (.int .i64 0), .lit (.int .i64 0), .lit (.int .i64 0), .lit (.int .i64 0), .lit (.int .i64 0), .lit (.int .i64 0)], .agg [.lit (.int .i64 0), .lit (.int .i64 0), .lit (.int .i64 0), .lit (.int .i64 0), .lit (.int .i64 0), .lit (.int .i64 2), .lit (.int .i64 1)], .agg [.lit (.int .i64 0), .lit (.int .i64 0), .lit (.int .i64 0), .lit (.int .i64 0), .lit (.int .i64 0), .lit (.int .i64 (-1)), .lit (.int .i64 1)]]
def laid_rollbook_types_fields {H : Type} : DataW H := .agg [.lit (.string [100, 97, 121]), .lit (.string [115, 101, 114, 118, 101, 100]), .lit (.string [101, 120, 116, 114, 97]), .lit (.string [98, 121]), .lit (.string [116, 111]), .lit (.string [99, 111, 117, 114, 116]), .lit (.string [97, 109, 111, 117, 110, 116])]

/-- 'rollbooklaw16.VmRuns': WHATEVER THE INPUT: true; the input reads as it did. -/
def vmRunsSpec : ChangeSpec := { name := "vmRuns", fn := fun _ => fun
  | [d] => { results := [.lit (.bool true)], args := [d] }
  | _ => none }
def vmRunsRow : OpenClaim := { program := "ytjdjdoefppebkaagreatdoor", sum := "f9d84874af8b7ac37c1abee5d46afe626f8562aab7b6bbeae5361196b8427444", func := "rollbook/rollbooklaw16.VmRuns", spec := "vmRuns", inPlace := ["internal/bytealg.IndexByteString", "internal/bytealg.IndexString"], unfollowed := true, recurses := true, named := ["rollbook/date.lengths", "rollbook/holiday.moves", "strconv.ErrSyntax", "strconv.ErrRange", "internal/strconv.uint64pow10", "math/bits.deBruijn32tab", "math/bits.deBruijn64tab", "internal/bytealg.MaxLen"], plainKeys := false, apart := false, laid := [("math/bits.deBruijn32tab", laid_math_bits_deBruijn32tab), ("math/bits.deBruijn64tab", laid_math_bits_deBruijn64tab), ("internal/strconv.uint64pow10", laid_internal_strconv_uint64pow10), ("strconv.ErrRange", laid_strconv_ErrRange), ("strconv.ErrSyntax", laid_strconv_ErrSyntax), ("rollbook/date.lengths", laid_rollbook_date_lengths), ("rollbook/holiday.moves", laid_rollbook_holiday_moves)] }
def VmRunsSaid : Prop := vmRunsRow.holds Tryz.pinned (OpenSpec.ofChange vmRunsSpec)

/-- ITS FALSE NEIGHBOUR: 'it returns false'. Refute it at one input. -/
def vmRunsWrong : ChangeSpec := { name := "vmRuns", fn := fun _ => fun
  | [d] => { results := [.lit (.bool false)], args := [d] }
  | _ => none }
def VmRunsWrongFalsely : Prop := vmRunsRow.holds Tryz.pinned (OpenSpec.ofChange vmRunsWrong)

/-- 'rollbooklaw16.VmCodes': WHATEVER THE INPUT: true; the input reads as it did. -/
def vmCodesSpec : ChangeSpec := { name := "vmCodes", fn := fun _ => fun
  | [d1, d2, d3, d4, d5] => { results := [.lit (.bool true)], args := [d1, d2, d3, d4, d5] }
  | _ => none }
def vmCodesRow : OpenClaim := { program := "ytjdjdoefppebkaagreatdoor", sum := "f9d84874af8b7ac37c1abee5d46afe626f8562aab7b6bbeae5361196b8427444", func := "rollbook/rollbooklaw16.VmCodes", spec := "vmCodes", inPlace := ["internal/bytealg.IndexByteString", "internal/bytealg.IndexString"], unfollowed := true, recurses := true, named := ["rollbook/date.lengths", "rollbook/holiday.moves", "strconv.ErrSyntax", "strconv.ErrRange", "internal/strconv.uint64pow10", "math/bits.deBruijn32tab", "math/bits.deBruijn64tab", "internal/bytealg.MaxLen"], plainKeys := false, apart := false, laid := [("math/bits.deBruijn32tab", laid_math_bits_deBruijn32tab), ("math/bits.deBruijn64tab", laid_math_bits_deBruijn64tab), ("internal/strconv.uint64pow10", laid_internal_strconv_uint64pow10), ("strconv.ErrRange", laid_strconv_ErrRange), ("strconv.ErrSyntax", laid_strconv_ErrSyntax), ("rollbook/date.lengths", laid_rollbook_date_lengths), ("rollbook/holiday.moves", laid_rollbook_holiday_moves)] }
def VmCodesSaid : Prop := vmCodesRow.holds Tryz.pinned (OpenSpec.ofChange vmCodesSpec)

/-- ITS FALSE NEIGHBOUR: 'it returns false'. Refute it at one input. -/
def vmCodesWrong : ChangeSpec := { name := "vmCodes", fn := fun _ => fun
  | [d1, d2, d3, d4, d5] => { results := [.lit (.bool false)], args := [d1, d2, d3, d4, d5] }
  | _ => none }
def VmCodesWrongFalsely : Prop := vmCodesRow.holds Tryz.pinned (OpenSpec.ofChange vmCodesWrong)

/-- 'rollbooklaw16.VmEvals': WHATEVER THE INPUT: true; the input reads as it did. -/
def vmEvalsSpec : ChangeSpec := { name := "vmEvals", fn := fun _ => fun
  | [d] => { results := [.lit (.bool true)], args := [d] }
  | _ => none }
def vmEvalsRow : OpenClaim := { program := "ytjdjdoefppebkaagreatdoor", sum := "f9d84874af8b7ac37c1abee5d46afe626f8562aab7b6bbeae5361196b8427444", func := "rollbook/rollbooklaw16.VmEvals", spec := "vmEvals", inPlace := ["internal/bytealg.IndexByteString", "internal/bytealg.IndexString"], unfollowed := true, recurses := true, named := ["rollbook/date.lengths", "rollbook/holiday.moves", "strconv.ErrSyntax", "strconv.ErrRange", "internal/strconv.uint64pow10", "math/bits.deBruijn32tab", "math/bits.deBruijn64tab", "internal/bytealg.MaxLen"], plainKeys := false, apart := false, laid := [("math/bits.deBruijn32tab", laid_math_bits_deBruijn32tab), ("math/bits.deBruijn64tab", laid_math_bits_deBruijn64tab), ("internal/strconv.uint64pow10", laid_internal_strconv_uint64pow10), ("strconv.ErrRange", laid_strconv_ErrRange), ("strconv.ErrSyntax", laid_strconv_ErrSyntax), ("rollbook/date.lengths", laid_rollbook_date_lengths), ("rollbook/holiday.moves", laid_rollbook_holiday_moves)] }
def VmEvalsSaid : Prop := vmEvalsRow.holds Tryz.pinned (OpenSpec.ofChange vmEvalsSpec)

/-- ITS FALSE NEIGHBOUR: 'it returns false'. Refute it at one input. -/
def vmEvalsWrong : ChangeSpec := { name := "vmEvals", fn := fun _ => fun
  | [d] => { results := [.lit (.bool false)], args := [d] }
  | _ => none }
def VmEvalsWrongFalsely : Prop := vmEvalsRow.holds Tryz.pinned (OpenSpec.ofChange vmEvalsWrong)

/-- 'rollbooklaw19.CarrierRules': WHATEVER THE INPUT: true; the input reads as it did. -/
def carrierRulesSpec : ChangeSpec := { name := "carrierRules", fn := fun _ => fun
  | [d1, d2] => { results := [.lit (.bool true)], args := [d1, d2] }
  | _ => none }
def carrierRulesRow : OpenClaim := { program := "ytjdjdoefppebkaagreatdoor", sum := "f9d84874af8b7ac37c1abee5d46afe626f8562aab7b6bbeae5361196b8427444", func := "rollbook/rollbooklaw19.CarrierRules", spec := "carrierRules", inPlace := ["internal/bytealg.IndexByteString", "internal/bytealg.IndexString"], unfollowed := true, recurses := true, named := ["strconv.ErrSyntax", "strconv.ErrRange", "internal/strconv.uint64pow10", "math/bits.deBruijn32tab", "math/bits.deBruijn64tab", "rollbook/date.lengths", "internal/bytealg.MaxLen", "rollbook/holiday.moves"], plainKeys := false, apart := false, laid := [("math/bits.deBruijn32tab", laid_math_bits_deBruijn32tab), ("math/bits.deBruijn64tab", laid_math_bits_deBruijn64tab), ("internal/strconv.uint64pow10", laid_internal_strconv_uint64pow10), ("strconv.ErrRange", laid_strconv_ErrRange), ("strconv.ErrSyntax", laid_strconv_ErrSyntax), ("rollbook/date.lengths", laid_rollbook_date_lengths), ("rollbook/holiday.moves", laid_rollbook_holiday_moves)] }
def CarrierRulesSaid : Prop := carrierRulesRow.holds Tryz.pinned (OpenSpec.ofChange carrierRulesSpec)

/-- ITS FALSE NEIGHBOUR: 'it returns false'. Refute it at one input. -/
def carrierRulesWrong : ChangeSpec := { name := "carrierRules", fn := fun _ => fun
  | [d1, d2] => { results := [.lit (.bool false)], args := [d1, d2] }
  | _ => none }
def CarrierRulesWrongFalsely : Prop := carrierRulesRow.holds Tryz.pinned (OpenSpec.ofChange carrierRulesWrong)

/-- 'rollbooklaw16.VmKnows': WHATEVER THE INPUT: true; the input reads as it did. -/
def vmKnowsSpec : ChangeSpec := { name := "vmKnows", fn := fun _ => fun
  | [d1, d2, d3, d4] => { results := [.lit (.bool true)], args := [d1, d2, d3, d4] }
  | _ => none }
def vmKnowsRow : OpenClaim := { program := "ytjdjdoefppebkaagreatdoor", sum := "f9d84874af8b7ac37c1abee5d46afe626f8562aab7b6bbeae5361196b8427444", func := "rollbook/rollbooklaw16.VmKnows", spec := "vmKnows", inPlace := ["internal/bytealg.IndexByteString", "internal/bytealg.IndexString"], unfollowed := true, recurses := true, named := ["rollbook/types.fields", "rollbook/date.lengths", "rollbook/holiday.moves", "strconv.ErrSyntax", "strconv.ErrRange", "internal/strconv.uint64pow10", "math/bits.deBruijn32tab", "math/bits.deBruijn64tab", "internal/bytealg.MaxLen"], plainKeys := false, apart := false, laid := [("math/bits.deBruijn32tab", laid_math_bits_deBruijn32tab), ("math/bits.deBruijn64tab", laid_math_bits_deBruijn64tab), ("internal/strconv.uint64pow10", laid_internal_strconv_uint64pow10), ("strconv.ErrRange", laid_strconv_ErrRange), ("strconv.ErrSyntax", laid_strconv_ErrSyntax), ("rollbook/date.lengths", laid_rollbook_date_lengths), ("rollbook/holiday.moves", laid_rollbook_holiday_moves), ("rollbook/types.fields", laid_rollbook_types_fields)] }
def VmKnowsSaid : Prop := vmKnowsRow.holds Tryz.pinned (OpenSpec.ofChange vmKnowsSpec)

/-- ITS FALSE NEIGHBOUR: 'it returns false'. Refute it at one input. -/
def vmKnowsWrong : ChangeSpec := { name := "vmKnows", fn := fun _ => fun
  | [d1, d2, d3, d4] => { results := [.lit (.bool false)], args := [d1, d2, d3, d4] }
  | _ => none }
def VmKnowsWrongFalsely : Prop := vmKnowsRow.holds Tryz.pinned (OpenSpec.ofChange vmKnowsWrong)

/-- 'rollbooklaw16.VmDays': WHATEVER THE INPUT: true; the input reads as it did. -/
def vmDaysSpec : ChangeSpec := { name := "vmDays", fn := fun _ => fun
  | [d1, d2] => { results := [.lit (.bool true)], args := [d1, d2] }
  | _ => none }
def vmDaysRow : OpenClaim := { program := "ytjdjdoefppebkaagreatdoor", sum := "f9d84874af8b7ac37c1abee5d46afe626f8562aab7b6bbeae5361196b8427444", func := "rollbook/rollbooklaw16.VmDays", spec := "vmDays", inPlace := ["internal/bytealg.IndexByteString", "internal/bytealg.IndexString"], unfollowed := true, recurses := true, named := ["rollbook/types.fields", "rollbook/date.lengths", "rollbook/holiday.moves", "strconv.ErrSyntax", "strconv.ErrRange", "internal/strconv.uint64pow10", "math/bits.deBruijn32tab", "math/bits.deBruijn64tab", "internal/bytealg.MaxLen"], plainKeys := false, apart := false, laid := [("math/bits.deBruijn32tab", laid_math_bits_deBruijn32tab), ("math/bits.deBruijn64tab", laid_math_bits_deBruijn64tab), ("internal/strconv.uint64pow10", laid_internal_strconv_uint64pow10), ("strconv.ErrRange", laid_strconv_ErrRange), ("strconv.ErrSyntax", laid_strconv_ErrSyntax), ("rollbook/date.lengths", laid_rollbook_date_lengths), ("rollbook/holiday.moves", laid_rollbook_holiday_moves), ("rollbook/types.fields", laid_rollbook_types_fields)] }
def VmDaysSaid : Prop := vmDaysRow.holds Tryz.pinned (OpenSpec.ofChange vmDaysSpec)

/-- ITS FALSE NEIGHBOUR: 'it returns false'. Refute it at one input. -/
def vmDaysWrong : ChangeSpec := { name := "vmDays", fn := fun _ => fun
  | [d1, d2] => { results := [.lit (.bool false)], args := [d1, d2] }
  | _ => none }
def VmDaysWrongFalsely : Prop := vmDaysRow.holds Tryz.pinned (OpenSpec.ofChange vmDaysWrong)

/-- 'rollbooklaw16.VmFields': WHATEVER THE INPUT: true; the input reads as it did. -/
def vmFieldsSpec : ChangeSpec := { name := "vmFields", fn := fun _ => fun
  | [d1, d2] => { results := [.lit (.bool true)], args := [d1, d2] }
  | _ => none }
def vmFieldsRow : OpenClaim := { program := "ytjdjdoefppebkaagreatdoor", sum := "f9d84874af8b7ac37c1abee5d46afe626f8562aab7b6bbeae5361196b8427444", func := "rollbook/rollbooklaw16.VmFields", spec := "vmFields", inPlace := ["internal/bytealg.IndexByteString", "internal/bytealg.IndexString"], unfollowed := true, recurses := true, named := ["rollbook/types.fields", "rollbook/date.lengths", "rollbook/holiday.moves", "strconv.ErrSyntax", "strconv.ErrRange", "internal/strconv.uint64pow10", "math/bits.deBruijn32tab", "math/bits.deBruijn64tab", "internal/bytealg.MaxLen"], plainKeys := false, apart := false, laid := [("math/bits.deBruijn32tab", laid_math_bits_deBruijn32tab), ("math/bits.deBruijn64tab", laid_math_bits_deBruijn64tab), ("internal/strconv.uint64pow10", laid_internal_strconv_uint64pow10), ("strconv.ErrRange", laid_strconv_ErrRange), ("strconv.ErrSyntax", laid_strconv_ErrSyntax), ("rollbook/date.lengths", laid_rollbook_date_lengths), ("rollbook/holiday.moves", laid_rollbook_holiday_moves), ("rollbook/types.fields", laid_rollbook_types_fields)] }
def VmFieldsSaid : Prop := vmFieldsRow.holds Tryz.pinned (OpenSpec.ofChange vmFieldsSpec)

/-- ITS FALSE NEIGHBOUR: 'it returns false'. Refute it at one input. -/
def vmFieldsWrong : ChangeSpec := { name := "vmFields", fn := fun _ => fun
  | [d1, d2] => { results := [.lit (.bool false)], args := [d1, d2] }
  | _ => none }
def VmFieldsWrongFalsely : Prop := vmFieldsRow.holds Tryz.pinned (OpenSpec.ofChange vmFieldsWrong)

/-- 'rollbooklaw16.VmSources': WHATEVER THE INPUT: true; the input reads as it did. -/
def vmSourcesSpec : ChangeSpec := { name := "vmSources", fn := fun _ => fun
  | [d] => { results := [.lit (.bool true)], args := [d] }
  | _ => none }
def vmSourcesRow : OpenClaim := { program := "ytjdjdoefppebkaagreatdoor", sum := "f9d84874af8b7ac37c1abee5d46afe626f8562aab7b6bbeae5361196b8427444", func := "rollbook/rollbooklaw16.VmSources", spec := "vmSources", inPlace := ["internal/bytealg.IndexByteString", "internal/bytealg.IndexString"], unfollowed := true, recurses := true, named := ["strconv.ErrSyntax", "strconv.ErrRange", "internal/strconv.uint64pow10", "math/bits.deBruijn32tab", "math/bits.deBruijn64tab", "rollbook/date.lengths", "internal/bytealg.MaxLen", "rollbook/holiday.moves", "rollbook/types.fields"], plainKeys := false, apart := false, laid := [("math/bits.deBruijn32tab", laid_math_bits_deBruijn32tab), ("math/bits.deBruijn64tab", laid_math_bits_deBruijn64tab), ("internal/strconv.uint64pow10", laid_internal_strconv_uint64pow10), ("strconv.ErrRange", laid_strconv_ErrRange), ("strconv.ErrSyntax", laid_strconv_ErrSyntax), ("rollbook/date.lengths", laid_rollbook_date_lengths), ("rollbook/holiday.moves", laid_rollbook_holiday_moves), ("rollbook/types.fields", laid_rollbook_types_fields)] }
def VmSourcesSaid : Prop := vmSourcesRow.holds Tryz.pinned (OpenSpec.ofChange vmSourcesSpec)

/-- ITS FALSE NEIGHBOUR: 'it returns false'. Refute it at one input. -/
def vmSourcesWrong : ChangeSpec := { name := "vmSources", fn := fun _ => fun
  | [d] => { results := [.lit (.bool false)], args := [d] }
  | _ => none }
def VmSourcesWrongFalsely : Prop := vmSourcesRow.holds Tryz.pinned (OpenSpec.ofChange vmSourcesWrong)

/-- 'rollbooklaw16.VmAgrees': WHATEVER THE INPUT: true; the input reads as it did. -/
def vmAgreesSpec : ChangeSpec := { name := "vmAgrees", fn := fun _ => fun
  | [d] => { results := [.lit (.bool true)], args := [d] }
  | _ => none }
def vmAgreesRow : OpenClaim := { program := "ytjdjdoefppebkaagreatdoor", sum := "f9d84874af8b7ac37c1abee5d46afe626f8562aab7b6bbeae5361196b8427444", func := "rollbook/rollbooklaw16.VmAgrees", spec := "vmAgrees", inPlace := ["internal/bytealg.IndexByteString", "internal/bytealg.IndexString"], unfollowed := true, recurses := true, named := ["rollbook/types.fields", "rollbook/date.lengths", "rollbook/holiday.moves", "strconv.ErrSyntax", "strconv.ErrRange", "internal/strconv.uint64pow10", "math/bits.deBruijn32tab", "math/bits.deBruijn64tab", "internal/bytealg.MaxLen"], plainKeys := false, apart := false, laid := [("math/bits.deBruijn32tab", laid_math_bits_deBruijn32tab), ("math/bits.deBruijn64tab", laid_math_bits_deBruijn64tab), ("internal/strconv.uint64pow10", laid_internal_strconv_uint64pow10), ("strconv.ErrRange", laid_strconv_ErrRange), ("strconv.ErrSyntax", laid_strconv_ErrSyntax), ("rollbook/date.lengths", laid_rollbook_date_lengths), ("rollbook/holiday.moves", laid_rollbook_holiday_moves), ("rollbook/types.fields", laid_rollbook_types_fields)] }
def VmAgreesSaid : Prop := vmAgreesRow.holds Tryz.pinned (OpenSpec.ofChange vmAgreesSpec)

/-- ITS FALSE NEIGHBOUR: 'it returns false'. Refute it at one input. -/
def vmAgreesWrong : ChangeSpec := { name := "vmAgrees", fn := fun _ => fun
  | [d] => { results := [.lit (.bool false)], args := [d] }
  | _ => none }
def VmAgreesWrongFalsely : Prop := vmAgreesRow.holds Tryz.pinned (OpenSpec.ofChange vmAgreesWrong)

/- THE SECOND FORM. 'bulk': how many values and letters a reading holds, each counted each time it is reached (what is shared counts as often as it is met; a slice's spare places count too). A statement '..UptoSaid' is the law's where the arguments, and the package variables that the reading takes, are together of bulk at most 1048576: NARROWER than '..Said'. Prove '..Said' where nothing that the law and all that it calls make is longer than what came in: it says more and counts as full. Else prove '..UptoSaid'. A law counts once. -/
mutual
def uptoBulk {H : Type} : DataW H → Nat
  | .lit (.string bytes) => bytes.length + 1
  | .lit _ => 1
  | .nil => 1
  | .ptr d => uptoBulk d + 1
  | .slice elems spare => uptoBulkAll elems + uptoBulkAll spare + 1
  | .agg parts => uptoBulkAll parts + 1
  | .iface _ d => uptoBulk d + 1
  | .map entries => uptoBulkEntries entries + 1
  | .held _ => 1
def uptoBulkAll {H : Type} : List (DataW H) → Nat
  | [] => 0
  | d :: r => uptoBulk d + uptoBulkAll r
def uptoBulkEntries {H : Type} : List (Lit × DataW H) → Nat
  | [] => 0
  | x :: r => uptoBulkEntry x + uptoBulkEntries r
def uptoBulkEntry {H : Type} : Lit × DataW H → Nat
  | (.string bytes, d) => bytes.length + uptoBulk d + 1
  | (_, d) => uptoBulk d + 1
 end
def uptoSmall : (H : Type) → List (DataW H) → Bool := fun _ ds => decide (uptoBulkAll ds ≤ 1048576)
def OpenSpec.upto (s : _root_.Go.ChangeSpec) : _root_.Go.OpenSpec := { _root_.Go.OpenSpec.ofChange s with cond := some uptoSmall }

/-- 'rollbooklaw16.VmRuns', WHERE WHAT IT READS IS OF BULK AT MOST 1048576: true; the input reads as it did. -/
def vmRunsUptoRow : OpenClaim := { program := "ytjdjdoefppebkaagreatdoor", sum := "f9d84874af8b7ac37c1abee5d46afe626f8562aab7b6bbeae5361196b8427444", func := "rollbook/rollbooklaw16.VmRuns", spec := "vmRuns", inPlace := ["internal/bytealg.IndexByteString", "internal/bytealg.IndexString"], unfollowed := true, recurses := true, named := ["rollbook/date.lengths", "rollbook/holiday.moves", "strconv.ErrSyntax", "strconv.ErrRange", "internal/strconv.uint64pow10", "math/bits.deBruijn32tab", "math/bits.deBruijn64tab", "internal/bytealg.MaxLen"], plainKeys := false, apart := false, laid := [("math/bits.deBruijn32tab", laid_math_bits_deBruijn32tab), ("math/bits.deBruijn64tab", laid_math_bits_deBruijn64tab), ("internal/strconv.uint64pow10", laid_internal_strconv_uint64pow10), ("strconv.ErrRange", laid_strconv_ErrRange), ("strconv.ErrSyntax", laid_strconv_ErrSyntax), ("rollbook/date.lengths", laid_rollbook_date_lengths), ("rollbook/holiday.moves", laid_rollbook_holiday_moves)], narrowed := true }
def VmRunsUptoSaid : Prop := vmRunsUptoRow.holds Tryz.pinned (OpenSpec.upto vmRunsSpec)

/-- 'rollbooklaw16.VmCodes', WHERE WHAT IT READS IS OF BULK AT MOST 1048576: true; the input reads as it did. -/
def vmCodesUptoRow : OpenClaim := { program := "ytjdjdoefppebkaagreatdoor", sum := "f9d84874af8b7ac37c1abee5d46afe626f8562aab7b6bbeae5361196b8427444", func := "rollbook/rollbooklaw16.VmCodes", spec := "vmCodes", inPlace := ["internal/bytealg.IndexByteString", "internal/bytealg.IndexString"], unfollowed := true, recurses := true, named := ["rollbook/date.lengths", "rollbook/holiday.moves", "strconv.ErrSyntax", "strconv.ErrRange", "internal/strconv.uint64pow10", "math/bits.deBruijn32tab", "math/bits.deBruijn64tab", "internal/bytealg.MaxLen"], plainKeys := false, apart := false, laid := [("math/bits.deBruijn32tab", laid_math_bits_deBruijn32tab), ("math/bits.deBruijn64tab", laid_math_bits_deBruijn64tab), ("internal/strconv.uint64pow10", laid_internal_strconv_uint64pow10), ("strconv.ErrRange", laid_strconv_ErrRange), ("strconv.ErrSyntax", laid_strconv_ErrSyntax), ("rollbook/date.lengths", laid_rollbook_date_lengths), ("rollbook/holiday.moves", laid_rollbook_holiday_moves)], narrowed := true }
def VmCodesUptoSaid : Prop := vmCodesUptoRow.holds Tryz.pinned (OpenSpec.upto vmCodesSpec)

/-- 'rollbooklaw16.VmEvals', WHERE WHAT IT READS IS OF BULK AT MOST 1048576: true; the input reads as it did. -/
def vmEvalsUptoRow : OpenClaim := { program := "ytjdjdoefppebkaagreatdoor", sum := "f9d84874af8b7ac37c1abee5d46afe626f8562aab7b6bbeae5361196b8427444", func := "rollbook/rollbooklaw16.VmEvals", spec := "vmEvals", inPlace := ["internal/bytealg.IndexByteString", "internal/bytealg.IndexString"], unfollowed := true, recurses := true, named := ["rollbook/date.lengths", "rollbook/holiday.moves", "strconv.ErrSyntax", "strconv.ErrRange", "internal/strconv.uint64pow10", "math/bits.deBruijn32tab", "math/bits.deBruijn64tab", "internal/bytealg.MaxLen"], plainKeys := false, apart := false, laid := [("math/bits.deBruijn32tab", laid_math_bits_deBruijn32tab), ("math/bits.deBruijn64tab", laid_math_bits_deBruijn64tab), ("internal/strconv.uint64pow10", laid_internal_strconv_uint64pow10), ("strconv.ErrRange", laid_strconv_ErrRange), ("strconv.ErrSyntax", laid_strconv_ErrSyntax), ("rollbook/date.lengths", laid_rollbook_date_lengths), ("rollbook/holiday.moves", laid_rollbook_holiday_moves)], narrowed := true }
def VmEvalsUptoSaid : Prop := vmEvalsUptoRow.holds Tryz.pinned (OpenSpec.upto vmEvalsSpec)

/-- 'rollbooklaw19.CarrierRules', WHERE WHAT IT READS IS OF BULK AT MOST 1048576: true; the input reads as it did. -/
def carrierRulesUptoRow : OpenClaim := { program := "ytjdjdoefppebkaagreatdoor", sum := "f9d84874af8b7ac37c1abee5d46afe626f8562aab7b6bbeae5361196b8427444", func := "rollbook/rollbooklaw19.CarrierRules", spec := "carrierRules", inPlace := ["internal/bytealg.IndexByteString", "internal/bytealg.IndexString"], unfollowed := true, recurses := true, named := ["strconv.ErrSyntax", "strconv.ErrRange", "internal/strconv.uint64pow10", "math/bits.deBruijn32tab", "math/bits.deBruijn64tab", "rollbook/date.lengths", "internal/bytealg.MaxLen", "rollbook/holiday.moves"], plainKeys := false, apart := false, laid := [("math/bits.deBruijn32tab", laid_math_bits_deBruijn32tab), ("math/bits.deBruijn64tab", laid_math_bits_deBruijn64tab), ("internal/strconv.uint64pow10", laid_internal_strconv_uint64pow10), ("strconv.ErrRange", laid_strconv_ErrRange), ("strconv.ErrSyntax", laid_strconv_ErrSyntax), ("rollbook/date.lengths", laid_rollbook_date_lengths), ("rollbook/holiday.moves", laid_rollbook_holiday_moves)], narrowed := true }
def CarrierRulesUptoSaid : Prop := carrierRulesUptoRow.holds Tryz.pinned (OpenSpec.upto carrierRulesSpec)

/-- 'rollbooklaw16.VmKnows', WHERE WHAT IT READS IS OF BULK AT MOST 1048576: true; the input reads as it did. -/
def vmKnowsUptoRow : OpenClaim := { program := "ytjdjdoefppebkaagreatdoor", sum := "f9d84874af8b7ac37c1abee5d46afe626f8562aab7b6bbeae5361196b8427444", func := "rollbook/rollbooklaw16.VmKnows", spec := "vmKnows", inPlace := ["internal/bytealg.IndexByteString", "internal/bytealg.IndexString"], unfollowed := true, recurses := true, named := ["rollbook/types.fields", "rollbook/date.lengths", "rollbook/holiday.moves", "strconv.ErrSyntax", "strconv.ErrRange", "internal/strconv.uint64pow10", "math/bits.deBruijn32tab", "math/bits.deBruijn64tab", "internal/bytealg.MaxLen"], plainKeys := false, apart := false, laid := [("math/bits.deBruijn32tab", laid_math_bits_deBruijn32tab), ("math/bits.deBruijn64tab", laid_math_bits_deBruijn64tab), ("internal/strconv.uint64pow10", laid_internal_strconv_uint64pow10), ("strconv.ErrRange", laid_strconv_ErrRange), ("strconv.ErrSyntax", laid_strconv_ErrSyntax), ("rollbook/date.lengths", laid_rollbook_date_lengths), ("rollbook/holiday.moves", laid_rollbook_holiday_moves), ("rollbook/types.fields", laid_rollbook_types_fields)], narrowed := true }
def VmKnowsUptoSaid : Prop := vmKnowsUptoRow.holds Tryz.pinned (OpenSpec.upto vmKnowsSpec)

/-- 'rollbooklaw16.VmDays', WHERE WHAT IT READS IS OF BULK AT MOST 1048576: true; the input reads as it did. -/
def vmDaysUptoRow : OpenClaim := { program := "ytjdjdoefppebkaagreatdoor", sum := "f9d84874af8b7ac37c1abee5d46afe626f8562aab7b6bbeae5361196b8427444", func := "rollbook/rollbooklaw16.VmDays", spec := "vmDays", inPlace := ["internal/bytealg.IndexByteString", "internal/bytealg.IndexString"], unfollowed := true, recurses := true, named := ["rollbook/types.fields", "rollbook/date.lengths", "rollbook/holiday.moves", "strconv.ErrSyntax", "strconv.ErrRange", "internal/strconv.uint64pow10", "math/bits.deBruijn32tab", "math/bits.deBruijn64tab", "internal/bytealg.MaxLen"], plainKeys := false, apart := false, laid := [("math/bits.deBruijn32tab", laid_math_bits_deBruijn32tab), ("math/bits.deBruijn64tab", laid_math_bits_deBruijn64tab), ("internal/strconv.uint64pow10", laid_internal_strconv_uint64pow10), ("strconv.ErrRange", laid_strconv_ErrRange), ("strconv.ErrSyntax", laid_strconv_ErrSyntax), ("rollbook/date.lengths", laid_rollbook_date_lengths), ("rollbook/holiday.moves", laid_rollbook_holiday_moves), ("rollbook/types.fields", laid_rollbook_types_fields)], narrowed := true }
def VmDaysUptoSaid : Prop := vmDaysUptoRow.holds Tryz.pinned (OpenSpec.upto vmDaysSpec)

/-- 'rollbooklaw16.VmFields', WHERE WHAT IT READS IS OF BULK AT MOST 1048576: true; the input reads as it did. -/
def vmFieldsUptoRow : OpenClaim := { program := "ytjdjdoefppebkaagreatdoor", sum := "f9d84874af8b7ac37c1abee5d46afe626f8562aab7b6bbeae5361196b8427444", func := "rollbook/rollbooklaw16.VmFields", spec := "vmFields", inPlace := ["internal/bytealg.IndexByteString", "internal/bytealg.IndexString"], unfollowed := true, recurses := true, named := ["rollbook/types.fields", "rollbook/date.lengths", "rollbook/holiday.moves", "strconv.ErrSyntax", "strconv.ErrRange", "internal/strconv.uint64pow10", "math/bits.deBruijn32tab", "math/bits.deBruijn64tab", "internal/bytealg.MaxLen"], plainKeys := false, apart := false, laid := [("math/bits.deBruijn32tab", laid_math_bits_deBruijn32tab), ("math/bits.deBruijn64tab", laid_math_bits_deBruijn64tab), ("internal/strconv.uint64pow10", laid_internal_strconv_uint64pow10), ("strconv.ErrRange", laid_strconv_ErrRange), ("strconv.ErrSyntax", laid_strconv_ErrSyntax), ("rollbook/date.lengths", laid_rollbook_date_lengths), ("rollbook/holiday.moves", laid_rollbook_holiday_moves), ("rollbook/types.fields", laid_rollbook_types_fields)], narrowed := true }
def VmFieldsUptoSaid : Prop := vmFieldsUptoRow.holds Tryz.pinned (OpenSpec.upto vmFieldsSpec)

/-- 'rollbooklaw16.VmSources', WHERE WHAT IT READS IS OF BULK AT MOST 1048576: true; the input reads as it did. -/
def vmSourcesUptoRow : OpenClaim := { program := "ytjdjdoefppebkaagreatdoor", sum := "f9d84874af8b7ac37c1abee5d46afe626f8562aab7b6bbeae5361196b8427444", func := "rollbook/rollbooklaw16.VmSources", spec := "vmSources", inPlace := ["internal/bytealg.IndexByteString", "internal/bytealg.IndexString"], unfollowed := true, recurses := true, named := ["strconv.ErrSyntax", "strconv.ErrRange", "internal/strconv.uint64pow10", "math/bits.deBruijn32tab", "math/bits.deBruijn64tab", "rollbook/date.lengths", "internal/bytealg.MaxLen", "rollbook/holiday.moves", "rollbook/types.fields"], plainKeys := false, apart := false, laid := [("math/bits.deBruijn32tab", laid_math_bits_deBruijn32tab), ("math/bits.deBruijn64tab", laid_math_bits_deBruijn64tab), ("internal/strconv.uint64pow10", laid_internal_strconv_uint64pow10), ("strconv.ErrRange", laid_strconv_ErrRange), ("strconv.ErrSyntax", laid_strconv_ErrSyntax), ("rollbook/date.lengths", laid_rollbook_date_lengths), ("rollbook/holiday.moves", laid_rollbook_holiday_moves), ("rollbook/types.fields", laid_rollbook_types_fields)], narrowed := true }
def VmSourcesUptoSaid : Prop := vmSourcesUptoRow.holds Tryz.pinned (OpenSpec.upto vmSourcesSpec)

/-- 'rollbooklaw16.VmAgrees', WHERE WHAT IT READS IS OF BULK AT MOST 1048576: true; the input reads as it did. -/
def vmAgreesUptoRow : OpenClaim := { program := "ytjdjdoefppebkaagreatdoor", sum := "f9d84874af8b7ac37c1abee5d46afe626f8562aab7b6bbeae5361196b8427444", func := "rollbook/rollbooklaw16.VmAgrees", spec := "vmAgrees", inPlace := ["internal/bytealg.IndexByteString", "internal/bytealg.IndexString"], unfollowed := true, recurses := true, named := ["rollbook/types.fields", "rollbook/date.lengths", "rollbook/holiday.moves", "strconv.ErrSyntax", "strconv.ErrRange", "internal/strconv.uint64pow10", "math/bits.deBruijn32tab", "math/bits.deBruijn64tab", "internal/bytealg.MaxLen"], plainKeys := false, apart := false, laid := [("math/bits.deBruijn32tab", laid_math_bits_deBruijn32tab), ("math/bits.deBruijn64tab", laid_math_bits_deBruijn64tab), ("internal/strconv.uint64pow10", laid_internal_strconv_uint64pow10), ("strconv.ErrRange", laid_strconv_ErrRange), ("strconv.ErrSyntax", laid_strconv_ErrSyntax), ("rollbook/date.lengths", laid_rollbook_date_lengths), ("rollbook/holiday.moves", laid_rollbook_holiday_moves), ("rollbook/types.fields", laid_rollbook_types_fields)], narrowed := true }
def VmAgreesUptoSaid : Prop := vmAgreesUptoRow.holds Tryz.pinned (OpenSpec.upto vmAgreesSpec)

end Rows
end Go.Proofs.YtjdjdoefppebkaaGreatDoor
