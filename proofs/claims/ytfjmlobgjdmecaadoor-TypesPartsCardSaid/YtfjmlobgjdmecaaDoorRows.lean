/-
  NARROWER THAN 'FOR EVERY INPUT', by the rows' own cells (each row's printed sentence says how): CompileExpressions: loops, laid · CompileVerifies: laid · CompileWalks: laid · CompileParts: laid · CompileRules: laid · CompileChecks: laid · TypesOf: loops, laid · TypesLeaves: laid · TypesNests: laid · TypesCheck: loops, laid · TypesUses: loops, laid · TypesParts: loops, laid.
  DERIVED. THE GIVEN ROWS OF THIS SEAT. 12 by the template 'for every input the law returns true; each argument reads behind the call as it read before'; 0 by the template 'total and deterministic' (their statements: YtfjmlobgjdmecaaDoorTotals.lean).
  GIVEN WITH THE SEED: the statements are not yours to turn. If you find one false, say at which input.
  Laid BY PROGRAM, IN A SANDBOX (cutbox-rows.mjs): the forced cells as the released guide's own fill.sh prints them over the translation 31978849173b7110… (all of the seat's roots in one cut). By AI agents, Wed Nov 11 2026. No macro, syntax, notation, axiom, sorry.
-/
import Derived.Test.YtfjmlobgjdmecaaDoorChecked
import GoSem.Claim
import GoSem.ClaimJoined
import GoSem.ClaimMapViews
import Derived.JoinedTies
import Derived.KernelRfl
namespace Go.Proofs.YtfjmlobgjdmecaaDoor
/- THE CELL 'sum', in the pinned program and in every row, IS THE sha256 OF THE DUMP (.gsa) THAT YtfjmlobgjdmecaaDoorProg.lean LOADS. Nothing in Lean hashes anything: it is a label: what it is worth is what the hold of that sum in a sandbox is worth. -/
noncomputable def Tryd.pinned : Pinned := { name := "ytfjmlobgjdmecaadoor", sum := "31978849173b71103f0090bf921ed613c7eb234e07eedec4d64cdd95976aa655", checked := Tryd.checked }
namespace Rows
def none {H : Type} : Left H := { results := [], args := [] }

/- WHAT THE LISTED PACKAGE-LEVEL VARIABLES READ AS WHEN THE CALL BEGINS. Each datum BY PROGRAM (the guide's laid-datum.mjs) off the statement by which the dump's own 'gosem.cut.vars' lays the variable. In a bare row this is a premise. The card (YtfjmlobgjdmecaaDoorCards.lean) ties it to the program's text. -/
def laid_rollbook_types_fields {H : Type} : DataW H := .agg [.lit (.string [100, 97, 121]), .lit (.string [115, 101, 114, 118, 101, 100]), .lit (.string [101, 120, 116, 114, 97]), .lit (.string [98, 121]), .lit (.string [116, 111]), .lit (.string [99, 111, 117, 114, 116]), .lit (.string [97, 109, 111, 117, 110, 116])]

/-- 'rollbooklaw15.CompileExpressions': WHATEVER THE INPUT: true; the input reads as it did. -/
def compileExpressionsSpec : ChangeSpec := { name := "compileExpressions", fn := fun _ => fun
  | [d1, d2, d3] => { results := [.lit (.bool true)], args := [d1, d2, d3] }
  | _ => none }
def compileExpressionsRow : OpenClaim := { program := "ytfjmlobgjdmecaadoor", sum := "31978849173b71103f0090bf921ed613c7eb234e07eedec4d64cdd95976aa655", func := "rollbook/rollbooklaw15.CompileExpressions", spec := "compileExpressions", unfollowed := true, recurses := true, named := ["rollbook/types.fields"], loops := true, plainKeys := false, apart := false, laid := [("rollbook/types.fields", laid_rollbook_types_fields)] }
def CompileExpressionsSaid : Prop := compileExpressionsRow.holds Tryd.pinned (OpenSpec.ofChange compileExpressionsSpec)

/-- ITS FALSE NEIGHBOUR: 'it returns false'. Refute it at one input. -/
def compileExpressionsWrong : ChangeSpec := { name := "compileExpressions", fn := fun _ => fun
  | [d1, d2, d3] => { results := [.lit (.bool false)], args := [d1, d2, d3] }
  | _ => none }
def CompileExpressionsWrongFalsely : Prop := compileExpressionsRow.holds Tryd.pinned (OpenSpec.ofChange compileExpressionsWrong)

/-- 'rollbooklaw15.CompileVerifies': WHATEVER THE INPUT: true; the input reads as it did. -/
def compileVerifiesSpec : ChangeSpec := { name := "compileVerifies", fn := fun _ => fun
  | [d] => { results := [.lit (.bool true)], args := [d] }
  | _ => none }
def compileVerifiesRow : OpenClaim := { program := "ytfjmlobgjdmecaadoor", sum := "31978849173b71103f0090bf921ed613c7eb234e07eedec4d64cdd95976aa655", func := "rollbook/rollbooklaw15.CompileVerifies", spec := "compileVerifies", unfollowed := true, recurses := true, named := ["rollbook/types.fields"], plainKeys := false, apart := false, laid := [("rollbook/types.fields", laid_rollbook_types_fields)] }
def CompileVerifiesSaid : Prop := compileVerifiesRow.holds Tryd.pinned (OpenSpec.ofChange compileVerifiesSpec)

/-- ITS FALSE NEIGHBOUR: 'it returns false'. Refute it at one input. -/
def compileVerifiesWrong : ChangeSpec := { name := "compileVerifies", fn := fun _ => fun
  | [d] => { results := [.lit (.bool false)], args := [d] }
  | _ => none }
def CompileVerifiesWrongFalsely : Prop := compileVerifiesRow.holds Tryd.pinned (OpenSpec.ofChange compileVerifiesWrong)

/-- 'rollbooklaw15.CompileWalks': WHATEVER THE INPUT: true; the input reads as it did. -/
def compileWalksSpec : ChangeSpec := { name := "compileWalks", fn := fun _ => fun
  | [d1, d2, d3, d4] => { results := [.lit (.bool true)], args := [d1, d2, d3, d4] }
  | _ => none }
def compileWalksRow : OpenClaim := { program := "ytfjmlobgjdmecaadoor", sum := "31978849173b71103f0090bf921ed613c7eb234e07eedec4d64cdd95976aa655", func := "rollbook/rollbooklaw15.CompileWalks", spec := "compileWalks", unfollowed := true, recurses := true, named := ["rollbook/types.fields"], plainKeys := false, apart := false, laid := [("rollbook/types.fields", laid_rollbook_types_fields)] }
def CompileWalksSaid : Prop := compileWalksRow.holds Tryd.pinned (OpenSpec.ofChange compileWalksSpec)

/-- ITS FALSE NEIGHBOUR: 'it returns false'. Refute it at one input. -/
def compileWalksWrong : ChangeSpec := { name := "compileWalks", fn := fun _ => fun
  | [d1, d2, d3, d4] => { results := [.lit (.bool false)], args := [d1, d2, d3, d4] }
  | _ => none }
def CompileWalksWrongFalsely : Prop := compileWalksRow.holds Tryd.pinned (OpenSpec.ofChange compileWalksWrong)

/-- 'rollbooklaw15.CompileParts': WHATEVER THE INPUT: true; the input reads as it did. -/
def compilePartsSpec : ChangeSpec := { name := "compileParts", fn := fun _ => fun
  | [d1, d2, d3] => { results := [.lit (.bool true)], args := [d1, d2, d3] }
  | _ => none }
def compilePartsRow : OpenClaim := { program := "ytfjmlobgjdmecaadoor", sum := "31978849173b71103f0090bf921ed613c7eb234e07eedec4d64cdd95976aa655", func := "rollbook/rollbooklaw15.CompileParts", spec := "compileParts", unfollowed := true, recurses := true, named := ["rollbook/types.fields"], plainKeys := false, apart := false, laid := [("rollbook/types.fields", laid_rollbook_types_fields)] }
def CompilePartsSaid : Prop := compilePartsRow.holds Tryd.pinned (OpenSpec.ofChange compilePartsSpec)

/-- ITS FALSE NEIGHBOUR: 'it returns false'. Refute it at one input. -/
def compilePartsWrong : ChangeSpec := { name := "compileParts", fn := fun _ => fun
  | [d1, d2, d3] => { results := [.lit (.bool false)], args := [d1, d2, d3] }
  | _ => none }
def CompilePartsWrongFalsely : Prop := compilePartsRow.holds Tryd.pinned (OpenSpec.ofChange compilePartsWrong)

/-- 'rollbooklaw15.CompileRules': WHATEVER THE INPUT: true; the input reads as it did. -/
def compileRulesSpec : ChangeSpec := { name := "compileRules", fn := fun _ => fun
  | [d1, d2, d3, d4] => { results := [.lit (.bool true)], args := [d1, d2, d3, d4] }
  | _ => none }
def compileRulesRow : OpenClaim := { program := "ytfjmlobgjdmecaadoor", sum := "31978849173b71103f0090bf921ed613c7eb234e07eedec4d64cdd95976aa655", func := "rollbook/rollbooklaw15.CompileRules", spec := "compileRules", inPlace := ["internal/bytealg.IndexByteString", "internal/bytealg.IndexString"], unfollowed := true, recurses := true, named := ["rollbook/types.fields", "internal/bytealg.MaxLen"], plainKeys := false, apart := false, laid := [("rollbook/types.fields", laid_rollbook_types_fields)] }
def CompileRulesSaid : Prop := compileRulesRow.holds Tryd.pinned (OpenSpec.ofChange compileRulesSpec)

/-- ITS FALSE NEIGHBOUR: 'it returns false'. Refute it at one input. -/
def compileRulesWrong : ChangeSpec := { name := "compileRules", fn := fun _ => fun
  | [d1, d2, d3, d4] => { results := [.lit (.bool false)], args := [d1, d2, d3, d4] }
  | _ => none }
def CompileRulesWrongFalsely : Prop := compileRulesRow.holds Tryd.pinned (OpenSpec.ofChange compileRulesWrong)

/-- 'rollbooklaw15.CompileChecks': WHATEVER THE INPUT: true; the input reads as it did. -/
def compileChecksSpec : ChangeSpec := { name := "compileChecks", fn := fun _ => fun
  | [d] => { results := [.lit (.bool true)], args := [d] }
  | _ => none }
def compileChecksRow : OpenClaim := { program := "ytfjmlobgjdmecaadoor", sum := "31978849173b71103f0090bf921ed613c7eb234e07eedec4d64cdd95976aa655", func := "rollbook/rollbooklaw15.CompileChecks", spec := "compileChecks", inPlace := ["internal/bytealg.IndexByteString", "internal/bytealg.IndexString"], unfollowed := true, recurses := true, named := ["rollbook/types.fields", "internal/bytealg.MaxLen"], plainKeys := false, apart := false, laid := [("rollbook/types.fields", laid_rollbook_types_fields)] }
def CompileChecksSaid : Prop := compileChecksRow.holds Tryd.pinned (OpenSpec.ofChange compileChecksSpec)

/-- ITS FALSE NEIGHBOUR: 'it returns false'. Refute it at one input. -/
def compileChecksWrong : ChangeSpec := { name := "compileChecks", fn := fun _ => fun
  | [d] => { results := [.lit (.bool false)], args := [d] }
  | _ => none }
def CompileChecksWrongFalsely : Prop := compileChecksRow.holds Tryd.pinned (OpenSpec.ofChange compileChecksWrong)

/-- 'rollbooklaw14.TypesOf': WHATEVER THE INPUT: true; the input reads as it did. -/
def typesOfSpec : ChangeSpec := { name := "typesOf", fn := fun _ => fun
  | [d1, d2, d3, d4, d5] => { results := [.lit (.bool true)], args := [d1, d2, d3, d4, d5] }
  | _ => none }
def typesOfRow : OpenClaim := { program := "ytfjmlobgjdmecaadoor", sum := "31978849173b71103f0090bf921ed613c7eb234e07eedec4d64cdd95976aa655", func := "rollbook/rollbooklaw14.TypesOf", spec := "typesOf", inPlace := ["internal/bytealg.IndexByteString", "internal/bytealg.IndexString"], recurses := true, named := ["rollbook/types.fields", "internal/bytealg.MaxLen"], loops := true, plainKeys := false, apart := false, laid := [("rollbook/types.fields", laid_rollbook_types_fields)] }
def TypesOfSaid : Prop := typesOfRow.holds Tryd.pinned (OpenSpec.ofChange typesOfSpec)

/-- ITS FALSE NEIGHBOUR: 'it returns false'. Refute it at one input. -/
def typesOfWrong : ChangeSpec := { name := "typesOf", fn := fun _ => fun
  | [d1, d2, d3, d4, d5] => { results := [.lit (.bool false)], args := [d1, d2, d3, d4, d5] }
  | _ => none }
def TypesOfWrongFalsely : Prop := typesOfRow.holds Tryd.pinned (OpenSpec.ofChange typesOfWrong)

/-- 'rollbooklaw14.TypesLeaves': WHATEVER THE INPUT: true; the input reads as it did. -/
def typesLeavesSpec : ChangeSpec := { name := "typesLeaves", fn := fun _ => fun
  | [d1, d2, d3, d4, d5] => { results := [.lit (.bool true)], args := [d1, d2, d3, d4, d5] }
  | _ => none }
def typesLeavesRow : OpenClaim := { program := "ytfjmlobgjdmecaadoor", sum := "31978849173b71103f0090bf921ed613c7eb234e07eedec4d64cdd95976aa655", func := "rollbook/rollbooklaw14.TypesLeaves", spec := "typesLeaves", inPlace := ["internal/bytealg.IndexByteString", "internal/bytealg.IndexString"], recurses := true, named := ["rollbook/types.fields", "internal/bytealg.MaxLen"], plainKeys := false, apart := false, laid := [("rollbook/types.fields", laid_rollbook_types_fields)] }
def TypesLeavesSaid : Prop := typesLeavesRow.holds Tryd.pinned (OpenSpec.ofChange typesLeavesSpec)

/-- ITS FALSE NEIGHBOUR: 'it returns false'. Refute it at one input. -/
def typesLeavesWrong : ChangeSpec := { name := "typesLeaves", fn := fun _ => fun
  | [d1, d2, d3, d4, d5] => { results := [.lit (.bool false)], args := [d1, d2, d3, d4, d5] }
  | _ => none }
def TypesLeavesWrongFalsely : Prop := typesLeavesRow.holds Tryd.pinned (OpenSpec.ofChange typesLeavesWrong)

/-- 'rollbooklaw14.TypesNests': WHATEVER THE INPUT: true; the input reads as it did. -/
def typesNestsSpec : ChangeSpec := { name := "typesNests", fn := fun _ => fun
  | [d1, d2, d3] => { results := [.lit (.bool true)], args := [d1, d2, d3] }
  | _ => none }
def typesNestsRow : OpenClaim := { program := "ytfjmlobgjdmecaadoor", sum := "31978849173b71103f0090bf921ed613c7eb234e07eedec4d64cdd95976aa655", func := "rollbook/rollbooklaw14.TypesNests", spec := "typesNests", inPlace := ["internal/bytealg.IndexByteString", "internal/bytealg.IndexString"], recurses := true, named := ["rollbook/types.fields", "internal/bytealg.MaxLen"], plainKeys := false, apart := false, laid := [("rollbook/types.fields", laid_rollbook_types_fields)] }
def TypesNestsSaid : Prop := typesNestsRow.holds Tryd.pinned (OpenSpec.ofChange typesNestsSpec)

/-- ITS FALSE NEIGHBOUR: 'it returns false'. Refute it at one input. -/
def typesNestsWrong : ChangeSpec := { name := "typesNests", fn := fun _ => fun
  | [d1, d2, d3] => { results := [.lit (.bool false)], args := [d1, d2, d3] }
  | _ => none }
def TypesNestsWrongFalsely : Prop := typesNestsRow.holds Tryd.pinned (OpenSpec.ofChange typesNestsWrong)

/-- 'rollbooklaw14.TypesCheck': WHATEVER THE INPUT: true; the input reads as it did. -/
def typesCheckSpec : ChangeSpec := { name := "typesCheck", fn := fun _ => fun
  | [d1, d2, d3, d4, d5] => { results := [.lit (.bool true)], args := [d1, d2, d3, d4, d5] }
  | _ => none }
def typesCheckRow : OpenClaim := { program := "ytfjmlobgjdmecaadoor", sum := "31978849173b71103f0090bf921ed613c7eb234e07eedec4d64cdd95976aa655", func := "rollbook/rollbooklaw14.TypesCheck", spec := "typesCheck", inPlace := ["internal/bytealg.IndexByteString", "internal/bytealg.IndexString"], recurses := true, named := ["rollbook/types.fields", "internal/bytealg.MaxLen"], loops := true, plainKeys := false, apart := false, laid := [("rollbook/types.fields", laid_rollbook_types_fields)] }
def TypesCheckSaid : Prop := typesCheckRow.holds Tryd.pinned (OpenSpec.ofChange typesCheckSpec)

/-- ITS FALSE NEIGHBOUR: 'it returns false'. Refute it at one input. -/
def typesCheckWrong : ChangeSpec := { name := "typesCheck", fn := fun _ => fun
  | [d1, d2, d3, d4, d5] => { results := [.lit (.bool false)], args := [d1, d2, d3, d4, d5] }
  | _ => none }
def TypesCheckWrongFalsely : Prop := typesCheckRow.holds Tryd.pinned (OpenSpec.ofChange typesCheckWrong)

/-- 'rollbooklaw14.TypesUses': WHATEVER THE INPUT: true; the input reads as it did. -/
def typesUsesSpec : ChangeSpec := { name := "typesUses", fn := fun _ => fun
  | [d1, d2, d3] => { results := [.lit (.bool true)], args := [d1, d2, d3] }
  | _ => none }
def typesUsesRow : OpenClaim := { program := "ytfjmlobgjdmecaadoor", sum := "31978849173b71103f0090bf921ed613c7eb234e07eedec4d64cdd95976aa655", func := "rollbook/rollbooklaw14.TypesUses", spec := "typesUses", inPlace := ["internal/bytealg.IndexByteString", "internal/bytealg.IndexString"], recurses := true, named := ["rollbook/types.fields", "internal/bytealg.MaxLen"], loops := true, plainKeys := false, apart := false, laid := [("rollbook/types.fields", laid_rollbook_types_fields)] }
def TypesUsesSaid : Prop := typesUsesRow.holds Tryd.pinned (OpenSpec.ofChange typesUsesSpec)

/-- ITS FALSE NEIGHBOUR: 'it returns false'. Refute it at one input. -/
def typesUsesWrong : ChangeSpec := { name := "typesUses", fn := fun _ => fun
  | [d1, d2, d3] => { results := [.lit (.bool false)], args := [d1, d2, d3] }
  | _ => none }
def TypesUsesWrongFalsely : Prop := typesUsesRow.holds Tryd.pinned (OpenSpec.ofChange typesUsesWrong)

/-- 'rollbooklaw14.TypesParts': WHATEVER THE INPUT: true; the input reads as it did. -/
def typesPartsSpec : ChangeSpec := { name := "typesParts", fn := fun _ => fun
  | [d1, d2, d3, d4] => { results := [.lit (.bool true)], args := [d1, d2, d3, d4] }
  | _ => none }
def typesPartsRow : OpenClaim := { program := "ytfjmlobgjdmecaadoor", sum := "31978849173b71103f0090bf921ed613c7eb234e07eedec4d64cdd95976aa655", func := "rollbook/rollbooklaw14.TypesParts", spec := "typesParts", inPlace := ["internal/bytealg.IndexByteString", "internal/bytealg.IndexString"], recurses := true, named := ["rollbook/types.fields", "internal/bytealg.MaxLen"], loops := true, plainKeys := false, apart := false, laid := [("rollbook/types.fields", laid_rollbook_types_fields)] }
def TypesPartsSaid : Prop := typesPartsRow.holds Tryd.pinned (OpenSpec.ofChange typesPartsSpec)

/-- ITS FALSE NEIGHBOUR: 'it returns false'. Refute it at one input. -/
def typesPartsWrong : ChangeSpec := { name := "typesParts", fn := fun _ => fun
  | [d1, d2, d3, d4] => { results := [.lit (.bool false)], args := [d1, d2, d3, d4] }
  | _ => none }
def TypesPartsWrongFalsely : Prop := typesPartsRow.holds Tryd.pinned (OpenSpec.ofChange typesPartsWrong)

/- THE SECOND FORM. 'bulk': how many values and letters a reading holds, each counted each time it is reached (what is shared counts as often as it is met; a slice's spare places count too). A statement '..UptoSaid' is the law's where the arguments, and the package variables that the reading takes, are together of bulk at most 1048576: NARROWER than '..Said'. Prove '..Said' where nothing that the law and all that it calls make is longer than what came in: it says more and counts as full. Else prove '..UptoSaid'. A law counts once. -/
mutual
def uptoBulk {H : Type} : DataW H → Nat
  | .lit (.string bytes) => bytes.length + 1
  | .lit _ => 1
  | .nil => 1
  | .ptr d => uptoBulk d + 1
  | .slice elems spare => uptoBulkAll elems + uptoBulkAll spare + 1
  | .agg parts => uptoBulkAll parts + 1
  | .iface _ d => uptoBulk d + 1
  | .map entries => uptoBulkEntries entries + 1
  | .held _ => 1
def uptoBulkAll {H : Type} : List (DataW H) → Nat
  | [] => 0
  | d :: r => uptoBulk d + uptoBulkAll r
def uptoBulkEntries {H : Type} : List (Lit × DataW H) → Nat
  | [] => 0
  | x :: r => uptoBulkEntry x + uptoBulkEntries r
def uptoBulkEntry {H : Type} : Lit × DataW H → Nat
  | (.string bytes, d) => bytes.length + uptoBulk d + 1
  | (_, d) => uptoBulk d + 1
 end
def uptoSmall : (H : Type) → List (DataW H) → Bool := fun _ ds => decide (uptoBulkAll ds ≤ 1048576)
def OpenSpec.upto (s : _root_.Go.ChangeSpec) : _root_.Go.OpenSpec := { _root_.Go.OpenSpec.ofChange s with cond := some uptoSmall }

/-- 'rollbooklaw15.CompileExpressions', WHERE WHAT IT READS IS OF BULK AT MOST 1048576: true; the input reads as it did. -/
def compileExpressionsUptoRow : OpenClaim := { program := "ytfjmlobgjdmecaadoor", sum := "31978849173b71103f0090bf921ed613c7eb234e07eedec4d64cdd95976aa655", func := "rollbook/rollbooklaw15.CompileExpressions", spec := "compileExpressions", unfollowed := true, recurses := true, named := ["rollbook/types.fields"], loops := true, plainKeys := false, apart := false, laid := [("rollbook/types.fields", laid_rollbook_types_fields)], narrowed := true }
def CompileExpressionsUptoSaid : Prop := compileExpressionsUptoRow.holds Tryd.pinned (OpenSpec.upto compileExpressionsSpec)

/-- 'rollbooklaw15.CompileVerifies', WHERE WHAT IT READS IS OF BULK AT MOST 1048576: true; the input reads as it did. -/
def compileVerifiesUptoRow : OpenClaim := { program := "ytfjmlobgjdmecaadoor", sum := "31978849173b71103f0090bf921ed613c7eb234e07eedec4d64cdd95976aa655", func := "rollbook/rollbooklaw15.CompileVerifies", spec := "compileVerifies", unfollowed := true, recurses := true, named := ["rollbook/types.fields"], plainKeys := false, apart := false, laid := [("rollbook/types.fields", laid_rollbook_types_fields)], narrowed := true }
def CompileVerifiesUptoSaid : Prop := compileVerifiesUptoRow.holds Tryd.pinned (OpenSpec.upto compileVerifiesSpec)

/-- 'rollbooklaw15.CompileWalks', WHERE WHAT IT READS IS OF BULK AT MOST 1048576: true; the input reads as it did. -/
def compileWalksUptoRow : OpenClaim := { program := "ytfjmlobgjdmecaadoor", sum := "31978849173b71103f0090bf921ed613c7eb234e07eedec4d64cdd95976aa655", func := "rollbook/rollbooklaw15.CompileWalks", spec := "compileWalks", unfollowed := true, recurses := true, named := ["rollbook/types.fields"], plainKeys := false, apart := false, laid := [("rollbook/types.fields", laid_rollbook_types_fields)], narrowed := true }
def CompileWalksUptoSaid : Prop := compileWalksUptoRow.holds Tryd.pinned (OpenSpec.upto compileWalksSpec)

/-- 'rollbooklaw15.CompileParts', WHERE WHAT IT READS IS OF BULK AT MOST 1048576: true; the input reads as it did. -/
def compilePartsUptoRow : OpenClaim := { program := "ytfjmlobgjdmecaadoor", sum := "31978849173b71103f0090bf921ed613c7eb234e07eedec4d64cdd95976aa655", func := "rollbook/rollbooklaw15.CompileParts", spec := "compileParts", unfollowed := true, recurses := true, named := ["rollbook/types.fields"], plainKeys := false, apart := false, laid := [("rollbook/types.fields", laid_rollbook_types_fields)], narrowed := true }
def CompilePartsUptoSaid : Prop := compilePartsUptoRow.holds Tryd.pinned (OpenSpec.upto compilePartsSpec)

/-- 'rollbooklaw15.CompileRules', WHERE WHAT IT READS IS OF BULK AT MOST 1048576: true; the input reads as it did. -/
def compileRulesUptoRow : OpenClaim := { program := "ytfjmlobgjdmecaadoor", sum := "31978849173b71103f0090bf921ed613c7eb234e07eedec4d64cdd95976aa655", func := "rollbook/rollbooklaw15.CompileRules", spec := "compileRules", inPlace := ["internal/bytealg.IndexByteString", "internal/bytealg.IndexString"], unfollowed := true, recurses := true, named := ["rollbook/types.fields", "internal/bytealg.MaxLen"], plainKeys := false, apart := false, laid := [("rollbook/types.fields", laid_rollbook_types_fields)], narrowed := true }
def CompileRulesUptoSaid : Prop := compileRulesUptoRow.holds Tryd.pinned (OpenSpec.upto compileRulesSpec)

/-- 'rollbooklaw15.CompileChecks', WHERE WHAT IT READS IS OF BULK AT MOST 1048576: true; the input reads as it did. -/
def compileChecksUptoRow : OpenClaim := { program := "ytfjmlobgjdmecaadoor", sum := "31978849173b71103f0090bf921ed613c7eb234e07eedec4d64cdd95976aa655", func := "rollbook/rollbooklaw15.CompileChecks", spec := "compileChecks", inPlace := ["internal/bytealg.IndexByteString", "internal/bytealg.IndexString"], unfollowed := true, recurses := true, named := ["rollbook/types.fields", "internal/bytealg.MaxLen"], plainKeys := false, apart := false, laid := [("rollbook/types.fields", laid_rollbook_types_fields)], narrowed := true }
def CompileChecksUptoSaid : Prop := compileChecksUptoRow.holds Tryd.pinned (OpenSpec.upto compileChecksSpec)

/-- 'rollbooklaw14.TypesOf', WHERE WHAT IT READS IS OF BULK AT MOST 1048576: true; the input reads as it did. -/
def typesOfUptoRow : OpenClaim := { program := "ytfjmlobgjdmecaadoor", sum := "31978849173b71103f0090bf921ed613c7eb234e07eedec4d64cdd95976aa655", func := "rollbook/rollbooklaw14.TypesOf", spec := "typesOf", inPlace := ["internal/bytealg.IndexByteString", "internal/bytealg.IndexString"], recurses := true, named := ["rollbook/types.fields", "internal/bytealg.MaxLen"], loops := true, plainKeys := false, apart := false, laid := [("rollbook/types.fields", laid_rollbook_types_fields)], narrowed := true }
def TypesOfUptoSaid : Prop := typesOfUptoRow.holds Tryd.pinned (OpenSpec.upto typesOfSpec)

/-- 'rollbooklaw14.TypesLeaves', WHERE WHAT IT READS IS OF BULK AT MOST 1048576: true; the input reads as it did. -/
def typesLeavesUptoRow : OpenClaim := { program := "ytfjmlobgjdmecaadoor", sum := "31978849173b71103f0090bf921ed613c7eb234e07eedec4d64cdd95976aa655", func := "rollbook/rollbooklaw14.TypesLeaves", spec := "typesLeaves", inPlace := ["internal/bytealg.IndexByteString", "internal/bytealg.IndexString"], recurses := true, named := ["rollbook/types.fields", "internal/bytealg.MaxLen"], plainKeys := false, apart := false, laid := [("rollbook/types.fields", laid_rollbook_types_fields)], narrowed := true }
def TypesLeavesUptoSaid : Prop := typesLeavesUptoRow.holds Tryd.pinned (OpenSpec.upto typesLeavesSpec)

/-- 'rollbooklaw14.TypesNests', WHERE WHAT IT READS IS OF BULK AT MOST 1048576: true; the input reads as it did. -/
def typesNestsUptoRow : OpenClaim := { program := "ytfjmlobgjdmecaadoor", sum := "31978849173b71103f0090bf921ed613c7eb234e07eedec4d64cdd95976aa655", func := "rollbook/rollbooklaw14.TypesNests", spec := "typesNests", inPlace := ["internal/bytealg.IndexByteString", "internal/bytealg.IndexString"], recurses := true, named := ["rollbook/types.fields", "internal/bytealg.MaxLen"], plainKeys := false, apart := false, laid := [("rollbook/types.fields", laid_rollbook_types_fields)], narrowed := true }
def TypesNestsUptoSaid : Prop := typesNestsUptoRow.holds Tryd.pinned (OpenSpec.upto typesNestsSpec)

/-- 'rollbooklaw14.TypesCheck', WHERE WHAT IT READS IS OF BULK AT MOST 1048576: true; the input reads as it did. -/
def typesCheckUptoRow : OpenClaim := { program := "ytfjmlobgjdmecaadoor", sum := "31978849173b71103f0090bf921ed613c7eb234e07eedec4d64cdd95976aa655", func := "rollbook/rollbooklaw14.TypesCheck", spec := "typesCheck", inPlace := ["internal/bytealg.IndexByteString", "internal/bytealg.IndexString"], recurses := true, named := ["rollbook/types.fields", "internal/bytealg.MaxLen"], loops := true, plainKeys := false, apart := false, laid := [("rollbook/types.fields", laid_rollbook_types_fields)], narrowed := true }
def TypesCheckUptoSaid : Prop := typesCheckUptoRow.holds Tryd.pinned (OpenSpec.upto typesCheckSpec)

/-- 'rollbooklaw14.TypesUses', WHERE WHAT IT READS IS OF BULK AT MOST 1048576: true; the input reads as it did. -/
def typesUsesUptoRow : OpenClaim := { program := "ytfjmlobgjdmecaadoor", sum := "31978849173b71103f0090bf921ed613c7eb234e07eedec4d64cdd95976aa655", func := "rollbook/rollbooklaw14.TypesUses", spec := "typesUses", inPlace := ["internal/bytealg.IndexByteString", "internal/bytealg.IndexString"], recurses := true, named := ["rollbook/types.fields", "internal/bytealg.MaxLen"], loops := true, plainKeys := false, apart := false, laid := [("rollbook/types.fields", laid_rollbook_types_fields)], narrowed := true }
def TypesUsesUptoSaid : Prop := typesUsesUptoRow.holds Tryd.pinned (OpenSpec.upto typesUsesSpec)

/-- 'rollbooklaw14.TypesParts', WHERE WHAT IT READS IS OF BULK AT MOST 1048576: true; the input reads as it did. -/
def typesPartsUptoRow : OpenClaim := { program := "ytfjmlobgjdmecaadoor", sum := "31978849173b71103f0090bf921ed613c7eb234e07eedec4d64cdd95976aa655", func := "rollbook/rollbooklaw14.TypesParts", spec := "typesParts", inPlace := ["internal/bytealg.IndexByteString", "internal/bytealg.IndexString"], recurses := true, named := ["rollbook/types.fields", "internal/bytealg.MaxLen"], loops := true, plainKeys := false, apart := false, laid := [("rollbook/types.fields", laid_rollbook_types_fields)], narrowed := true }
def TypesPartsUptoSaid : Prop := typesPartsUptoRow.holds Tryd.pinned (OpenSpec.upto typesPartsSpec)

end Rows
end Go.Proofs.YtfjmlobgjdmecaaDoor
