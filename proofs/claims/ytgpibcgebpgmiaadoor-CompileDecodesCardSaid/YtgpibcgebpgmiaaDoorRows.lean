/-
  NARROWER THAN 'FOR EVERY INPUT', by the rows' own cells (each row's printed sentence says how): TypesSubstitutes: laid · CompileDecodes: laid · CompileEncodes: laid · CompileTypes: laid.
  DERIVED. THE GIVEN ROWS OF THIS SEAT. 4 by the template 'for every input the law returns true; each argument reads behind the call as it read before'; 0 by the template 'total and deterministic' (their statements: YtgpibcgebpgmiaaDoorTotals.lean).
  GIVEN WITH THE SEED: the statements are not yours to turn. If you find one false, say at which input.
  Laid BY PROGRAM, IN A SANDBOX (cutbox-rows.mjs): the forced cells as the released guide's own fill.sh prints them over the translation 246571d4bcb4d691… (all of the seat's roots in one cut). By AI agents, Wed Nov 11 2026. No macro, syntax, notation, axiom, sorry.
-/
import Derived.Test.YtgpibcgebpgmiaaDoorChecked
import GoSem.Claim
import GoSem.ClaimJoined
import GoSem.ClaimMapViews
import Derived.JoinedTies
import Derived.KernelRfl
namespace Go.Proofs.YtgpibcgebpgmiaaDoor
/- THE CELL 'sum', in the pinned program and in every row, IS THE sha256 OF THE DUMP (.gsa) THAT YtgpibcgebpgmiaaDoorProg.lean LOADS. Nothing in Lean hashes anything: it is a label: what it is worth is what the hold of that sum in a sandbox is worth. -/
noncomputable def Tryd.pinned : Pinned := { name := "ytgpibcgebpgmiaadoor", sum := "246571d4bcb4d6917110c570411f9be6d60eab0a81f638ecbc2bfe00d9ced64f", checked := Tryd.checked }
namespace Rows
def none {H : Type} : Left H := { results := [], args := [] }

/- WHAT THE LISTED PACKAGE-LEVEL VARIABLES READ AS WHEN THE CALL BEGINS. Each datum BY PROGRAM (the guide's laid-datum.mjs) off the statement by which the dump's own 'gosem.cut.vars' lays the variable. In a bare row this is a premise. The card (YtgpibcgebpgmiaaDoorCards.lean) ties it to the program's text. -/
def laid_rollbook_types_fields {H : Type} : DataW H := .agg [.lit (.string [100, 97, 121]), .lit (.string [115, 101, 114, 118, 101, 100]), .lit (.string [101, 120, 116, 114, 97]), .lit (.string [98, 121]), .lit (.string [116, 111]), .lit (.string [99, 111, 117, 114, 116]), .lit (.string [97, 109, 111, 117, 110, 116])]

/-- 'rollbooklaw14.TypesSubstitutes': WHATEVER THE INPUT: true; the input reads as it did. -/
def typesSubstitutesSpec : ChangeSpec := { name := "typesSubstitutes", fn := fun _ => fun
  | [d1, d2, d3, d4, d5] => { results := [.lit (.bool true)], args := [d1, d2, d3, d4, d5] }
  | _ => none }
def typesSubstitutesRow : OpenClaim := { program := "ytgpibcgebpgmiaadoor", sum := "246571d4bcb4d6917110c570411f9be6d60eab0a81f638ecbc2bfe00d9ced64f", func := "rollbook/rollbooklaw14.TypesSubstitutes", spec := "typesSubstitutes", inPlace := ["internal/bytealg.IndexByteString", "internal/bytealg.IndexString"], recurses := true, named := ["rollbook/types.fields", "internal/bytealg.MaxLen"], plainKeys := false, apart := false, laid := [("rollbook/types.fields", laid_rollbook_types_fields)] }
def TypesSubstitutesSaid : Prop := typesSubstitutesRow.holds Tryd.pinned (OpenSpec.ofChange typesSubstitutesSpec)

/-- ITS FALSE NEIGHBOUR: 'it returns false'. Refute it at one input. -/
def typesSubstitutesWrong : ChangeSpec := { name := "typesSubstitutes", fn := fun _ => fun
  | [d1, d2, d3, d4, d5] => { results := [.lit (.bool false)], args := [d1, d2, d3, d4, d5] }
  | _ => none }
def TypesSubstitutesWrongFalsely : Prop := typesSubstitutesRow.holds Tryd.pinned (OpenSpec.ofChange typesSubstitutesWrong)

/-- 'rollbooklaw15.CompileDecodes': WHATEVER THE INPUT: true; the input reads as it did. -/
def compileDecodesSpec : ChangeSpec := { name := "compileDecodes", fn := fun _ => fun
  | [d] => { results := [.lit (.bool true)], args := [d] }
  | _ => none }
def compileDecodesRow : OpenClaim := { program := "ytgpibcgebpgmiaadoor", sum := "246571d4bcb4d6917110c570411f9be6d60eab0a81f638ecbc2bfe00d9ced64f", func := "rollbook/rollbooklaw15.CompileDecodes", spec := "compileDecodes", inPlace := ["internal/bytealg.IndexByteString", "internal/bytealg.IndexString"], unfollowed := true, recurses := true, named := ["rollbook/types.fields", "internal/bytealg.MaxLen"], plainKeys := false, apart := false, laid := [("rollbook/types.fields", laid_rollbook_types_fields)] }
def CompileDecodesSaid : Prop := compileDecodesRow.holds Tryd.pinned (OpenSpec.ofChange compileDecodesSpec)

/-- ITS FALSE NEIGHBOUR: 'it returns false'. Refute it at one input. -/
def compileDecodesWrong : ChangeSpec := { name := "compileDecodes", fn := fun _ => fun
  | [d] => { results := [.lit (.bool false)], args := [d] }
  | _ => none }
def CompileDecodesWrongFalsely : Prop := compileDecodesRow.holds Tryd.pinned (OpenSpec.ofChange compileDecodesWrong)

/-- 'rollbooklaw15.CompileEncodes': WHATEVER THE INPUT: true; the input reads as it did. -/
def compileEncodesSpec : ChangeSpec := { name := "compileEncodes", fn := fun _ => fun
  | [d1, d2, d3] => { results := [.lit (.bool true)], args := [d1, d2, d3] }
  | _ => none }
def compileEncodesRow : OpenClaim := { program := "ytgpibcgebpgmiaadoor", sum := "246571d4bcb4d6917110c570411f9be6d60eab0a81f638ecbc2bfe00d9ced64f", func := "rollbook/rollbooklaw15.CompileEncodes", spec := "compileEncodes", inPlace := ["internal/bytealg.IndexByteString", "internal/bytealg.IndexString"], unfollowed := true, recurses := true, named := ["rollbook/types.fields", "internal/bytealg.MaxLen"], plainKeys := false, apart := false, laid := [("rollbook/types.fields", laid_rollbook_types_fields)] }
def CompileEncodesSaid : Prop := compileEncodesRow.holds Tryd.pinned (OpenSpec.ofChange compileEncodesSpec)

/-- ITS FALSE NEIGHBOUR: 'it returns false'. Refute it at one input. -/
def compileEncodesWrong : ChangeSpec := { name := "compileEncodes", fn := fun _ => fun
  | [d1, d2, d3] => { results := [.lit (.bool false)], args := [d1, d2, d3] }
  | _ => none }
def CompileEncodesWrongFalsely : Prop := compileEncodesRow.holds Tryd.pinned (OpenSpec.ofChange compileEncodesWrong)

/-- 'rollbooklaw15.CompileTypes': WHATEVER THE INPUT: true; the input reads as it did. -/
def compileTypesSpec : ChangeSpec := { name := "compileTypes", fn := fun _ => fun
  | [d1, d2] => { results := [.lit (.bool true)], args := [d1, d2] }
  | _ => none }
def compileTypesRow : OpenClaim := { program := "ytgpibcgebpgmiaadoor", sum := "246571d4bcb4d6917110c570411f9be6d60eab0a81f638ecbc2bfe00d9ced64f", func := "rollbook/rollbooklaw15.CompileTypes", spec := "compileTypes", unfollowed := true, recurses := true, named := ["rollbook/types.fields"], plainKeys := false, apart := false, laid := [("rollbook/types.fields", laid_rollbook_types_fields)] }
def CompileTypesSaid : Prop := compileTypesRow.holds Tryd.pinned (OpenSpec.ofChange compileTypesSpec)

/-- ITS FALSE NEIGHBOUR: 'it returns false'. Refute it at one input. -/
def compileTypesWrong : ChangeSpec := { name := "compileTypes", fn := fun _ => fun
  | [d1, d2] => { results := [.lit (.bool false)], args := [d1, d2] }
  | _ => none }
def CompileTypesWrongFalsely : Prop := compileTypesRow.holds Tryd.pinned (OpenSpec.ofChange compileTypesWrong)

/- THE SECOND FORM. 'bulk': how many values and letters a reading holds, each counted each time it is reached (what is shared counts as often as it is met; a slice's spare places count too). A statement '..UptoSaid' is the law's where the arguments, and the package variables that the reading takes, are together of bulk at most 1048576: NARROWER than '..Said'. Prove '..Said' where nothing that the law and all that it calls make is longer than what came in: it says more and counts as full. Else prove '..UptoSaid'. A law counts once. -/
mutual
def uptoBulk {H : Type} : DataW H → Nat
  | .lit (.string bytes) => bytes.length + 1
  | .lit _ => 1
  | .nil => 1
  | .ptr d => uptoBulk d + 1
  | .slice elems spare => uptoBulkAll elems + uptoBulkAll spare + 1
  | .agg parts => uptoBulkAll parts + 1
  | .iface _ d => uptoBulk d + 1
  | .map entries => uptoBulkEntries entries + 1
  | .held _ => 1
def uptoBulkAll {H : Type} : List (DataW H) → Nat
  | [] => 0
  | d :: r => uptoBulk d + uptoBulkAll r
def uptoBulkEntries {H : Type} : List (Lit × DataW H) → Nat
  | [] => 0
  | x :: r => uptoBulkEntry x + uptoBulkEntries r
def uptoBulkEntry {H : Type} : Lit × DataW H → Nat
  | (.string bytes, d) => bytes.length + uptoBulk d + 1
  | (_, d) => uptoBulk d + 1
 end
def uptoSmall : (H : Type) → List (DataW H) → Bool := fun _ ds => decide (uptoBulkAll ds ≤ 1048576)
def OpenSpec.upto (s : _root_.Go.ChangeSpec) : _root_.Go.OpenSpec := { _root_.Go.OpenSpec.ofChange s with cond := some uptoSmall }

/-- 'rollbooklaw14.TypesSubstitutes', WHERE WHAT IT READS IS OF BULK AT MOST 1048576: true; the input reads as it did. -/
def typesSubstitutesUptoRow : OpenClaim := { program := "ytgpibcgebpgmiaadoor", sum := "246571d4bcb4d6917110c570411f9be6d60eab0a81f638ecbc2bfe00d9ced64f", func := "rollbook/rollbooklaw14.TypesSubstitutes", spec := "typesSubstitutes", inPlace := ["internal/bytealg.IndexByteString", "internal/bytealg.IndexString"], recurses := true, named := ["rollbook/types.fields", "internal/bytealg.MaxLen"], plainKeys := false, apart := false, laid := [("rollbook/types.fields", laid_rollbook_types_fields)], narrowed := true }
def TypesSubstitutesUptoSaid : Prop := typesSubstitutesUptoRow.holds Tryd.pinned (OpenSpec.upto typesSubstitutesSpec)

/-- 'rollbooklaw15.CompileDecodes', WHERE WHAT IT READS IS OF BULK AT MOST 1048576: true; the input reads as it did. -/
def compileDecodesUptoRow : OpenClaim := { program := "ytgpibcgebpgmiaadoor", sum := "246571d4bcb4d6917110c570411f9be6d60eab0a81f638ecbc2bfe00d9ced64f", func := "rollbook/rollbooklaw15.CompileDecodes", spec := "compileDecodes", inPlace := ["internal/bytealg.IndexByteString", "internal/bytealg.IndexString"], unfollowed := true, recurses := true, named := ["rollbook/types.fields", "internal/bytealg.MaxLen"], plainKeys := false, apart := false, laid := [("rollbook/types.fields", laid_rollbook_types_fields)], narrowed := true }
def CompileDecodesUptoSaid : Prop := compileDecodesUptoRow.holds Tryd.pinned (OpenSpec.upto compileDecodesSpec)

/-- 'rollbooklaw15.CompileEncodes', WHERE WHAT IT READS IS OF BULK AT MOST 1048576: true; the input reads as it did. -/
def compileEncodesUptoRow : OpenClaim := { program := "ytgpibcgebpgmiaadoor", sum := "246571d4bcb4d6917110c570411f9be6d60eab0a81f638ecbc2bfe00d9ced64f", func := "rollbook/rollbooklaw15.CompileEncodes", spec := "compileEncodes", inPlace := ["internal/bytealg.IndexByteString", "internal/bytealg.IndexString"], unfollowed := true, recurses := true, named := ["rollbook/types.fields", "internal/bytealg.MaxLen"], plainKeys := false, apart := false, laid := [("rollbook/types.fields", laid_rollbook_types_fields)], narrowed := true }
def CompileEncodesUptoSaid : Prop := compileEncodesUptoRow.holds Tryd.pinned (OpenSpec.upto compileEncodesSpec)

/-- 'rollbooklaw15.CompileTypes', WHERE WHAT IT READS IS OF BULK AT MOST 1048576: true; the input reads as it did. -/
def compileTypesUptoRow : OpenClaim := { program := "ytgpibcgebpgmiaadoor", sum := "246571d4bcb4d6917110c570411f9be6d60eab0a81f638ecbc2bfe00d9ced64f", func := "rollbook/rollbooklaw15.CompileTypes", spec := "compileTypes", unfollowed := true, recurses := true, named := ["rollbook/types.fields"], plainKeys := false, apart := false, laid := [("rollbook/types.fields", laid_rollbook_types_fields)], narrowed := true }
def CompileTypesUptoSaid : Prop := compileTypesUptoRow.holds Tryd.pinned (OpenSpec.upto compileTypesSpec)

end Rows
end Go.Proofs.YtgpibcgebpgmiaaDoor
