/-
  No cell of these rows narrows 'for every input' (looked for: loops, veiled, ifaces, maps, wideKeys, modest, calm, conditions, laid).
  DERIVED. THE GIVEN ROWS OF THIS SEAT. 7 by the template 'for every input the law returns true; each argument reads behind the call as it read before'; 0 by the template 'total and deterministic' (their statements: YtddopcmemiheaaaTotals.lean).
  GIVEN WITH THE SEED: the statements are not yours to turn. If you find one false, say at which input.
  Laid BY PROGRAM, IN A SANDBOX (cutbox-rows.mjs): the forced cells as the released guide's own fill.sh prints them over the translation b60e510a29c5c529… (all of the seat's roots in one cut). By AI agents, Wed Nov 11 2026. No macro, syntax, notation, axiom, sorry.
-/
import Derived.Test.YtddopcmemiheaaaChecked
import GoSem.Claim
import GoSem.ClaimJoined
import GoSem.ClaimMapViews
import Derived.JoinedTies
import Derived.KernelRfl
namespace Go.Proofs.Ytddopcmemiheaaa
/- THE CELL 'sum', in the pinned program and in every row, IS THE sha256 OF THE DUMP (.gsa) THAT YtddopcmemiheaaaProg.lean LOADS. Nothing in Lean hashes anything: it is a label: what it is worth is what the hold of that sum in a sandbox is worth. -/
noncomputable def Try.pinned : Pinned := { name := "ytddopcmemiheaaa", sum := "b60e510a29c5c529dfafd5f251dd56f1df15be1c7a1e70df13a2ffa318270972", checked := Try.checked }
namespace Rows
def none {H : Type} : Left H := { results := [], args := [] }

/-- 'rollbooklaw19.CarrierChecks': WHATEVER THE INPUT: true; the input reads as it did. -/
def carrierChecksSpec : ChangeSpec := { name := "carrierChecks", fn := fun _ => fun
  | [d1, d2, d3] => { results := [.lit (.bool true)], args := [d1, d2, d3] }
  | _ => none }
def carrierChecksRow : OpenClaim := { program := "ytddopcmemiheaaa", sum := "b60e510a29c5c529dfafd5f251dd56f1df15be1c7a1e70df13a2ffa318270972", func := "rollbook/rollbooklaw19.CarrierChecks", spec := "carrierChecks", unfollowed := true, recurses := true, apart := false }
def CarrierChecksSaid : Prop := carrierChecksRow.holds Try.pinned (OpenSpec.ofChange carrierChecksSpec)

/-- ITS FALSE NEIGHBOUR: 'it returns false'. Refute it at one input. -/
def carrierChecksWrong : ChangeSpec := { name := "carrierChecks", fn := fun _ => fun
  | [d1, d2, d3] => { results := [.lit (.bool false)], args := [d1, d2, d3] }
  | _ => none }
def CarrierChecksWrongFalsely : Prop := carrierChecksRow.holds Try.pinned (OpenSpec.ofChange carrierChecksWrong)

/-- 'rollbooklaw19.CarrierRuns': WHATEVER THE INPUT: true; the input reads as it did. -/
def carrierRunsSpec : ChangeSpec := { name := "carrierRuns", fn := fun _ => fun
  | [d1, d2] => { results := [.lit (.bool true)], args := [d1, d2] }
  | _ => none }
def carrierRunsRow : OpenClaim := { program := "ytddopcmemiheaaa", sum := "b60e510a29c5c529dfafd5f251dd56f1df15be1c7a1e70df13a2ffa318270972", func := "rollbook/rollbooklaw19.CarrierRuns", spec := "carrierRuns", unfollowed := true, recurses := true, apart := false }
def CarrierRunsSaid : Prop := carrierRunsRow.holds Try.pinned (OpenSpec.ofChange carrierRunsSpec)

/-- ITS FALSE NEIGHBOUR: 'it returns false'. Refute it at one input. -/
def carrierRunsWrong : ChangeSpec := { name := "carrierRuns", fn := fun _ => fun
  | [d1, d2] => { results := [.lit (.bool false)], args := [d1, d2] }
  | _ => none }
def CarrierRunsWrongFalsely : Prop := carrierRunsRow.holds Try.pinned (OpenSpec.ofChange carrierRunsWrong)

/-- 'rollbooklaw19.CarrierEnds': WHATEVER THE INPUT: true; the input reads as it did. -/
def carrierEndsSpec : ChangeSpec := { name := "carrierEnds", fn := fun _ => fun
  | [d] => { results := [.lit (.bool true)], args := [d] }
  | _ => none }
def carrierEndsRow : OpenClaim := { program := "ytddopcmemiheaaa", sum := "b60e510a29c5c529dfafd5f251dd56f1df15be1c7a1e70df13a2ffa318270972", func := "rollbook/rollbooklaw19.CarrierEnds", spec := "carrierEnds", unfollowed := true, recurses := true, apart := false }
def CarrierEndsSaid : Prop := carrierEndsRow.holds Try.pinned (OpenSpec.ofChange carrierEndsSpec)

/-- ITS FALSE NEIGHBOUR: 'it returns false'. Refute it at one input. -/
def carrierEndsWrong : ChangeSpec := { name := "carrierEnds", fn := fun _ => fun
  | [d] => { results := [.lit (.bool false)], args := [d] }
  | _ => none }
def CarrierEndsWrongFalsely : Prop := carrierEndsRow.holds Try.pinned (OpenSpec.ofChange carrierEndsWrong)

/-- 'rollbooklaw19.CarrierServes': WHATEVER THE INPUT: true; the input reads as it did. -/
def carrierServesSpec : ChangeSpec := { name := "carrierServes", fn := fun _ => fun
  | [d1, d2, d3] => { results := [.lit (.bool true)], args := [d1, d2, d3] }
  | _ => none }
def carrierServesRow : OpenClaim := { program := "ytddopcmemiheaaa", sum := "b60e510a29c5c529dfafd5f251dd56f1df15be1c7a1e70df13a2ffa318270972", func := "rollbook/rollbooklaw19.CarrierServes", spec := "carrierServes", unfollowed := true, recurses := true, apart := false }
def CarrierServesSaid : Prop := carrierServesRow.holds Try.pinned (OpenSpec.ofChange carrierServesSpec)

/-- ITS FALSE NEIGHBOUR: 'it returns false'. Refute it at one input. -/
def carrierServesWrong : ChangeSpec := { name := "carrierServes", fn := fun _ => fun
  | [d1, d2, d3] => { results := [.lit (.bool false)], args := [d1, d2, d3] }
  | _ => none }
def CarrierServesWrongFalsely : Prop := carrierServesRow.holds Try.pinned (OpenSpec.ofChange carrierServesWrong)

/-- 'rollbooklaw19.CarrierTime': WHATEVER THE INPUT: true; the input reads as it did. -/
def carrierTimeSpec : ChangeSpec := { name := "carrierTime", fn := fun _ => fun
  | [d1, d2] => { results := [.lit (.bool true)], args := [d1, d2] }
  | _ => none }
def carrierTimeRow : OpenClaim := { program := "ytddopcmemiheaaa", sum := "b60e510a29c5c529dfafd5f251dd56f1df15be1c7a1e70df13a2ffa318270972", func := "rollbook/rollbooklaw19.CarrierTime", spec := "carrierTime", unfollowed := true, recurses := true, apart := false }
def CarrierTimeSaid : Prop := carrierTimeRow.holds Try.pinned (OpenSpec.ofChange carrierTimeSpec)

/-- ITS FALSE NEIGHBOUR: 'it returns false'. Refute it at one input. -/
def carrierTimeWrong : ChangeSpec := { name := "carrierTime", fn := fun _ => fun
  | [d1, d2] => { results := [.lit (.bool false)], args := [d1, d2] }
  | _ => none }
def CarrierTimeWrongFalsely : Prop := carrierTimeRow.holds Try.pinned (OpenSpec.ofChange carrierTimeWrong)

/-- 'rollbooklaw19.CarrierApart': WHATEVER THE INPUT: true; the input reads as it did. -/
def carrierApartSpec : ChangeSpec := { name := "carrierApart", fn := fun _ => fun
  | [d1, d2] => { results := [.lit (.bool true)], args := [d1, d2] }
  | _ => none }
def carrierApartRow : OpenClaim := { program := "ytddopcmemiheaaa", sum := "b60e510a29c5c529dfafd5f251dd56f1df15be1c7a1e70df13a2ffa318270972", func := "rollbook/rollbooklaw19.CarrierApart", spec := "carrierApart", unfollowed := true, recurses := true, apart := false }
def CarrierApartSaid : Prop := carrierApartRow.holds Try.pinned (OpenSpec.ofChange carrierApartSpec)

/-- ITS FALSE NEIGHBOUR: 'it returns false'. Refute it at one input. -/
def carrierApartWrong : ChangeSpec := { name := "carrierApart", fn := fun _ => fun
  | [d1, d2] => { results := [.lit (.bool false)], args := [d1, d2] }
  | _ => none }
def CarrierApartWrongFalsely : Prop := carrierApartRow.holds Try.pinned (OpenSpec.ofChange carrierApartWrong)

/-- 'rollbooklaw19.CarrierReturns': WHATEVER THE INPUT: true; the input reads as it did. -/
def carrierReturnsSpec : ChangeSpec := { name := "carrierReturns", fn := fun _ => fun
  | [d] => { results := [.lit (.bool true)], args := [d] }
  | _ => none }
def carrierReturnsRow : OpenClaim := { program := "ytddopcmemiheaaa", sum := "b60e510a29c5c529dfafd5f251dd56f1df15be1c7a1e70df13a2ffa318270972", func := "rollbook/rollbooklaw19.CarrierReturns", spec := "carrierReturns", unfollowed := true, recurses := true, apart := false }
def CarrierReturnsSaid : Prop := carrierReturnsRow.holds Try.pinned (OpenSpec.ofChange carrierReturnsSpec)

/-- ITS FALSE NEIGHBOUR: 'it returns false'. Refute it at one input. -/
def carrierReturnsWrong : ChangeSpec := { name := "carrierReturns", fn := fun _ => fun
  | [d] => { results := [.lit (.bool false)], args := [d] }
  | _ => none }
def CarrierReturnsWrongFalsely : Prop := carrierReturnsRow.holds Try.pinned (OpenSpec.ofChange carrierReturnsWrong)

/- THE SECOND FORM. 'bulk': how many values and letters a reading holds, each counted each time it is reached (what is shared counts as often as it is met; a slice's spare places count too). A statement '..UptoSaid' is the law's where the arguments, and the package variables that the reading takes, are together of bulk at most 1048576: NARROWER than '..Said'. Prove '..Said' where nothing that the law and all that it calls make is longer than what came in: it says more and counts as full. Else prove '..UptoSaid'. A law counts once. -/
mutual
def uptoBulk {H : Type} : DataW H → Nat
  | .lit (.string bytes) => bytes.length + 1
  | .lit _ => 1
  | .nil => 1
  | .ptr d => uptoBulk d + 1
  | .slice elems spare => uptoBulkAll elems + uptoBulkAll spare + 1
  | .agg parts => uptoBulkAll parts + 1
  | .iface _ d => uptoBulk d + 1
  | .map entries => uptoBulkEntries entries + 1
  | .held _ => 1
def uptoBulkAll {H : Type} : List (DataW H) → Nat
  | [] => 0
  | d :: r => uptoBulk d + uptoBulkAll r
def uptoBulkEntries {H : Type} : List (Lit × DataW H) → Nat
  | [] => 0
  | x :: r => uptoBulkEntry x + uptoBulkEntries r
def uptoBulkEntry {H : Type} : Lit × DataW H → Nat
  | (.string bytes, d) => bytes.length + uptoBulk d + 1
  | (_, d) => uptoBulk d + 1
 end
def uptoSmall : (H : Type) → List (DataW H) → Bool := fun _ ds => decide (uptoBulkAll ds ≤ 1048576)
def OpenSpec.upto (s : _root_.Go.ChangeSpec) : _root_.Go.OpenSpec := { _root_.Go.OpenSpec.ofChange s with cond := some uptoSmall }

/-- 'rollbooklaw19.CarrierChecks', WHERE WHAT IT READS IS OF BULK AT MOST 1048576: true; the input reads as it did. -/
def carrierChecksUptoRow : OpenClaim := { program := "ytddopcmemiheaaa", sum := "b60e510a29c5c529dfafd5f251dd56f1df15be1c7a1e70df13a2ffa318270972", func := "rollbook/rollbooklaw19.CarrierChecks", spec := "carrierChecks", unfollowed := true, recurses := true, apart := false, narrowed := true }
def CarrierChecksUptoSaid : Prop := carrierChecksUptoRow.holds Try.pinned (OpenSpec.upto carrierChecksSpec)

/-- 'rollbooklaw19.CarrierRuns', WHERE WHAT IT READS IS OF BULK AT MOST 1048576: true; the input reads as it did. -/
def carrierRunsUptoRow : OpenClaim := { program := "ytddopcmemiheaaa", sum := "b60e510a29c5c529dfafd5f251dd56f1df15be1c7a1e70df13a2ffa318270972", func := "rollbook/rollbooklaw19.CarrierRuns", spec := "carrierRuns", unfollowed := true, recurses := true, apart := false, narrowed := true }
def CarrierRunsUptoSaid : Prop := carrierRunsUptoRow.holds Try.pinned (OpenSpec.upto carrierRunsSpec)

/-- 'rollbooklaw19.CarrierEnds', WHERE WHAT IT READS IS OF BULK AT MOST 1048576: true; the input reads as it did. -/
def carrierEndsUptoRow : OpenClaim := { program := "ytddopcmemiheaaa", sum := "b60e510a29c5c529dfafd5f251dd56f1df15be1c7a1e70df13a2ffa318270972", func := "rollbook/rollbooklaw19.CarrierEnds", spec := "carrierEnds", unfollowed := true, recurses := true, apart := false, narrowed := true }
def CarrierEndsUptoSaid : Prop := carrierEndsUptoRow.holds Try.pinned (OpenSpec.upto carrierEndsSpec)

/-- 'rollbooklaw19.CarrierServes', WHERE WHAT IT READS IS OF BULK AT MOST 1048576: true; the input reads as it did. -/
def carrierServesUptoRow : OpenClaim := { program := "ytddopcmemiheaaa", sum := "b60e510a29c5c529dfafd5f251dd56f1df15be1c7a1e70df13a2ffa318270972", func := "rollbook/rollbooklaw19.CarrierServes", spec := "carrierServes", unfollowed := true, recurses := true, apart := false, narrowed := true }
def CarrierServesUptoSaid : Prop := carrierServesUptoRow.holds Try.pinned (OpenSpec.upto carrierServesSpec)

/-- 'rollbooklaw19.CarrierTime', WHERE WHAT IT READS IS OF BULK AT MOST 1048576: true; the input reads as it did. -/
def carrierTimeUptoRow : OpenClaim := { program := "ytddopcmemiheaaa", sum := "b60e510a29c5c529dfafd5f251dd56f1df15be1c7a1e70df13a2ffa318270972", func := "rollbook/rollbooklaw19.CarrierTime", spec := "carrierTime", unfollowed := true, recurses := true, apart := false, narrowed := true }
def CarrierTimeUptoSaid : Prop := carrierTimeUptoRow.holds Try.pinned (OpenSpec.upto carrierTimeSpec)

/-- 'rollbooklaw19.CarrierApart', WHERE WHAT IT READS IS OF BULK AT MOST 1048576: true; the input reads as it did. -/
def carrierApartUptoRow : OpenClaim := { program := "ytddopcmemiheaaa", sum := "b60e510a29c5c529dfafd5f251dd56f1df15be1c7a1e70df13a2ffa318270972", func := "rollbook/rollbooklaw19.CarrierApart", spec := "carrierApart", unfollowed := true, recurses := true, apart := false, narrowed := true }
def CarrierApartUptoSaid : Prop := carrierApartUptoRow.holds Try.pinned (OpenSpec.upto carrierApartSpec)

/-- 'rollbooklaw19.CarrierReturns', WHERE WHAT IT READS IS OF BULK AT MOST 1048576: true; the input reads as it did. -/
def carrierReturnsUptoRow : OpenClaim := { program := "ytddopcmemiheaaa", sum := "b60e510a29c5c529dfafd5f251dd56f1df15be1c7a1e70df13a2ffa318270972", func := "rollbook/rollbooklaw19.CarrierReturns", spec := "carrierReturns", unfollowed := true, recurses := true, apart := false, narrowed := true }
def CarrierReturnsUptoSaid : Prop := carrierReturnsUptoRow.holds Try.pinned (OpenSpec.upto carrierReturnsSpec)

end Rows
end Go.Proofs.Ytddopcmemiheaaa
