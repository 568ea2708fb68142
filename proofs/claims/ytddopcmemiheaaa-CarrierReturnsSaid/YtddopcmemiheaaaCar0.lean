/-
The data of package carrier as plain structures.
-/
import Derived.Test.YtddopcmemiheaaaEng6
namespace Go.Eng
open Go

structure Pap where
  attempt : Int
  party : Int
  carrier : Int
  sent : Int
  deriving DecidableEq, Inhabited
structure Wy where
  attempt : Int
  kind : Int
  days : Int
  party : Int
  deriving DecidableEq, Inhabited
structure Dlv where
  attempt : Int
  party : Int
  day : Int
  deriving DecidableEq, Inhabited
/-- a report with its return -/
structure Rpt where
  attempt : Int
  day : Int
  carrier : Int
  kind : Int
  frm : Int
  til : Int
  deriving DecidableEq, Inhabited

instance : Flat Pap where
  k := 4
  enc := fun p => [.int .i64 p.attempt, .int .i64 p.party, .int .i64 p.carrier, .int .i64 p.sent]
  len := fun _ => rfl
  one := by intro x u hu; simp at hu; rcases hu with rfl | rfl | rfl | rfl <;> rfl
instance : Flat Wy where
  k := 4
  enc := fun p => [.int .i64 p.attempt, .int .i64 p.kind, .int .i64 p.days, .int .i64 p.party]
  len := fun _ => rfl
  one := by intro x u hu; simp at hu; rcases hu with rfl | rfl | rfl | rfl <;> rfl
instance : Flat Dlv where
  k := 3
  enc := fun p => [.int .i64 p.attempt, .int .i64 p.party, .int .i64 p.day]
  len := fun _ => rfl
  one := by intro x u hu; simp at hu; rcases hu with rfl | rfl | rfl <;> rfl
instance : Flat Rpt where
  k := 6
  enc := fun p => [.int .i64 p.attempt, .int .i64 p.day, .int .i64 p.carrier, .int .i64 p.kind, .int .i64 p.frm, .int .i64 p.til]
  len := fun _ => rfl
  one := by intro x u hu; simp at hu; rcases hu with rfl | rfl | rfl | rfl | rfl | rfl <;> rfl

/-- the value of a struct -/
def agg {α : Type} [Flat α] (x : α) : Value := .agg (Flat.enc x).toArray

def idx {α : Type} (p : α → Bool) (xs : List α) : Int := match xs.findIdx? p with | some i => (i : Int) | none => -1
theorem idx_of_at {α : Type} {p : α → Bool} {xs : List α} {k : Nat} (hk : k < xs.length) (hp : p xs[k] = true) (hb : ∀ j (h : j < xs.length), j < k → p xs[j] = false) : idx p xs = k := by
  have : xs.findIdx? p = some k := by
    rw [List.findIdx?_eq_some_iff_getElem]
    exact ⟨hk, hp, fun j hj => by simpa using hb j (by omega) hj⟩
  simp [idx, this]
theorem idx_of_none {α : Type} {p : α → Bool} {xs : List α} (hb : ∀ j (h : j < xs.length), p xs[j] = false) : idx p xs = -1 := by
  have : xs.findIdx? p = none := by
    rw [List.findIdx?_eq_none_iff]
    intro x hx
    obtain ⟨i, hi, rfl⟩ := List.getElem_of_mem hx
    exact hb i hi
  simp [idx, this]

/-- what is asked of a predicate that is handed to the library: a closure 'g' with captured values 'lb' -/
def Pred {α : Type} [Flat α] (P : Program) (g : Nat) (lb : Array Value) (p : α → Bool) (w : World) : Prop :=
  ∀ (x : α) (w' : World), Stp [] w w' → Calls P g (#[agg x] ++ lb) w' (Ret fun v w'' => v = .bool (p x) ∧ Stp [] w' w'')
end Go.Eng
