/-
The walk engine, part 3: memory. 'Stp S w w'': of the old blocks only those of S may have turned. Data in memory by a class 'GoRep'; slices 'SlV'; whole blocks 'Blk'; rows that are being appended to, 'Row'.
-/
import Derived.Test.YtddopcmemiheaaaEng2
namespace Go.Eng
open Go Go.RowKit Go.Proofs
set_option linter.unusedVariables false

structure Stp (S : List Nat) (w w' : World) : Prop where
  os : w'.os = w.os
  tape : w'.tape = w.tape
  output : w'.output = w.output
  size : w.heap.size ≤ w'.heap.size
  block : ∀ b, b < w.heap.size → b ∉ S → w'.heap[b]? = w.heap[b]?

theorem Stp.refl (S : List Nat) (w : World) : Stp S w w := ⟨rfl, rfl, rfl, Nat.le_refl _, fun _ _ _ => rfl⟩
theorem Stp.trans {S : List Nat} {a b c : World} (h : Stp S a b) (k : Stp S b c) : Stp S a c :=
  ⟨k.os.trans h.os, k.tape.trans h.tape, k.output.trans h.output, Nat.le_trans h.size k.size, fun i hi hn => (k.block i (Nat.lt_of_lt_of_le hi h.size) hn).trans (h.block i hi hn)⟩
theorem Stp.mono {S S' : List Nat} {a b : World} (h : Stp S a b) (hs : ∀ x ∈ S, x ∈ S') : Stp S' a b := ⟨h.os, h.tape, h.output, h.size, fun i hi hn => h.block i hi (fun hx => hn (hs i hx))⟩
/-- own blocks may turn -/
theorem Stp.own {S S' : List Nat} {a b c : World} (h : Stp S a b) (k : Stp S' b c) (hs : ∀ x ∈ S', x ∈ S ∨ a.heap.size ≤ x) : Stp S a c :=
  ⟨k.os.trans h.os, k.tape.trans h.tape, k.output.trans h.output, Nat.le_trans h.size k.size, fun i hi hn => (k.block i (Nat.lt_of_lt_of_le hi h.size) (fun hx => by
    rcases hs i hx with h1 | h1
    · exact hn h1
    · omega)).trans (h.block i hi hn)⟩
theorem Stp.below {a b : World} (h : Stp [] a b) : Below a.heap.size a b := ⟨h.os, h.tape, h.output, h.size, fun i hi => h.block i hi (by simp)⟩
theorem Stp.of_below {a b : World} (h : Below a.heap.size a b) : Stp [] a b := ⟨h.os, h.tape, h.output, h.size, fun i hi _ => h.block i hi⟩
theorem Stp.cell {S : List Nat} {w w' : World} (h : Stp S w w') {b o : Nat} {v : Value} (hb : b ∉ S) (hc : w.cell? ⟨b, o, none⟩ = some v) : w'.cell? ⟨b, o, none⟩ = some v := by
  have hlt : b < w.heap.size := block_lt_of_cell (a := ⟨b, o, none⟩) hc
  rw [← hc]
  exact World.cell?_of_block (w := w) (h.block b hlt hb)
theorem Stp.drew (S : List Nat) (w : World) : Stp S w w.drew := ⟨rfl, rfl, rfl, Nat.le_refl _, fun _ _ _ => rfl⟩
theorem Stp.alloc (S : List Nat) (w : World) (o : Obj) : Stp S w (w.alloc o) := ⟨rfl, rfl, rfl, by simp, fun k hk _ => Below.heap_alloc w o k hk⟩
theorem Stp.of_grown {w w' : World} {row : Option Nat} (h : w.grownBy w' row) : Stp row.toList w w' :=
  ⟨h.os, h.tape, h.output, h.size, fun k hk hn => h.block k hk (fun e => hn (by simp [← e]))⟩

/-! ### data -/
class GoRep (α : Type) where
  k : Nat
  rep : List Nat → World → α → List Value → Prop
  len : ∀ {X : List Nat} {w : World} {x : α} {cs : List Value}, rep X w x cs → cs.length = k
  one : ∀ {X : List Nat} {w : World} {x : α} {cs : List Value}, rep X w x cs → ∀ u ∈ cs, u.oneCell' = true
  ext : ∀ {X S X' : List Nat} {w w' : World} {x : α} {cs : List Value}, rep X w x cs → Stp S w w' → (∀ b ∈ S, b ∈ X) → (∀ b ∈ X', b ∈ X ∨ w.heap.size ≤ b) → rep X' w' x cs

/-- data without memory of its own -/
class Flat (α : Type) where
  k : Nat
  enc : α → List Value
  len : ∀ x, (enc x).length = k
  one : ∀ x, ∀ u ∈ enc x, u.oneCell' = true

instance {α : Type} [Flat α] : GoRep α where
  k := Flat.k α
  rep := fun _ _ x cs => cs = Flat.enc x
  len := fun h => h ▸ Flat.len _
  one := fun h => h ▸ Flat.one _
  ext := fun h _ _ _ => h

instance : Flat Int where
  k := 1
  enc := fun x => [.int .i64 x]
  len := fun _ => rfl
  one := by intro x u hu; simp at hu; subst hu; rfl
instance : Flat Bool where
  k := 1
  enc := fun x => [.bool x]
  len := fun _ => rfl
  one := by intro x u hu; simp at hu; subst hu; rfl

def SlV {α : Type} [GoRep α] (X : List Nat) (w : World) (v : Value) (xs : List α) : Prop :=
  ∃ (p : Option Addr) (c : Nat), v = .slice p xs.length c ∧ xs.length ≤ c ∧ c ≤ maxLen ∧ (p = none → c = 0) ∧
    ∀ i (h : i < xs.length), ∃ b o cs, p = some ⟨b, o, none⟩ ∧ b < w.heap.size ∧ b ∉ X ∧ GoRep.rep X w xs[i] cs ∧ ∀ j u, cs[j]? = some u → w.cell? ⟨b, o + i * GoRep.k α + j, none⟩ = some u

theorem SlV.ext {α : Type} [GoRep α] {X S X' : List Nat} {w w' : World} {v : Value} {xs : List α} (h : SlV X w v xs) (hS : Stp S w w') (h1 : ∀ b ∈ S, b ∈ X) (h2 : ∀ b ∈ X', b ∈ X ∨ w.heap.size ≤ b) : SlV X' w' v xs := by
  obtain ⟨p, c, hv, hl, hm, hn, hc⟩ := h
  refine ⟨p, c, hv, hl, hm, hn, fun i hi => ?_⟩
  obtain ⟨b, o, cs, hp, hb, hx, hr, hcell⟩ := hc i hi
  refine ⟨b, o, cs, hp, Nat.lt_of_lt_of_le hb hS.size, fun hbx => ?_, GoRep.ext hr hS h1 h2, fun j u hu => hS.cell (fun hbs => hx (h1 b hbs)) (hcell j u hu)⟩
  rcases h2 b hbx with h | h
  · exact hx h
  · omega
/-- behind a call, an alloc: everything stands -/
theorem SlV.up {α : Type} [GoRep α] {X : List Nat} {w w' : World} {v : Value} {xs : List α} (h : SlV X w v xs) (hS : Stp [] w w') : SlV X w' v xs :=
  h.ext hS (by simp) (fun b hb => .inl hb)
theorem SlV.len {α : Type} [GoRep α] {X : List Nat} {w : World} {v : Value} {xs : List α} (h : SlV X w v xs) : ∃ p c, v = .slice p xs.length c := let ⟨p, c, hv, _⟩ := h; ⟨p, c, hv⟩
theorem SlV.cells {α : Type} [GoRep α] {X : List Nat} {w : World} {v : Value} {xs : List α} (h : SlV X w v xs) : v.cells.toList = [v] := by
  obtain ⟨p, c, rfl⟩ := h.len
  rfl
theorem SlV.one {α : Type} [GoRep α] {X : List Nat} {w : World} {v : Value} {xs : List α} (h : SlV X w v xs) : v.oneCell' = true := by
  obtain ⟨p, c, rfl⟩ := h.len
  rfl
theorem SlV.max {α : Type} [GoRep α] {X : List Nat} {w : World} {v : Value} {xs : List α} (h : SlV X w v xs) : xs.length ≤ 9223372036854775807 := by
  obtain ⟨p, c, hv, hl, hm, _⟩ := h
  simp only [maxLen] at hm
  omega

def elAddr (v : Value) (i k j : Nat) : Addr :=
  match v with
  | .slice (some a) _ _ => ⟨a.block, a.off + i * k + j, none⟩
  | _ => ⟨0, 0, none⟩

/-- block b holds just these cells -/
def Blk (w : World) (b : Nat) (T : TypeId) (cs : List Value) : Prop := w.heap[b]? = some (.cells cs.toArray T (0, 0))
theorem Blk.lt {w : World} {b T : Nat} {cs : List Value} (h : Blk w b T cs) : b < w.heap.size := (Array.getElem?_eq_some_iff.1 h).1
theorem Blk.ext {w w' : World} {S : List Nat} {b T : Nat} {cs : List Value} (h : Blk w b T cs) (hS : Stp S w w') (hb : b ∉ S) : Blk w' b T cs := by
  unfold Blk at *
  rw [hS.block b (Blk.lt h) hb]
  exact h
theorem Blk.up {w w' : World} {b T : Nat} {cs : List Value} (h : Blk w b T cs) (hS : Stp [] w w') : Blk w' b T cs := h.ext hS (by simp)
theorem Blk.cell {w : World} {b T : Nat} {cs : List Value} (h : Blk w b T cs) {j : Nat} {u : Value} (hu : cs[j]? = some u) : w.cell? ⟨b, j, none⟩ = some u := by
  unfold Blk at h
  simp [World.cell?, h, hu]

section rules
variable {P : Program} {n : Nat} {e : Env} {w : World} {d : Option Nat} {ty : TypeId} {pos : String} {af : Array Edge} {g : Option (Nat × Bool)}

theorem PR_lenS {α : Type} [GoRep α] {X : List Nat} {xs : List α} {v : Value} {x : Operand} {t : TypeId} {el : TypeId} {w₀ : World} [hu : Und P t (.slice el)] (hx : ev e x = some v) (hs : SlV X w₀ v xs) :
    PR P n ⟨d, .call { callee := .builtin .len, args := #[x], argTypes := #[t] }, ty, pos, af, g⟩ e w (.int .i64 (xs.length : Int)) := by
  obtain ⟨p, c, rfl⟩ := hs.len
  exact PR_len hx

theorem PR_idx {α : Type} [GoRep α] {X : List Nat} {xs : List α} {v : Value} {x y : Operand} {t : TypeId} {el k : Nat} [hu : Und P t (.slice el)] [hk : Siz P el k] {z : Int} {i : Nat} {w₀ : World}
    (hx : ev e x = some v) (hs : SlV X w₀ v xs) (hy : ev e y = some (.int .i64 z)) (hz : z = (i : Int)) (hi : i < xs.length) :
    PR P n ⟨d, .indexAddr t x y, ty, pos, af, g⟩ e w (.pointer (some (elAddr v i k 0))) := by
  refine ⟨fun a ha => ?_⟩
  obtain ⟨p, c, rfl, hl, hm, hn, hc⟩ := hs
  obtain ⟨b, o, cs, rfl, _⟩ := hc i hi
  subst hz
  have h0 : (0 : Int) ≤ (i : Int) ∧ (i : Int) < (xs.length : Int) := by omega
  have hr : (Instr.indexAt t (.slice (some ⟨b, o, none⟩) xs.length c) (.int .i64 (i : Int))).run P w = .ok (.pointer (some ⟨b, o + i * k, none⟩)) w := by
    simp only [Instr.indexAt, asIntOf]
    simp [run_underlying hu.h, Siz.run, Addr.add_lit, hi]
  simp [execOp, ha.ev hx, ha.ev hy, hr, elAddr]

theorem PR_field_el {x : Operand} {t : TypeId} {v : Value} {i k j m off : Nat} [hf : Fld P t m off] (hx : ev e x = some (.pointer (some (elAddr v i k j))))
    (hv : ∃ p l c, v = .slice (some p) l c) : PR P n ⟨d, .fieldAddr t x m, ty, pos, af, g⟩ e w (.pointer (some (elAddr v i k (j + off)))) := by
  obtain ⟨p, l, c, rfl⟩ := hv
  exact ⟨fun a ha => by simp [execOp, ha.ev hx, elAddr, fieldAt_run, Nat.add_assoc]⟩
theorem SlV.isSome {α : Type} [GoRep α] {X : List Nat} {v : Value} {xs : List α} {i : Nat} (h : SlV X w v xs) (hi : i < xs.length) : ∃ p l c, v = .slice (some p) l c := by
  obtain ⟨p, c, rfl, _, _, _, hc⟩ := h
  obtain ⟨b, o, cs, rfl, _⟩ := hc i hi
  exact ⟨_, _, _, rfl⟩
theorem SlV.cell {α : Type} [GoRep α] {X : List Nat} {v : Value} {xs : List α} {i : Nat} (h : SlV X w v xs) (hi : i < xs.length) : ∃ cs, GoRep.rep X w xs[i] cs ∧ ∀ j u, cs[j]? = some u → w.cell? (elAddr v i (GoRep.k α) j) = some u := by
  obtain ⟨p, c, rfl, _, _, _, hc⟩ := h
  obtain ⟨b, o, cs, rfl, _, _, hr, hcell⟩ := hc i hi
  exact ⟨cs, hr, fun j u hu => by simpa [elAddr] using hcell j u hu⟩
theorem SlV.cellF {α : Type} [Flat α] {X : List Nat} {v : Value} {xs : List α} {i : Nat} (h : SlV X w v xs) (hi : i < xs.length) {j : Nat} {u : Value} (hu : (Flat.enc xs[i])[j]? = some u) : w.cell? (elAddr v i (Flat.k α) j) = some u := by
  obtain ⟨cs, hr, hc⟩ := h.cell hi
  have hr' : cs = Flat.enc xs[i] := hr
  subst hr'
  exact hc j u hu

/-- one cell of an element -/
theorem PR_load_el {α : Type} [Flat α] {X : List Nat} {xs : List α} {v u : Value} {i j k : Nat} {x : Operand} {t : TypeId} {D : TypeDesc} [hu : Und P t D] (hA : aggB D = false) (hx : ev e x = some (.pointer (some (elAddr v i k j))))
    (hs : SlV X w v xs) (hi : i < xs.length) (hk : k = Flat.k α) (hc : (Flat.enc xs[i])[j]? = some u) : PR P n ⟨d, .load t x, ty, pos, af, g⟩ e w u :=
  PR_load1 hA hx (by subst hk; exact hs.cellF hi hc)
/-- some cells of an element: a field that is a struct, or the whole -/
theorem PR_loadN_el {α : Type} [Flat α] {X : List Nat} {xs : List α} {v : Value} {us : List Value} {i j k m : Nat} {x : Operand} {t : TypeId} {D : TypeDesc} [hu : Und P t D] (hA : aggB D = true) [hsz : Siz P t m] (hx : ev e x = some (.pointer (some (elAddr v i k j))))
    (hs : SlV X w v xs) (hi : i < xs.length) (hk : k = Flat.k α) (hl : us.length = m) (hc : ((Flat.enc xs[i]).drop j).take m = us) : PR P n ⟨d, .load t x, ty, pos, af, g⟩ e w (.agg us.toArray) := by
  obtain ⟨p, l, c, hv⟩ := hs.isSome hi
  have hcell := fun (q : Nat) (u : Value) (h : (Flat.enc xs[i])[q]? = some u) => hs.cellF hi h
  subst hv
  refine PR_loadN hA hx hl (fun q u hq => ?_)
  have h1 : (Flat.enc xs[i])[j + q]? = some u := by
    rw [← hc, List.getElem?_take] at hq
    split at hq
    · simpa using hq
    · cases hq
  have := hcell (j + q) u h1
  subst hk
  simpa [elAddr, Nat.add_assoc] using this
theorem PR_load_elA {α : Type} [Flat α] {X : List Nat} {xs : List α} {v : Value} {i k : Nat} {x : Operand} {t : TypeId} {D : TypeDesc} [hu : Und P t D] (hA : aggB D = true) [hsz : Siz P t k] (hx : ev e x = some (.pointer (some (elAddr v i k 0))))
    (hs : SlV X w v xs) (hi : i < xs.length) (hk : k = Flat.k α) : PR P n ⟨d, .load t x, ty, pos, af, g⟩ e w (.agg (Flat.enc xs[i]).toArray) :=
  PR_loadN_el hA hx hs hi hk (by rw [hk]; exact Flat.len _) (by rw [List.drop_zero, List.take_of_length_le (by rw [hk, Flat.len]; exact Nat.le_refl _)])

theorem PR_load_blk {b T o : Nat} {cs : List Value} {u : Value} {x : Operand} {t : TypeId} {D : TypeDesc} [hu : Und P t D] (hA : aggB D = false) (hx : ev e x = some (.pointer (some ⟨b, o, none⟩))) (hb : Blk w b T cs) (hc : cs[o]? = some u) :
    PR P n ⟨d, .load t x, ty, pos, af, g⟩ e w u := PR_load1 hA hx (hb.cell hc)
theorem PR_loadN_blk {b T o m : Nat} {cs us : List Value} {x : Operand} {t : TypeId} {D : TypeDesc} [hu : Und P t D] (hA : aggB D = true) [hsz : Siz P t m] (hx : ev e x = some (.pointer (some ⟨b, o, none⟩))) (hb : Blk w b T cs)
    (hl : us.length = m) (hc : (cs.drop o).take m = us) : PR P n ⟨d, .load t x, ty, pos, af, g⟩ e w (.agg us.toArray) := by
  refine PR_loadN hA hx hl (fun q u hq => hb.cell ?_)
  rw [← hc, List.getElem?_take] at hq
  split at hq
  · simpa using hq
  · cases hq
/-- a whole block -/
theorem PR_load_blkA {b T m : Nat} {cs : List Value} {x : Operand} {t : TypeId} {D : TypeDesc} [hu : Und P t D] (hA : aggB D = true) [hsz : Siz P t m] (hx : ev e x = some (.pointer (some ⟨b, 0, none⟩))) (hb : Blk w b T cs)
    (hl : cs.length = m) : PR P n ⟨d, .load t x, ty, pos, af, g⟩ e w (.agg cs.toArray) :=
  PR_loadN_blk hA hx hb hl (by rw [List.drop_zero, List.take_of_length_le (by omega)])

/-! ### new blocks -/
def NewBlk (w : World) (T : TypeId) (cs : List Value) (v : Value) (w' : World) : Prop := ∃ b, v = .pointer (some ⟨b, 0, none⟩) ∧ w.heap.size ≤ b ∧ Blk w' b T cs ∧ Stp [] w w'

theorem newBlk (w : World) (T : TypeId) (cs : List Value) : NewBlk w T cs (.pointer (some ⟨w.heap.size, 0, none⟩)) (w.alloc (.cells cs.toArray T)) :=
  ⟨_, rfl, Nat.le_refl _, heap_alloc_new w _, Stp.alloc _ _ _⟩

theorem OE_value {o : Oper} {G : Value → World → Prop} {v : Value} {w' : World} (h : ∀ a, Has n e a → (execOp a.eval o).run P w = .ok (.value v) w') (hg : G v w') : OE P n o e w G :=
  ⟨fun a ha Q => by unfold Oper.wp; rw [h a ha]; exact ⟨v, rfl, hg⟩⟩
theorem OE_skip {o : Oper} {G : Value → World → Prop} {w' : World} (h : ∀ a, Has n e a → (execOp a.eval o).run P w = .ok .skip w') (hg : G undef w') : OE P n o e w G :=
  ⟨fun a ha Q => by unfold Oper.wp; rw [h a ha]; exact ⟨undef, rfl, hg⟩⟩
theorem OE.mono {o : Oper} {G G' : Value → World → Prop} (h : OE P n o e w G) (hg : ∀ v w', G v w' → G' v w') : OE P n o e w G' :=
  ⟨fun a ha Q => Oper.wp_mono (fun a' w' ⟨v, h1, h2⟩ => ⟨v, h1, hg v w' h2⟩) (h.h a ha Q)⟩

theorem OE_alloc {t : TypeId} {z : Value} [hz : Zer P t z] : OE P n ⟨d, .alloc t, ty, pos, af, g⟩ e w (NewBlk w t z.cells.toList) :=
  OE_value (v := .pointer (some ⟨w.heap.size, 0, none⟩)) (w' := w.alloc (.cells z.cells t)) (fun a ha => by
    simp [execOp, Instr.alloc, Zer.run, newVar, newRow, newObj]; rfl) (by simpa using newBlk w t z.cells.toList)
theorem OE_box {t : TypeId} {x : Operand} {v : Value} (hx : ev e x = some v) : OE P n ⟨d, .box t x, ty, pos, af, g⟩ e w (NewBlk w t v.cells.toList) :=
  OE_value (v := .pointer (some ⟨w.heap.size, 0, none⟩)) (w' := w.alloc (.cells v.cells t)) (fun a ha => by
    simp [execOp, Instr.box, ha.ev hx, newVar, newRow, newObj]; rfl) (by simpa using newBlk w t v.cells.toList)

theorem OE_boxS {α : Type} [GoRep α] {X : List Nat} {w₀ : World} {xs : List α} {t : TypeId} {x : Operand} {v : Value} (hx : ev e x = some v) (hs : SlV X w₀ v xs) : OE P n ⟨d, .box t x, ty, pos, af, g⟩ e w (NewBlk w t [v]) := by
  rw [← hs.cells]
  exact OE_box hx
/-! ### stores into a block -/
theorem setRow_stp (w : World) (b : Nat) (cs : Array Value) : Stp [b] w (w.setRow b cs) :=
  ⟨rfl, rfl, rfl, by simp, fun k hk hn => setRow_other w b k cs (by simpa using hn)⟩

theorem OE_store {b T o m t : Nat} {cs us : List Value} {x y : Operand} {u : Value} [hsz : Siz P t m] (hx : ev e x = some (.pointer (some ⟨b, o, none⟩))) (hy : ev e y = some u) (hu : u.cells.toList = us) (hm : us.length = m) (h1 : ∀ c ∈ us, c.oneCell' = true)
    (hb : Blk w b T cs) (hl : o + us.length ≤ cs.length) : OE P n ⟨d, .store t x y, ty, pos, af, g⟩ e w (fun _ w' => Stp [b] w w' ∧ Blk w' b T (cs.take o ++ us ++ cs.drop (o + us.length))) := by
  have hst := run_storeCells_at P b o T us 0 cs.toArray w hb (by simpa using hl) h1
  refine OE_skip (w' := w.setRow b (cs.take o ++ us ++ cs.drop (o + us.length)).toArray) (fun a ha => ?_) ⟨setRow_stp _ _ _, setRow_heap w b cs.toArray _ T (0, 0) hb⟩
  have hcs : u.cells.size = m := by rw [← hm, ← hu, Array.length_toList]
  simp only [Nat.add_zero] at hst
  simp [execOp, ha.ev hx, ha.ev hy, Instr.storeAt, Instr.sureAddr, storeVar, Siz.run, hcs, hu, hst]
/-- the whole block is written -/
theorem OE_storeA {b T m t : Nat} {cs us : List Value} {x y : Operand} {u : Value} [hsz : Siz P t m] (hx : ev e x = some (.pointer (some ⟨b, 0, none⟩))) (hy : ev e y = some u) (hu : u.cells.toList = us) (hm : us.length = m) (h1 : ∀ c ∈ us, c.oneCell' = true)
    (hb : Blk w b T cs) (hl : us.length = cs.length) : OE P n ⟨d, .store t x y, ty, pos, af, g⟩ e w (fun _ w' => Stp [b] w w' ∧ Blk w' b T us) :=
  (OE_store hx hy hu hm h1 hb (by omega)).mono (fun _ w' ⟨h2, h3⟩ => ⟨h2, by simpa [hl] using h3⟩)
/-- one cell is written -/
theorem OE_store1 {b T o t : Nat} {cs : List Value} {x y : Operand} {u : Value} [hsz : Siz P t 1] (hx : ev e x = some (.pointer (some ⟨b, o, none⟩))) (hy : ev e y = some u) (hu : u.cells.toList = [u]) (h1 : u.oneCell' = true)
    (hb : Blk w b T cs) (hl : o < cs.length) : OE P n ⟨d, .store t x y, ty, pos, af, g⟩ e w (fun _ w' => Stp [b] w w' ∧ Blk w' b T (cs.set o u)) :=
  (OE_store hx hy hu rfl (by simpa using h1) hb (by simp; omega)).mono (fun _ w' ⟨h2, h3⟩ => ⟨h2, by
    rw [List.set_eq_take_append_cons_drop, if_pos hl]
    simpa using h3⟩)
end rules

/-! ### rows that grow -/
def ob : Value → List Nat
  | .slice (some a) _ _ => [a.block]
  | _ => []
theorem ob_own (v : Value) : v.ownBlock.toList = ob v := by
  cases v <;> try rfl
  rename_i a _ _
  cases a <;> rfl

def Row {α : Type} [GoRep α] (X : List Nat) (w : World) (base T : Nat) (v : Value) (xs : List α) : Prop :=
  ∃ css : List (List Value), css.length = xs.length ∧ (∀ i (h : i < xs.length) (h' : i < css.length), GoRep.rep (ob v ++ X) w xs[i] css[i]) ∧ w.ownsRow base T (GoRep.k α) v xs.length css.flatten

section row
variable {α : Type} [GoRep α] {X : List Nat} {w w' : World} {base T : Nat} {v : Value} {xs : List α}

theorem Row.nil : Row (α := α) X w base T (.slice none 0 0) [] :=
  ⟨[], rfl, fun i h => absurd h (Nat.not_lt_zero _), by simpa using World.ownsRow_nil w base T (GoRep.k α)⟩
theorem Row.ob_le (h : Row X w base T v xs) : ∀ b ∈ ob v, base ≤ b ∧ b < w.heap.size := by
  obtain ⟨css, _, _, ho⟩ := h
  intro b hb
  rw [← ob_own] at hb
  exact ho.lt b (by simpa using hb)
theorem Row.ext {S X' : List Nat} (h : Row X w base T v xs) (hS : Stp S w w') (h1 : ∀ b ∈ S, b ∈ X ∧ b ∉ ob v) (h2 : ∀ b ∈ X', b ∈ X ∨ w.heap.size ≤ b) : Row X' w' base T v xs := by
  obtain ⟨css, hl, hr, ho⟩ := h
  refine ⟨css, hl, fun i hi hi' => GoRep.ext (hr i hi hi') hS (fun b hb => by simp [(h1 b hb).1]) (fun b hb => ?_), ?_⟩
  · simp only [List.mem_append] at hb ⊢
    rcases hb with hb | hb
    · exact .inl (.inl hb)
    · rcases h2 b hb with h | h
      · exact .inl (.inr h)
      · exact .inr h
  · refine ⟨ho.1, ?_⟩
    rcases ho.2 with hn | ⟨q, cap, cur, rfl, hb, hg, rest⟩
    · exact .inl hn
    · refine .inr ⟨q, cap, cur, rfl, hb, ?_, rest⟩
      rw [hS.block q (Array.getElem?_eq_some_iff.1 hg).1 (fun hq => (h1 q hq).2 (by simp [ob]))]
      exact hg
theorem Row.up (h : Row X w base T v xs) (hS : Stp [] w w') : Row X w' base T v xs := h.ext hS (by simp) (fun b hb => .inl hb)

theorem flatten_at {k : Nat} : ∀ (css : List (List Value)), (∀ c ∈ css, c.length = k) → ∀ (i : Nat) (hi : i < css.length) (j : Nat) (u : Value), css[i][j]? = some u → css.flatten[i * k + j]? = some u
  | [], _, i, hi, _, _, _ => absurd hi (Nat.not_lt_zero _)
  | c :: r, hk, 0, _, j, u, hu => by
    have hj : j < c.length := (List.getElem?_eq_some_iff.1 hu).1
    simp only [List.flatten_cons, Nat.zero_mul, Nat.zero_add]
    rw [List.getElem?_append_left hj]
    exact hu
  | c :: r, hk, i + 1, hi, j, u, hu => by
    have ih := flatten_at r (fun c hc => hk c (by simp [hc])) i (by simpa using hi) j u (by simpa using hu)
    have hc := hk c (by simp)
    simp only [List.flatten_cons]
    rw [List.getElem?_append_right (by rw [hc, Nat.succ_mul]; omega), hc]
    rw [show (i + 1) * k + j - k = i * k + j by rw [Nat.succ_mul]; omega]
    exact ih

/-- a row reads as a slice -/
theorem Row.slv (h : Row X w base T v xs) (hX : ∀ b ∈ X, b < base) : SlV X w v xs := by
  obtain ⟨css, hl, hr, ho⟩ := h
  have hk : ∀ c ∈ css, c.length = GoRep.k α := by
    intro c hc
    obtain ⟨i, hi, rfl⟩ := List.getElem_of_mem hc
    exact GoRep.len (hr i (by omega) hi)
  rcases ho.2 with ⟨rfl, hn⟩ | ⟨q, cap, cur, rfl, hb, hg, hnc, hcm, hcs, ht⟩
  · exact ⟨none, 0, by rw [hn], by omega, by simp [maxLen], fun _ => rfl, fun i hi => by omega⟩
  · refine ⟨some ⟨q, 0, none⟩, cap, rfl, hnc, hcm, fun h => by simp at h, fun i hi => ?_⟩
    refine ⟨q, 0, css[i]'(by omega), rfl, (Array.getElem?_eq_some_iff.1 hg).1, fun hx => by have := hX q hx; omega, ?_, fun j u hu => ?_⟩
    · exact GoRep.ext (hr i hi (by omega)) (Stp.refl [] w) (by simp) (fun b hb => .inl (by simp [hb]))
    · have h1 := flatten_at css hk i (by omega) j u hu
      rw [← ht, List.getElem?_take] at h1
      split at h1
      · have h2 : cur[i * GoRep.k α + j]? = some u := by simpa using h1
        rw [Nat.zero_add, cell_of_row w q _ cur T (0, 0) hg]
        exact h2
      · cases h1

/-- one more fact on append: the new row lies in the old block or in a new one -/
theorem append_block {P : Program} {t ty e size bytes : Nat} {i : TypeInfo} {z : Value} (ht : P.underlying t = some (.slice e)) (hi : P.info? e = some i) (hz : i.zero = some z)
    (hsize : i.size = size) (hby : i.bytes = bytes) {v : Value} {n : Nat} {cs : List Value} (hown : w.ownsRow base e size v n cs)
    {a : Addr} {m c : Nat} {news : List Value} (hl : news.length = m * size) (hnews : ∀ j u, news[j]? = some u → w.cell? (a.add j) = some u) (h1 : ∀ u ∈ news, u.oneCell' = true)
    (h63 : n + m ≤ maxLen) (hbytes : (n + m) * bytes ≤ 140737488355328) {v' : Value} {w' : World} (hr : (Builtin.append_ #[t, t] ty #[v, .slice (some a) m c]).run P w = .ok v' w') :
    ∀ b ∈ ob v', b ∈ ob v ∨ w.heap.size ≤ b := by
  subst hsize
  subst hby
  have hsmall : n + m ≤ 9223372036854775807 := by simp only [maxLen] at h63; omega
  rcases hown.2 with ⟨rfl, rfl⟩ | ⟨q, cap, cur, rfl, hbg, hg, hnc, hcm, hcs, htake⟩
  · by_cases hm : m = 0
    · subst hm
      have hn : news = [] := List.eq_nil_of_length_eq_zero (by simpa using hl)
      subst hn
      have : (Builtin.append_ #[t, t] ty #[.slice none 0 0, .slice (some a) 0 c]).run P w = .ok (.slice none 0 0) w := by
        simp [Builtin.append_, run_underlying ht, sizeOf, typeInfo, hi, Builtin.lenOf, Builtin.firstCells, loadCells, loadCellsFrom]
      rw [this] at hr
      cases hr
      simp [ob]
    · have h := run_append_nil (P := P) w t ty e i z ht hi hz a m c news hl hnews (by omega) (by omega) (by have hb := hbytes; simp only [Nat.zero_add] at hb; omega)
      rw [h] at hr
      cases hr
      simp [ob]
  · by_cases hroom : n + m ≤ cap
    · have hfit : n * i.size + news.length ≤ cur.size := by rw [hl, hcs, ← Nat.add_mul]; exact Nat.mul_le_mul_right _ hroom
      have h := run_append_room (P := P) w t ty e i ht hi q n cap cur hg a m c news hl hnews h1 hroom hfit
      rw [h] at hr
      cases hr
      simp [ob]
    · have holds : ∀ j u, cs[j]? = some u → w.cell? ((⟨q, 0, none⟩ : Addr).add j) = some u := hown.cells (g := q) rfl
      have h := run_append_grow (P := P) w t ty e i z ht hi hz ⟨q, 0, none⟩ n cap cs hown.1 holds a m c news hl hnews (by omega) (by omega) (growslice_fits (by omega) hbytes)
      rw [h] at hr
      cases hr
      simp [ob]

/-- what append leaves -/
def Appended (X : List Nat) (w : World) (base T : Nat) (v : Value) (xs ys : List α) (v' : Value) (w' : World) : Prop :=
  Row X w' base T v' (xs ++ ys) ∧ Stp (ob v) w w' ∧ ∀ b ∈ ob v', b ∈ ob v ∨ w.heap.size ≤ b

theorem OE_append {P : Program} {n : Nat} {e : Env} {d : Option Nat} {ty : TypeId} {pos : String} {af : Array Edge} {g : Option (Nat × Bool)} {x y : Operand} {t bytes : Nat} {u : Value} {z : Value} {ys : List α}
    [ht : Und P t (.slice T)] [hk : Siz P T (GoRep.k α)] [hb : Byt P T bytes] [hz : Zer P T z] (hzs : z.cells.size = GoRep.k α) (hpos : 0 < GoRep.k α)
    (hx : ev e x = some v) (hy : ev e y = some u) (hrow : Row X w base T v xs) (hys : SlV (ob v ++ X) w u ys) (hbytes : (xs.length + ys.length) * bytes ≤ 140737488355328) (hlen : xs.length + ys.length ≤ maxLen) (hbase : base ≤ w.heap.size) :
    OE P n ⟨d, .call { callee := .builtin .append, args := #[x, y], argTypes := #[t, t] }, ty, pos, af, g⟩ e w (Appended X w base T v xs ys) := by
  obtain ⟨i, hi, hi1, hi2, hi3⟩ : ∃ i, P.info? T = some i ∧ i.size = GoRep.k α ∧ i.bytes = bytes ∧ i.zero = some z := by
    have a1 := hk.h
    have a2 := hb.h
    have a3 := hz.h
    cases hi : P.info? T with
    | none => simp [hi] at a1
    | some i => exact ⟨i, rfl, by simpa [hi] using a1, by simpa [hi] using a2, by simpa [hi] using a3⟩
  have hrow0 := hrow
  obtain ⟨css, hl, hr, ho⟩ := hrow
  obtain ⟨p, c, rfl, hyl, hym, hyn, hyc⟩ := hys
  -- the cells of the source
  have hsrc : ∃ dss : List (List Value), dss.length = ys.length ∧ (∀ j (h : j < ys.length) (h' : j < dss.length), GoRep.rep (ob v ++ X) w ys[j] dss[j] ∧ ∃ b o, p = some ⟨b, o, none⟩ ∧ ∀ q u, dss[j][q]? = some u → w.cell? ⟨b, o + j * GoRep.k α + q, none⟩ = some u) := by
    have : ∀ j : Fin ys.length, ∃ ds : List Value, GoRep.rep (ob v ++ X) w ys[j] ds ∧ ∃ b o, p = some ⟨b, o, none⟩ ∧ ∀ q u, ds[q]? = some u → w.cell? ⟨b, o + j * GoRep.k α + q, none⟩ = some u := by
      intro j
      obtain ⟨b, o, cs, h1, h2, h3, h4, h5⟩ := hyc j j.2
      exact ⟨cs, h4, b, o, h1, h5⟩
    obtain ⟨f, hf⟩ := Classical.axiomOfChoice this
    refine ⟨List.ofFn f, by simp, fun j h h' => ?_⟩
    have := hf ⟨j, h⟩
    simpa using this
  obtain ⟨dss, hdl, hd⟩ := hsrc
  have hdk : ∀ c ∈ dss, c.length = GoRep.k α := by
    intro c hc
    obtain ⟨q, hq, rfl⟩ := List.getElem_of_mem hc
    exact GoRep.len (hd q (by omega) hq).1
  have hflen : ∀ (l : List (List Value)), (∀ c ∈ l, c.length = GoRep.k α) → l.flatten.length = l.length * GoRep.k α := by
    intro l
    induction l with
    | nil => intro _; simp
    | cons c r ih => intro h; simp only [List.flatten_cons, List.length_append, List.length_cons, Nat.succ_mul]; rw [ih (fun c hc => h c (by simp [hc])), h c (by simp)]; omega
  have hone : ∀ u ∈ dss.flatten, u.oneCell' = true := by
    intro u hu
    obtain ⟨c, hc, huc⟩ := List.mem_flatten.1 hu
    obtain ⟨q, hq, rfl⟩ := List.getElem_of_mem hc
    exact GoRep.one (hd q (by omega) hq).1 u huc
  -- the end, out of what the law gives
  have fin : ∀ (v' : Value) (w' : World), w'.ownsRow base T (GoRep.k α) v' (xs.length + ys.length) (css.flatten ++ dss.flatten) → Stp (ob v) w w' → (∀ b ∈ ob v', b ∈ ob v ∨ w.heap.size ≤ b) → Appended X w base T v xs ys v' w' := by
    intro v' w' ho' hS hb'
    have hX : ∀ b ∈ ob v' ++ X, b ∈ ob v ++ X ∨ w.heap.size ≤ b := by
      intro b hb
      simp only [List.mem_append] at hb ⊢
      rcases hb with hb | hb
      · rcases hb' b hb with h | h
        · exact .inl (.inl h)
        · exact .inr h
      · exact .inl (.inr hb)
    have hSX : ∀ b ∈ ob v, b ∈ ob v ++ X := fun b hb => by simp [hb]
    refine ⟨⟨css ++ dss, by simp [hl, hdl], fun i hi hi' => ?_, ?_⟩, hS, hb'⟩
    · by_cases hlt : i < xs.length
      · rw [List.getElem_append_left hlt, List.getElem_append_left (by omega)]
        exact GoRep.ext (hr i hlt (by omega)) hS hSX hX
      · have hi2 : i < xs.length + ys.length := by simpa using hi
        rw [List.getElem_append_right (by omega), List.getElem_append_right (by omega)]
        have := GoRep.ext (hd (i - xs.length) (by omega) (by omega)).1 hS hSX hX
        simpa [hl] using this
    · rw [List.flatten_append]
      simpa using ho'
  cases p with
  | none =>
    have hy0 : ys.length = 0 := by
      cases hys : ys with
      | nil => rfl
      | cons y r =>
        obtain ⟨b, o, cs, hp, _⟩ := hyc 0 (by simp [hys])
        simp at hp
    have hc0 : c = 0 := hyn rfl
    subst hc0
    have hd0 : dss = [] := List.eq_nil_of_length_eq_zero (by omega)
    subst hd0
    have hrun := run_append_owned_none (P := P) w base t ty T i (GoRep.k α) ht.h hi v xs.length css.flatten ho
    refine OE_value (v := v) (w' := w) (fun a ha => ?_) (fin v w (by simpa [hy0] using ho) (Stp.refl _ _) (fun b hb => .inl hb))
    rw [hy0] at hy
    simp [execOp, resolve, invoke, builtin, ha.ev hx, ha.ev hy, hrun]
  | some a =>
    have hnews : ∀ j u, dss.flatten[j]? = some u → w.cell? (a.add j) = some u := by
      intro j u hj
      have hjl : j < dss.flatten.length := (List.getElem?_eq_some_iff.1 hj).1
      rw [hflen dss hdk] at hjl
      have hq : j / GoRep.k α < dss.length := (Nat.div_lt_iff_lt_mul hpos).2 hjl
      obtain ⟨h1, b, o, hp, hcell⟩ := hd (j / GoRep.k α) (by omega) hq
      simp only [Option.some.injEq] at hp
      subst hp
      have hmod : j % GoRep.k α < GoRep.k α := Nat.mod_lt _ hpos
      have hj2 : j / GoRep.k α * GoRep.k α + j % GoRep.k α = j := by rw [Nat.mul_comm]; exact Nat.div_add_mod j _
      have hlk : dss[j / GoRep.k α].length = GoRep.k α := hdk _ (List.getElem_mem hq)
      have hat : dss[j / GoRep.k α][j % GoRep.k α]? = some (dss[j / GoRep.k α][j % GoRep.k α]'(by omega)) := List.getElem?_eq_getElem (by omega)
      have h2 := flatten_at dss hdk _ hq _ _ hat
      rw [hj2, hj] at h2
      have h3 := hcell _ _ hat
      rw [Addr.add_lit]
      rw [Nat.add_assoc, hj2] at h3
      rw [h3, h2]
    have hl2 : dss.flatten.length = ys.length * GoRep.k α := by rw [hflen dss hdk, hdl]
    obtain ⟨v', w', hrun, h2, h3, h4⟩ := run_append_own (P := P) w base t ty T i z (GoRep.k α) bytes ht.h hi hi3 hi1 hi2 hzs hpos v xs.length css.flatten ho a ys.length c dss.flatten hl2 hnews hone hlen hbytes hbase
    have hblk := append_block (P := P) ht.h hi hi3 hi1 hi2 ho hl2 hnews hone hlen hbytes hrun
    have hS : Stp (ob v) w w' := by rw [← ob_own]; exact Stp.of_grown h3
    refine OE_value (v := v') (w' := w') (fun a ha => ?_) (fin v' w' h2 hS hblk)
    simp [execOp, resolve, invoke, builtin, ha.ev hx, ha.ev hy, hrun]
end row
end Go.Eng
