/-
Merged by program out of own texts: Eng11, Eng12, Eng13, Eng14, Eng15, Eng7, Eng8, Eng16, Eng17, Shl, Ty, Typ1, Eng10, Typ2, Typ3, Typ4, Typ5, Typ6, Typ7, Typ8, Typ9, Typ10, Typ11, Typ12, Typ13, Cmp1, Cmp2, Cmp3, Cmp4, Cmp5, Cmp6, Cmp10, Prn1.
-/
import Derived.Test.YtgpibcgebpgmiaaGreatDoorM1
import Derived.Lib.AppendZeros
import Derived.Laws.OwnMore
import Derived.Deep.Slices
import Derived.Deep.Fields
import Derived.ChangeSame
import Derived.Below
import Derived.Carry
import Derived.ChangeOld
import Derived.ProofKit
import Derived.OpenShut
import Derived.SizedLaws
import Derived.HandedShaped
import Derived.LaidMore
import Derived.Stop.Joined
import Derived.SevenTiedAt
import Derived.MakeChecks
import Derived.Lib.ConvBytes
import Derived.Laws.AppendOwn
import Derived.Shelf.Strings.Builder1
import Derived.Shelf.Strings.Builder2
import Derived.Shelf.Strings.OnBuilder
import Derived.Shelf.Small.Utf8
import Derived.Shelf.Small.Bits
import Derived.Shelf.Small.Strs
import Derived.Shelf.Small.Wraps
import Derived.Shelf.Strings.BuilderF
import Derived.Shelf.Strconv.Atoi
import Derived.Shelf.Strconv.Itoa0
import Derived.Shelf.Strconv.Itoa1
import Derived.Shelf.LaysM
import Derived.Shelf.Strconv.Itoa2
import Derived.Shelf.Strconv.Itoa3
import Derived.Shelf.Strconv.AtoiErrFast
import Derived.Shelf.Strconv.ParseIntEmpty
import Derived.Shelf.Strconv.AtoiFail
import Derived.Shelf.Strconv.Clone
import Derived.Shelf.Strconv.SyntaxError
import Derived.Shelf.LaysC
import Derived.Shelf.Strconv.ToError
import Derived.Shelf.Strconv.Lower
import Derived.Shelf.Strconv.ParseUint10
import Derived.Shelf.Strconv.ParseUint10Empty
import Derived.Shelf.Strconv.ParseUint10Any
import Derived.Shelf.Strconv.ParseInt10
import Derived.Shelf.Strconv.AtoiLong
import Derived.Shelf.Strconv.AtoiInnerAll
import Derived.Shelf.Strconv.RangeError
import Derived.Shelf.Strconv.ToErrorRange
import Derived.Shelf.Strconv.AtoiAll
import Derived.Shelf.Strconv.ErrVarAll
import Derived.Shelf.Strings.Search1
import Derived.Shelf.Strings.Search2
import Derived.Shelf.Strings.Search3
import Derived.Shelf.Strings.Shaped
import Derived.Shelf.Strings.Prefix
import Derived.Shelf.Strings.Runes
import Derived.Shelf.Bits.Mul64
import Derived.Test.YtgpibcgebpgmiaaGreatDoorProg
import Derived.Test.YtgpibcgebpgmiaaGreatDoorRows
import Derived.MapKept
import Derived.Laws.StructEq
import Derived.ChangeKeysEq

/-
Rows that a pure function makes; slices of slices.
-/
namespace Go.Eng
open Go Go.RowKit Go.Proofs
set_option linter.unusedVariables false

/-- a row made since w: nothing else has changed -/
def RowF {β : Type} [Flat β] (T : Nat) (w w' : World) (v : Value) (xs : List β) : Prop := Row [] w' w.heap.size T v xs ∧ Stp [] w w'
section
variable {β : Type} [Flat β] {T : Nat} {w w' w'' : World} {v : Value} {xs ys : List β}
theorem Row.lower {α : Type} [GoRep α] {X : List Nat} {a b : Nat} {xs : List α} (h : Row X w b T v xs) (hab : a ≤ b) : Row X w a T v xs := by
  obtain ⟨css, h1, h2, h3, h4⟩ := h
  refine ⟨css, h1, h2, h3, h4.imp id ?_⟩
  rintro ⟨g, cap, cur, e1, e2, rest⟩
  exact ⟨g, cap, cur, e1, Nat.le_trans hab e2, rest⟩
theorem RowF.nil : RowF (β := β) T w w (.slice none 0 0) [] := ⟨Row.nil, Stp.refl _ _⟩
theorem RowF.up (h : RowF T w w' v xs) (hS : Stp [] w' w'') : RowF T w w'' v xs := ⟨h.1.up hS, h.2.trans hS⟩
theorem RowF.pre (hS : Stp [] w w') (h : RowF T w' w'' v xs) : RowF T w w'' v xs := ⟨h.1.lower hS.size, hS.trans h.2⟩
theorem RowF.one {cs : List Value} {len : Nat} (h : NewSl w T len cs v w') (hl : len = xs.length) (hc : cs = xs.flatMap Flat.enc) (hm : xs.length ≤ maxLen) : RowF T w w' v xs := ⟨h.row (Nat.le_refl _) hl hc hm, h.choose_spec.2.2.2⟩
theorem RowF.slv (h : RowF T w w' v xs) {X : List Nat} (hX : ∀ b ∈ X, b < w.heap.size) : SlV X w' v xs := Row.slv (X := X) h.1 hX
theorem RowF.ob_le (h : RowF T w w' v xs) : ∀ b ∈ ob v, w.heap.size ≤ b ∧ b < w'.heap.size := h.1.ob_le
/-- a step that may write only the row's own block, or newer ones -/
theorem RowF.step {S : List Nat} (h : RowF T w w' v xs) (hS : Stp S w' w'') (ho : ∀ b ∈ S, b ∈ ob v) : Stp [] w w'' := h.2.own hS (fun b hb => .inr (h.ob_le b (ho b hb)).1)
section
variable {P : Program} {n : Nat} {e : Env} {d : Option Nat} {ty : TypeId} {pos : String} {af : Array Edge} {g : Option (Nat × Bool)}
theorem OE_appF {x y : Operand} {t bytes : Nat} {u : Value} {z : Value} [ht : Und P t (.slice T)] [hk : Siz P T (GoRep.k β)] [hb : Byt P T bytes] [hz : Zer P T z] (hzs : z.cells.size = GoRep.k β) (hpos : 0 < GoRep.k β)
    (hx : ev e x = some v) (hy : ev e y = some u) (h : RowF T w w' v xs) (hys : SlV (ob v) w' u ys) (hbytes : (xs.length + ys.length) * bytes ≤ 140737488355328) (hlen : xs.length + ys.length ≤ maxLen) :
    OE P n ⟨d, .call { callee := .builtin .append, args := #[x, y], argTypes := #[t, t] }, ty, pos, af, g⟩ e w' (fun v' w'' => RowF T w w'' v' (xs ++ ys) ∧ Stp (ob v) w' w'' ∧ ∀ b ∈ ob v', b ∈ ob v ∨ w'.heap.size ≤ b) := by
  refine (OE_append (X := []) (base := w.heap.size) hzs hpos hx hy h.1 (by rw [List.append_nil]; exact hys) hbytes hlen h.2.size).mono ?_
  rintro v' w2 ⟨h1, h2, h3⟩
  exact ⟨⟨h1, h.step h2 (fun _ hb => hb)⟩, h2, h3⟩
end
end

/-- a slice as an element -/
structure Sl (α : Type) where
  l : List α
instance {α : Type} [GoRep α] : GoRep (Sl α) where
  k := 1
  rep := fun X w x cs => ∃ v, cs = [v] ∧ SlV X w v x.l
  len := by rintro X w x cs ⟨v, rfl, _⟩; rfl
  one := by
    rintro X w x cs ⟨v, rfl, p, c, rfl, _⟩ u hu
    simp at hu
    subst hu
    rfl
  ext := by
    rintro X S X' w w' x cs ⟨v, rfl, h⟩ hS h1 h2
    exact ⟨v, rfl, h.ext hS h1 h2⟩
theorem SlV.sub {α : Type} [GoRep α] {w : World} {X : List Nat} {v : Value} {xss : List (Sl α)} {i : Nat} (h : SlV X w v xss) (hi : i < xss.length) : ∃ u, w.cell? (elAddr v i 1 0) = some u ∧ SlV X w u xss[i].l := by
  obtain ⟨cs, ⟨u, rfl, hu⟩, hc⟩ := h.cell hi
  exact ⟨u, hc 0 u rfl, hu⟩
end Go.Eng


/-
cap, append of a make, a raw slice cut to nothing.
-/
namespace Go.Eng
open Go Go.RowKit Go.Proofs
set_option linter.unusedVariables false
variable {P : Program} {n : Nat} {e : Env} {w : World} {d : Option Nat} {ty : TypeId} {pos : String} {af : Array Edge} {g : Option (Nat × Bool)}
end Go.Eng


/-
A new slice of zeros, one cell to an element.
-/
namespace Go.Eng
open Go Go.RowKit Go.Proofs
set_option linter.unusedVariables false
variable {P : Program} {n : Nat} {e : Env} {w : World} {d : Option Nat} {ty : TypeId} {pos : String} {af : Array Edge} {g : Option (Nat × Bool)}
end Go.Eng


/-
An element of a row is written: the other blocks may lie anywhere.
-/
namespace Go.Eng
open Go Go.RowKit Go.Proofs
set_option linter.unusedVariables false
section
variable {P : Program} {n : Nat} {e : Env} {d : Option Nat} {ty : TypeId} {pos : String} {af : Array Edge} {g : Option (Nat × Bool)}
variable {α : Type} [GoRep α] {X : List Nat} {w w' : World} {base T : Nat} {v : Value} {xs : List α}
end
end Go.Eng


/-
The walk engine, part 15: a drawn region whose world has as many blocks as the one before; a new block by its number.
-/
namespace Go.Eng
open Go Go.RowKit Go.Proofs
set_option linter.unusedVariables false
section
variable {P : Program} {n : Nat} {Q : Exit → Act → World → Prop} {e : Env} {w : World}
theorem oper_monoQ {o : Oper} {a : Act} {w : World} {K K' : Act → World → Prop} {Q' : Exit → Act → World → Prop} (h : ∀ a w, K a w → K' a w) (hq : ∀ ex a w, Q' ex a w → Q ex a w)
    (hh : o.wp P a w K Q') : o.wp P a w K' Q := by
  unfold Oper.wp at *
  generalize (execOp a.eval o).run P w = r at *
  cases r with
  | ok n w' =>
    cases n <;> simp only [Oper.upon] at hh ⊢ <;>
      first
        | exact h _ _ hh
        | exact Calls.mono hh (fun e w'' he => by cases e <;> first | exact h _ _ he | exact hq _ _ _ he | exact he.elim (fun a h => h.elim (fun w h => ⟨a, w, hq _ _ _ h⟩)))
        | exact Rows.mono hh (fun _ _ he => h _ _ he)
  | halt x w' => cases x <;> simp only [Oper.upon] at hh ⊢ <;> first | exact hq _ _ _ hh | exact hh
theorem wpList_monoQ {ops : Array Oper} {Q' : Exit → Act → World → Prop} (hq : ∀ ex a w, Q' ex a w → Q ex a w) : ∀ (l : List Oper) (a : Act) (w : World), wpList P ops Q' l a w → wpList P ops Q l a w
  | [], a, w, h => hq _ _ _ h
  | o :: rest, a, w, h => by
    unfold wpList at h ⊢
    split
    · rename_i hw
      rw [if_pos hw] at h
      rcases h with h | ⟨h1, a', w', h2⟩
      · exact .inl (oper_monoQ (fun a w h => wpList_monoQ hq rest a w h) hq h)
      · exact .inr ⟨h1, a', w', hq _ _ _ h2⟩
    · rename_i hw
      rw [if_neg hw] at h
      exact wpList_monoQ hq rest _ _ h
/-- a cut inside a region -/
theorem WL_cutQ {y : Code} {σ : Type} {ops : Array Oper} {l : List Oper} (env : σ → Env) (I : σ → World → Prop)
    (h : WL P n ops (Exit.then (fun a w => ∃ s, Has n (env s) a ∧ I s w) Q) l e w) (k : ∀ s w, I s w → WC P n y Q (env s) w) : WL P n ops (Exit.then (fun a w => y.wp P Q a w) Q) l e w :=
  ⟨fun a ha => wpList_monoQ (fun ex a w hq => by
    cases ex with
    | normal => obtain ⟨s, h1, h2⟩ := hq; exact (k s w h2).h a h1
    | _ => exact hq) l a w (h.h a ha)⟩
end
end Go.Eng


/-
Arguments opened: a slice of plain data reads as a list ('SlV').
-/
namespace Go.Eng
open Go Go.RowKit Go.Proofs Go.ChangeShapes Go.WideShapes Go.Deep
set_option linter.unusedVariables false
section
variable {H : Type} {enc : TypeId × Value → H} {P : Program} {w : World} {base : Nat} {spare : Nat → Bool} {held : Bool}
theorem addr_add (b o n : Nat) : (⟨b, o, none⟩ : Addr).add n = ⟨b, o + n, none⟩ := by
  unfold Addr.add
  split
  · rename_i h; subst h; rfl
  · rfl
/-- how many elements a datum lists -/
def dlen : DataW H → Nat
  | .slice els _ => els.length
  | _ => 0
theorem slv_of_trod {α : Type} [Flat α] {ok : α → Prop} {t e : TypeId} {fuel : Nat} {cs : List Value} {x : DataW H × List MemPlace} (ht : P.underlying t = some (.slice e)) (hC : P.cellsOf e = Flat.k α) (hpos : 0 < Flat.k α)
    (hread : ∀ n cs' y, cs'.length = Flat.k α → DataW.trod enc P w base spare held n e cs' = some y → ∃ a : α, cs' = Flat.enc a ∧ ok a)
    (h : DataW.trod enc P w base spare held fuel t cs = some x) : ∃ (v : Value) (xs : List α), cs = [v] ∧ SlV [] w v xs ∧ (∀ a ∈ xs, ok a) ∧ dlen x.1 = xs.length := by
  rcases open_slice ht h with ⟨rfl, rfl⟩ | ⟨a, len, cap, m, n, D, Pl, rfl, hb, hl, hm, hmm, hx, hi⟩
  · exact ⟨_, [], rfl, ⟨none, 0, rfl, Nat.le_refl _, by simp [maxLen], fun _ => rfl, fun i h => absurd h (Nat.not_lt_zero _)⟩, by simp, rfl⟩
  · have hlm : len ≤ m := by rw [hmm]; split <;> omega
    have hne : ∀ y : α, ∃ u, (Flat.enc y)[0]? = some u := fun y => ⟨_, List.getElem?_eq_getElem (by rw [Flat.len y]; exact hpos)⟩
    have hall : ∀ i : Fin len, ∃ y : α, ok y ∧ ∀ j u, (Flat.enc y)[j]? = some u → w.cell? (a.add (i * Flat.k α + j)) = some u := by
      intro i
      obtain ⟨cs', hc, htr⟩ := hi i (by omega)
      rw [hC] at hc
      obtain ⟨_, hcl, hat⟩ := World.cells?_some hc
      obtain ⟨y, rfl, hok⟩ := hread n cs' _ hcl htr
      refine ⟨y, hok, fun j u hu => ?_⟩
      have hj : j < Flat.k α := by
        have := (List.getElem?_eq_some_iff.1 hu).1
        rw [Flat.len] at this; exact this
      have := hat j hj
      rw [hu] at this
      rw [← this, Go.Deep.add_add]
    let f : Fin len → α := fun i => (hall i).choose
    have hf : ∀ i : Fin len, ok (f i) ∧ ∀ j u, (Flat.enc (f i))[j]? = some u → w.cell? (a.add (i * Flat.k α + j)) = some u := fun i => (hall i).choose_spec
    refine ⟨_, List.ofFn f, rfl, ⟨some a, cap, by simp, by simpa using hl, hm, by simp, fun i hi' => ?_⟩, fun y hy => ?_, by rw [hx]; simp [dlen]⟩
    · have hi'' : i < len := by simpa using hi'
      have hfi := (hf ⟨i, hi''⟩).2
      obtain ⟨u1, hu1⟩ : ∃ u, (Flat.enc (f ⟨0, by omega⟩))[0]? = some u := hne _
      have hc1 := (hf ⟨0, by omega⟩).2 0 u1 hu1
      obtain ⟨u0, hu0⟩ : ∃ u, (Flat.enc (f ⟨i, hi''⟩))[0]? = some u := hne _
      have hc0 := hfi 0 u0 hu0
      have hsp : a.spot = none := by
        have e0 : a.add ((⟨0, by omega⟩ : Fin len).val * Flat.k α + 0) = a := by simp [Addr.add]
        rw [e0] at hc1
        unfold World.cell? at hc1
        split at hc1
        · cases hs : a.spot with
          | none => rfl
          | some s => simp [hs] at hc1
        · cases hc1
      obtain ⟨b, o, sp⟩ := a
      cases hsp
      refine ⟨b, o, Flat.enc (f ⟨i, hi''⟩), rfl, ?_, by simp, ?_, fun j u hu => ?_⟩
      · have := block_lt_of_cell (a := (⟨b, o, none⟩ : Addr).add (i * Flat.k α + 0)) hc0
        simpa [addr_add] using this
      · simp; rfl
      · have := hfi j u hu
        rw [addr_add] at this
        rw [show o + i * GoRep.k α + j = o + (i * Flat.k α + j) from Nat.add_assoc _ _ _]
        exact this
    · obtain ⟨i, rfl⟩ := List.mem_ofFn.1 hy
      exact (hf i).1

theorem slv_ints {t e : TypeId} {fuel : Nat} {cs : List Value} {x : DataW H × List MemPlace} (ht : P.underlying t = some (.slice e)) (hC : P.cellsOf e = 1) (he : P.underlying e = some (.int .i64))
    (h : DataW.trod enc P w base spare held fuel t cs = some x) : ∃ (v : Value) (xs : List Int), cs = [v] ∧ SlV [] w v xs ∧ (∀ a ∈ xs, I64 a) ∧ dlen x.1 = xs.length :=
  slv_of_trod (α := Int) ht hC (by decide) (fun n cs' y hl hy => by
    obtain ⟨z, rfl, _, hw⟩ := DataW.trod_int he hy
    exact ⟨z, rfl, by simpa [I64, Lit.wf, IntKind.min, IntKind.max, IntKind.signed, IntKind.bits] using hw⟩) h
end
end Go.Eng


/-
A law's last step: the call returns true and leaves the old blocks as they were; so each argument reads as it read.
-/
namespace Go.Eng
open Go Go.RowKit Go.Proofs Go.ChangeShapes Go.WideShapes
set_option linter.unusedVariables false
section
variable {H : Type} {enc : TypeId × Value → H} {P : Program}

/-- the types of the arguments can be read and are rows of the table -/
def rowed (P : Program) (ts : List TypeId) : Bool := ts.all fun t => P.readableRec t && decide (t < P.types.size)

theorem trodAll_stays (hl : laidOutB P = true) {W W' : World} (hb : Below W.heap.size W W') {sp : Nat → Bool} : ∀ {ts : List TypeId} {vs : List Value} {ds : List (DataW H)} {ps : List MemPlace}, rowed P ts = true →
    DataW.TrodAll enc P W 0 (fun _ => true) true ts vs ds ps → (∀ x ∈ ps, x.block < W.heap.size) → (∀ x ∈ ps, sp x.block = true) → DataW.TrodAll enc P W' 0 sp true ts vs ds ps
  | [], [], [], _, _, h, _, _ => h
  | t :: ts, v :: vs, d :: ds, ps, hr, h, hlt, hs => by
    obtain ⟨p, q, h1, h2, rfl⟩ := h
    simp only [rowed, List.all_cons, Bool.and_eq_true, decide_eq_true_eq] at hr
    obtain ⟨⟨r1, r2⟩, r3⟩ := hr
    exact ⟨p, q, WideElems.Trod_stays hl r1 r2 h1 (fun x hx => hb.same (hlt x (by simp [hx]))) (fun x hx => hs x (by simp [hx])), trodAll_stays hl hb (by simpa [rowed] using r3) h2 (fun x hx => hlt x (by simp [hx])) (fun x hx => hs x (by simp [hx])), rfl⟩
  | [], _ :: _, _, _, _, h, _, _ => h.elim
  | [], [], _ :: _, _, _, h, _, _ => h.elim
  | _ :: _, [], _, _, _, h, _, _ => h.elim
  | _ :: _, _ :: _, [], _, _, h, _, _ => h.elim

section
variable {f : Func} {s : ChangeSpec} {apart fresh handsOn again : Bool} {W W' : World} {args : Array Value} {v : Value} {ds gs : List (DataW H)} {before pa pv : List MemPlace}
theorem post_of_below
    (hW : DataW.Whole enc P f.params.toList s.vars apart W args.toList ds gs before)
    (hres : ∀ (b : Nat) (sp : Nat → Bool) (hd : Bool), DataW.TrodAll enc P W' b sp hd f.resultTypes.toList (v.resultList f.resultTypes.size) (s.fn H (ds ++ gs)).results [])
    (hargs : ∀ sp : Nat → Bool, (∀ p ∈ before, sp p.block = true) → DataW.TrodAll enc P W' 0 sp true f.params.toList args.toList (s.fn H (ds ++ gs)).args pa)
    (hvars : ∀ sp : Nat → Bool, (∀ p ∈ before, sp p.block = true) → DataW.TrodVars enc P W' sp s.vars (s.fn H (ds ++ gs)).vars pv)
    (hps : before = pa ++ pv) (hb : Below W.heap.size W W')
    (hok : ∀ (j : Nat) (t : TypeId) (r : Value), f.resultTypes[j]? = some t → (v.resultList f.resultTypes.size)[j]? = some r → Value.okWide P W' .any 0 t r) :
    s.post enc P f apart fresh handsOn again W args v W' := by
  have hlt : ∀ p ∈ before, p.block < W.heap.size := fun p hp => hW.lt p hp
  have hold : ∀ p ∈ before, (fun b => decide (b < W.heap.size)) p.block = true := fun p hp => by simpa using hlt p hp
  refine ⟨ds, gs, before, [], pa, pv, hW, hres _ _ _, hargs _ hold, hvars _ hold, World.keptBut_mono (fun p hp => ⟨hp, ?_⟩) (hb.frame (· ∈ before)), fun _ => ?_⟩
  · rw [hps, List.mem_append] at hp
    exact Or.inr hp
  · obtain ⟨_, _, _, _, _, hz, hn⟩ := hW
    refine ⟨hok, _, _, ([] ++ pa) ++ pv, ⟨[] ++ pa, pv, trodAll_append (hargs _ (fun _ _ => rfl)) (hres _ _ _), hvars _ (fun _ _ => rfl), rfl, ?_, ?_⟩, ?_⟩
    · intro b off hp
      have hin : MemPlace.cell b off ∈ before := by rw [hps]; simpa using hp
      rw [hb.frozen (hlt _ hin)]
      exact hz b off hin
    · intro ha
      have := hn ha
      rw [hps] at this
      simpa using this
    · intro p hp _
      rw [hps]
      simpa using hp
end

/-- what a law answers: true, each argument as it was -/
def LawSpec (s : ChangeSpec) (k : Nat) : Prop := s.vars = [] ∧ ∀ (H : Type) (ds : List (DataW H)), ds.length = k → (s.fn H ds).results = [.lit (.bool true)] ∧ (s.fn H ds).args = ds ∧ (s.fn H ds).vars = []

theorem trodAll_len {W : World} {base : Nat} {sp : Nat → Bool} {hd : Bool} : ∀ {ts : List TypeId} {vs : List Value} {ds : List (DataW H)} {ps : List MemPlace}, DataW.TrodAll enc P W base sp hd ts vs ds ps → ds.length = ts.length
  | [], [], [], _, _ => rfl
  | t :: ts, v :: vs, d :: ds, ps, h => by
    obtain ⟨p, q, h1, h2, rfl⟩ := h
    simp [trodAll_len h2]
  | [], _ :: _, _, _, h => h.elim
  | [], [], _ :: _, _, h => h.elim
  | _ :: _, [], _, _, h => h.elim
  | _ :: _, _ :: _, [], _, h => h.elim

theorem law_post {fn : Func} {K tb : Nat} {s : ChangeSpec} {fresh handsOn again : Bool} {W : World} {args : Array Value} {ds gs : List (DataW H)} {before : List MemPlace} (hl : laidOutB P = true) (hr : rowed P fn.params.toList = true)
    (hres : fn.resultTypes = #[tb]) (hb : P.underlying tb = some .bool) (hs : LawSpec s fn.params.size)
    (hW : DataW.Whole enc P fn.params.toList s.vars false W args.toList ds gs before) (hc : Calls P K args W (Ret fun r w' => r = .bool true ∧ Stp [] W w')) :
    Calls P K args W fun e W' => ∃ v, e = .returned v ∧ s.post enc P fn false fresh handsOn again W args v W' := by
  refine hc.mono ?_
  rintro _ w' ⟨_, rfl, rfl, hS⟩
  refine ⟨_, rfl, ?_⟩
  have hW' := hW
  obtain ⟨p, q, hA, hV, hpq, hfz, hnd⟩ := hW
  rw [hs.1] at hV
  obtain ⟨rfl, rfl⟩ := trodVars_none hV
  have hlen : (ds ++ []).length = fn.params.size := by simpa using trodAll_len hA
  obtain ⟨s1, s2, s3⟩ := hs.2 H (ds ++ []) hlen
  have hlt : ∀ x ∈ before, x.block < W.heap.size := fun x hx => hW'.lt x hx
  refine post_of_below (pa := p) (pv := []) hW' (fun b sp hd => ?_) (fun sp hsp => ?_) (fun sp _ => ?_) hpq hS.below ?_
  · rw [s1, hres]
    exact trodAll_mk1 ⟨1, by simp [DataW.trod, Value.cells, hb]⟩
  · rw [s2]
    simp only [List.append_nil] at hpq ⊢
    subst hpq
    exact trodAll_stays hl hS.below hr hA hlt hsp
  · rw [s3, hs.1]
    rfl
  · exact ok_one hres rfl (by simp [Value.okWide, hb, Cell.okWide, Cell.ok])
end
end Go.Eng


/-
The wrap of a law whose row lists a variable: what the contract is handed: the condition on the variable, and the world's shape.
-/
namespace Go.Eng
open Go Go.RowKit Go.Proofs Go.ChangeShapes Go.WideShapes Go.Deep
set_option linter.unusedVariables false
section
variable {H : Type} {enc : TypeId × Value → H}
theorem ret_and_shaped {a : Assume} {C : Checked} {os : Os} {f : FuncId} {fn : Func} {s : ChangeSpec} {conds : List PathCond} {apart fresh handsOn again : Bool} {X : World → Array Value → Prop}
    (hX : ∀ (w w' : World) (args : Array Value), w.heap = w'.heap → X w args → X w' args)
    (own : ownKnob C.prog.godebug = none) (started : os.Started) (noInit : C.prog.inits.idxOf? f = none) (hfn : C.prog.funcs[f]? = some fn)
    (witness : ∃ (w : World) (tape : Tape) (i : Input), w.os = os ∧ (w.forCall tape i).Shaped C.prog ∧ i.vars = [] ∧ Input.okWide C.prog (w.forCall tape i) .any w.heap.size f i ∧
      ((s.pre enc C.prog fn conds apart (w.forCall tape i).memory i.args ∧ X (w.forCall tape i).memory i.args) ∧ sizedMet enc C.prog fn (OpenSpec.ofChange s) apart (w.forCall tape i).memory i.args) ∧ a.holds C.prog (lone (Frame.enter C.prog f i.args .normal) [] (w.forCall tape i)))
    (contract : ∀ (W : World) (base : Nat) (args : Array Value) (ds gs : List (DataW H)) (before : List MemPlace),
      (∀ (j : Nat) t v, fn.params[j]? = some t → args[j]? = some v → Value.okWide C.prog W .any base t v) →
      DataW.Whole enc C.prog fn.params.toList s.vars apart W args.toList ds gs before →
      (DataW.weightsEach C.prog (fn.params.toList ++ s.plain.varTypes C.prog) (ds ++ gs)).all (· ≤ reachBytes) = true → X W args → W.ShapedOpen C.prog →
      Calls C.prog f args W fun e W' => ∃ v, e = .returned v ∧ s.post enc C.prog fn apart fresh handsOn again W args v W') :
    ReturnsInHanded a C os f .any (fun w args => (s.pre enc C.prog fn conds apart w args ∧ X w args) ∧ sizedMet enc C.prog fn (OpenSpec.ofChange s) apart w args) (s.post enc C.prog fn apart fresh handsOn again) := by
  refine returnsInHanded_of_calls own started noInit witness ?_
  intro w tape i _ hsh _ hok hpre hholds
  obtain ⟨_, _, _, fn', hfn', _, _, _, _, hval⟩ := hok
  have e : fn' = fn := Option.some.inj (hfn'.symm.trans hfn)
  subst e
  obtain ⟨⟨⟨ds, gs, before, hw, hc⟩, hx⟩, hz⟩ := hpre
  have hw' := DataW.Whole.of_heap (w' := w.forCall tape i) (by rfl) hw
  refine (contract (w.forCall tape i) w.heap.size i.args ds gs before hval hw' (hz.weights hw) (hX _ _ _ (by rfl) hx) hsh).mono fun e W' ⟨v, he, hp⟩ => ?_
  subst he
  exact ChangeSpec.post_blind hp
end
end Go.Eng


/-
The walk engine, part 17: bytes of a string.
-/
namespace Go.Eng
open Go Go.RowKit Go.Proofs
set_option linter.unusedVariables false
instance : Flat UInt8 where
  k := 1
  enc := fun b => [.int .u8 (b.toNat : Int)]
  len := fun _ => rfl
  one := by intro x u hu; simp at hu; subst hu; rfl
section
variable {P : Program} {n : Nat} {e : Env} {w : World} {d : Option Nat} {ty : TypeId} {pos : String} {af : Array Edge} {g : Option (Nat × Bool)}
theorem OE_convS {src dst el : TypeId} {x : Operand} {s : Str} [hs : Und P src .string] [hd : Und P dst (.slice el)] [he : Und P el (.int .u8)] (hx : ev e x = some (str s)) (hl : s.length ≤ 1000000) :
    OE P n ⟨d, .convert src dst x, ty, pos, af, g⟩ e w (fun v w' => (∀ X : List Nat, (∀ b ∈ X, b < w.heap.size) → SlV X w' v s) ∧ Stp [] w w') := by
  refine OE_value (v := .slice (some ⟨w.heap.size, 0, none⟩) s.length (grownCap w s.length 0 el)) (w' := Go.Lib.bytesWorld w el ⟨s.toArray⟩) (fun a ha => ?_) ⟨fun X hX => ?_, ?_⟩
  · have h := Go.Lib.run_convert_string_bytes (P := P) w src dst el ⟨s.toArray⟩ hs.h hd.h he.h
    simp only [str_size] at h
    simp [execOp, ha.ev hx, h]
  · refine ⟨some ⟨w.heap.size, 0, none⟩, _, rfl, grownCap_ge w _ _ _, grownCap_le_maxLen w _ _ _ (by simp [maxLen]; omega), (fun h => by cases h), fun i hi => ⟨w.heap.size, 0, Flat.enc s[i], rfl, ?_, fun h => by have := hX _ h; omega, rfl, fun j u hu => ?_⟩⟩
    · rw [Go.Lib.bytesWorld_size]; omega
    · have hj : j = 0 := by
        have := (List.getElem?_eq_some_iff.1 hu).1
        simp [Flat.enc] at this
        exact this
      subst hj
      have hc := Go.Lib.bytesWorld_cell w el ⟨s.toArray⟩ i (by rw [str_size]; exact hi)
      simp only [Flat.enc, List.getElem?_cons_zero, Option.some.injEq] at hu
      subst hu
      have e1 : (0 + i * GoRep.k UInt8 + 0) = i := by show 0 + i * 1 + 0 = i; omega
      rw [e1, hc]
      simp [List.getD, hi]
  · refine ⟨rfl, rfl, rfl, ?_, fun b hb _ => Go.Lib.bytesWorld_at_old w el _ b hb⟩
    rw [Go.Lib.bytesWorld_size]; omega
end
end Go.Eng


/-
  DERIVED: THE SHELF's CONTRACTS AT THIS DUMP, IN PLAIN WORDS (tools/lay-plain.mjs out of 'TryzShelf.lean', which tools/lay-shelf.mjs wrote): THE SAME DECLARATIONS UNDER THE SAME NAMES: 'import', 'namespace', 'open', 'def', 'theorem' AND NOTHING ELSE: no command of the shelf's: FOR A HAND-IN. Each laying: the table of numbers ('.._ren') and one theorem, a field a fact of the dump's own or the kernel's comparison; each contract: ONE APPLICATION.
-/
namespace Go.Proofs
open Go.Shelf
def Tryz.lays169_ren : Go.Shelf.Ren := ⟨fun | 169 => 33 | n => n, fun | 70 => 68 | 9 => 9 | 0 => 0 | 72 => 70 | 37 => 42 | 127 => 142 | 3 => 3 | 5 => 5 | n => n, fun | n => n⟩
theorem Tryz.lays169 : Go.Proofs.Lays.n169 Tryz.prog Tryz.lays169_ren := {
  mixed := by kernel_rfl
  f169 := Tryz.func33.trans (congrArg some (by kernel_rfl))
  t0 := Tryz.underlying0
  a0 := Tryz.isAgg0
  z0 := Tryz.sizeOf0
  v0 := Tryz.zeroValue0
  t3 := Tryz.underlying3
  a3 := Tryz.isAgg3
  z3 := Tryz.sizeOf3
  v3 := Tryz.zeroValue3
  t9 := Tryz.underlying9
  a9 := Tryz.isAgg9
  z9 := Tryz.sizeOf9
  v9 := Tryz.zeroValue9
  t37 := Tryz.underlying42
  a37 := Tryz.isAgg42
  z37 := Tryz.sizeOf42
  v37 := Tryz.zeroValue42
  t70 := Tryz.underlying68
  a70 := Tryz.isAgg68
  z70 := Tryz.sizeOf68
  v70 := Tryz.zeroValue68
  t72 := Tryz.underlying70
  a72 := Tryz.isAgg70
  z72 := Tryz.sizeOf70
  v72 := Tryz.zeroValue70
  t127 := Tryz.underlying142
  a127 := Tryz.isAgg142
  z127 := Tryz.sizeOf142
  v127 := Tryz.zeroValue142 }
theorem Tryz.Builder_Extra_169 : Builder.Extra Tryz.prog Tryz.lays169_ren := {
  sizeBuilder := by kernel_rfl
  liesBuilder := by kernel_rfl
  t5 := Tryz.underlying5
  a5 := Tryz.isAgg5
  z5 := Tryz.sizeOf5
  v5 := Tryz.zeroValue5
  infoByte := by kernel_rfl
  cellsByte := by kernel_rfl
  sizeByte := by kernel_rfl
  neB5 := by decide }
open Go.RowKit in
/-- (*strings.Builder).String: "String returns the accumulated string.": WHATEVER THE BUILDER HOLDS. (LAID: no walk: one application.) -/
theorem Tryz.Builder_String_any (B b : Nat) (l : List UInt8) (w : World) (h : Lib.IsBuilder 70 5 B b (Lib.byteCells l) w) (hBw : B ≤ w.heap.size) :
    Calls Tryz.prog 33 #[.pointer (some ⟨b, 0, none⟩)] w fun e w' => e = .returned (.string ⟨l.toArray⟩) ∧ Below B w w' := Any.Builder_String_any Tryz.lays169 Tryz.Builder_Extra_169 B b l w h hBw
def Tryz.lays156_ren : Go.Shelf.Ren := ⟨fun | 156 => 91 | 165 => 133 | 166 => 30 | 169 => 33 | 240 => 82 | 241 => 175 | 276 => 129 | 277 => 207 | n => n, fun | 31 => 56 | 9 => 9 | 3 => 3 | 4 => 4 | 0 => 0 | 20 => 20 | 72 => 70 | 76 => 73 | 70 => 68 | 37 => 42 | 75 => 72 | 127 => 142 | 164 => 175 | 5 => 5 | 80 => 77 | n => n, fun | n => n⟩
theorem Tryz.lays156 : Go.Proofs.Lays.n156 Tryz.prog Tryz.lays156_ren := {
  mixed := by kernel_rfl
  f156 := Tryz.func91.trans (congrArg some (by kernel_rfl))
  f165 := Tryz.func133.trans (congrArg some (by kernel_rfl))
  f166 := Tryz.func30.trans (congrArg some (by kernel_rfl))
  f169 := Tryz.func33.trans (congrArg some (by kernel_rfl))
  f240 := Tryz.func82.trans (congrArg some (by kernel_rfl))
  f241 := Tryz.func175.trans (congrArg some (by kernel_rfl))
  f276 := Tryz.func129.trans (congrArg some (by kernel_rfl))
  f277 := Tryz.func207.trans (congrArg some (by kernel_rfl))
  t0 := Tryz.underlying0
  a0 := Tryz.isAgg0
  z0 := Tryz.sizeOf0
  v0 := Tryz.zeroValue0
  t3 := Tryz.underlying3
  a3 := Tryz.isAgg3
  z3 := Tryz.sizeOf3
  v3 := Tryz.zeroValue3
  t4 := Tryz.underlying4
  a4 := Tryz.isAgg4
  z4 := Tryz.sizeOf4
  v4 := Tryz.zeroValue4
  t9 := Tryz.underlying9
  a9 := Tryz.isAgg9
  z9 := Tryz.sizeOf9
  v9 := Tryz.zeroValue9
  t20 := Tryz.underlying20
  a20 := Tryz.isAgg20
  z20 := Tryz.sizeOf20
  v20 := Tryz.zeroValue20
  t31 := Tryz.underlying56
  a31 := Tryz.isAgg56
  z31 := Tryz.sizeOf56
  v31 := Tryz.zeroValue56
  t37 := Tryz.underlying42
  a37 := Tryz.isAgg42
  z37 := Tryz.sizeOf42
  v37 := Tryz.zeroValue42
  t70 := Tryz.underlying68
  a70 := Tryz.isAgg68
  z70 := Tryz.sizeOf68
  v70 := Tryz.zeroValue68
  t72 := Tryz.underlying70
  a72 := Tryz.isAgg70
  z72 := Tryz.sizeOf70
  v72 := Tryz.zeroValue70
  t75 := Tryz.underlying72
  a75 := Tryz.isAgg72
  z75 := Tryz.sizeOf72
  v75 := Tryz.zeroValue72
  t76 := Tryz.underlying73
  a76 := Tryz.isAgg73
  z76 := Tryz.sizeOf73
  v76 := Tryz.zeroValue73
  t127 := Tryz.underlying142
  a127 := Tryz.isAgg142
  z127 := Tryz.sizeOf142
  v127 := Tryz.zeroValue142
  t164 := Tryz.underlying175
  a164 := Tryz.isAgg175
  z164 := Tryz.sizeOf175
  v164 := Tryz.zeroValue175 }
theorem Tryz.Builder_Extra_156 : Builder.Extra Tryz.prog Tryz.lays156_ren := {
  sizeBuilder := by kernel_rfl
  liesBuilder := by kernel_rfl
  t5 := Tryz.underlying5
  a5 := Tryz.isAgg5
  z5 := Tryz.sizeOf5
  v5 := Tryz.zeroValue5
  infoByte := by kernel_rfl
  cellsByte := by kernel_rfl
  sizeByte := by kernel_rfl
  neB5 := by decide }
open Go.RowKit in
/-- No element: the empty string; the world is as it was. (Whatever the slice's address and capacity: a nil slice too.) (LAID: no walk: one application.) -/
theorem Tryz.strings_Join_none (a : Option Addr) (c : Nat) (sep : ByteArray) (w : World) :
    Calls Tryz.prog 91 #[.slice a 0 c, .string sep] w fun e w' => e = .returned (.string ⟨#[]⟩) ∧ w' = w := Any.strings_Join_none Tryz.lays156 Tryz.Builder_Extra_156 a c sep w
open Go.RowKit in
/-- strings.Join: "Join concatenates the elements of its first argument to create a single string. The separator string sep is placed between elements in the resulting string.": HOWEVER MANY ELEMENTS. Below the heap's end the world is as it was. (LAID: no walk: one application.) -/
theorem Tryz.strings_Join (bk o c : Nat) (xs : List ByteArray) (sep : ByteArray) (w : World) (hcells : ∀ (j : Nat) x, xs[j]? = some x → w.cell? ⟨bk, o + j, none⟩ = some (.string x)) (hbk : bk < w.heap.size) (hN : xs.length ≤ 140737488355328) (hcap : xs.length ≤ c) (hlen : (Lib.join (xs.map (·.data.toList)) sep.data.toList).length ≤ 140737488355328) :
    Calls Tryz.prog 91 #[.slice (some ⟨bk, o, none⟩) xs.length c, .string sep] w fun e w' => e = .returned (.string ⟨(Lib.join (xs.map (·.data.toList)) sep.data.toList).toArray⟩) ∧ Below w.heap.size w w' := Any.strings_Join Tryz.lays156 Tryz.Builder_Extra_156 bk o c xs sep w hcells hbk hN hcap hlen
def Tryz.lays119_ren : Go.Shelf.Ren := ⟨fun | 119 => 190 | n => n, fun | 21 => 21 | 4 => 4 | n => n, fun | n => n⟩
theorem Tryz.lays119 : Go.Proofs.Lays.n119 Tryz.prog Tryz.lays119_ren := {
  mixed := by kernel_rfl
  f119 := Tryz.func190.trans (congrArg some (by kernel_rfl))
  t4 := Tryz.underlying4
  a4 := Tryz.isAgg4
  z4 := Tryz.sizeOf4
  v4 := Tryz.zeroValue4
  t21 := Tryz.underlying21
  a21 := Tryz.isAgg21
  z21 := Tryz.sizeOf21
  v21 := Tryz.zeroValue21 }
/-- utf8.ValidRune: "ValidRune reports whether r can be legally encoded as UTF-8. Code points that are out of range or a surrogate half are illegal.": IT RETURNS 'Lib.validRune r'; the world is as it was. (LAID: no walk: one application.) -/
theorem Tryz.utf8_ValidRune (r : Int) (w : World) :
    Calls Tryz.prog 190 #[.int .i32 r] w fun e w' => e = .returned (.bool (Lib.validRune r)) ∧ w' = w := Any.utf8_ValidRune Tryz.lays119 r w
def Tryz.lays137_ren : Go.Shelf.Ren := ⟨fun | 137 => 156 | 217 => 189 | 266 => 210 | n => n, fun | 9 => 9 | 5 => 5 | 3 => 3 | n => n, fun | n => n⟩
theorem Tryz.lays137 : Go.Proofs.Lays.n137 Tryz.prog Tryz.lays137_ren := {
  mixed := by kernel_rfl
  f137 := Tryz.func156.trans (congrArg some (by kernel_rfl))
  f217 := Tryz.func189.trans (congrArg some (by kernel_rfl))
  f266 := Tryz.func210.trans (congrArg some (by kernel_rfl))
  t3 := Tryz.underlying3
  a3 := Tryz.isAgg3
  z3 := Tryz.sizeOf3
  v3 := Tryz.zeroValue3
  t5 := Tryz.underlying5
  a5 := Tryz.isAgg5
  z5 := Tryz.sizeOf5
  v5 := Tryz.zeroValue5
  t9 := Tryz.underlying9
  a9 := Tryz.isAgg9
  z9 := Tryz.sizeOf9
  v9 := Tryz.zeroValue9 }
open Go.RowKit in
/-- strings.IndexByte: "IndexByte returns the index of the first instance of c in s, or -1 if c is not present in s.": IT RETURNS 'Lib.indexByte s c'; the world is as it was. (LAID: no walk: one application.) -/
theorem Tryz.strings_IndexByte (s : ByteArray) (c : Int) (w : World) :
    Calls Tryz.prog 156 #[.string s, .int .u8 c] w fun e w' => e = .returned (.int .i64 (Lib.indexByte s.data.toList c.toNat.toUInt8)) ∧ w' = w := Any.strings_IndexByte Tryz.lays137 s c w
def Tryz.lays121_ren : Go.Shelf.Ren := ⟨fun | 121 => 88 | 214 => 136 | n => n, fun | 4 => 4 | 9 => 9 | n => n, fun | n => n⟩
theorem Tryz.lays121 : Go.Proofs.Lays.n121 Tryz.prog Tryz.lays121_ren := {
  mixed := by kernel_rfl
  f121 := Tryz.func88.trans (congrArg some (by kernel_rfl))
  f214 := Tryz.func136.trans (congrArg some (by kernel_rfl))
  t4 := Tryz.underlying4
  a4 := Tryz.isAgg4
  z4 := Tryz.sizeOf4
  v4 := Tryz.zeroValue4
  t9 := Tryz.underlying9
  a9 := Tryz.isAgg9
  z9 := Tryz.sizeOf9
  v9 := Tryz.zeroValue9 }
open Go.RowKit in
/-- strconv.FormatBool: "FormatBool returns "true" or "false" according to the value of b.": IT RETURNS 'Lib.formatBool b'; the world is as it was. (LAID: no walk: one application.) -/
theorem Tryz.strconv_FormatBool (b : Bool) (w : World) :
    Calls Tryz.prog 88 #[.bool b] w fun e w' => e = .returned (.string ⟨(Lib.formatBool b).toArray⟩) ∧ w' = w := Any.strconv_FormatBool Tryz.lays121 b w
def Tryz.laysM171_ren : Go.Shelf.Ren := ⟨fun | 171 => 85 | 243 => 130 | 246 => 171 | 283 => 203 | 284 => 204 | 285 => 205 | 286 => 206 | 129 => 155 | 317 => 219 | 318 => 220 | 319 => 221 | 320 => 222 | 337 => 228 | 338 => 229 | n => n, fun | 3 => 3 | 9 => 9 | 2 => 2 | 4 => 4 | 171 => 219 | 0 => 0 | 53 => 97 | 37 => 42 | 5 => 5 | 173 => 221 | 212 => 236 | 51 => 198 | 20 => 20 | 213 => 237 | 46 => 99 | 232 => 250 | 233 => 251 | n => n, fun | 17 => 2 | 18 => 6 | 19 => 7 | n => n⟩
theorem Tryz.laysM171 : Go.Proofs.LaysM.n171 Tryz.prog Tryz.laysM171_ren := {
  mixed := by kernel_rfl
  f129 := Tryz.func155.trans (congrArg some (by kernel_rfl))
  f171 := Tryz.func85.trans (congrArg some (by kernel_rfl))
  f243 := Tryz.func130.trans (congrArg some (by kernel_rfl))
  f246 := Tryz.func171.trans (congrArg some (by kernel_rfl))
  f283 := Tryz.func203.trans (congrArg some (by kernel_rfl))
  f284 := Tryz.func204.trans (congrArg some (by kernel_rfl))
  f285 := Tryz.func205.trans (congrArg some (by kernel_rfl))
  f286 := Tryz.func206.trans (congrArg some (by kernel_rfl))
  f317 := Tryz.func219.trans (congrArg some (by kernel_rfl))
  f318 := Tryz.func220.trans (congrArg some (by kernel_rfl))
  f319 := Tryz.func221.trans (congrArg some (by kernel_rfl))
  f320 := Tryz.func222.trans (congrArg some (by kernel_rfl))
  f337 := Tryz.func228.trans (congrArg some (by kernel_rfl))
  f338 := Tryz.func229.trans (congrArg some (by kernel_rfl))
  t0 := Tryz.underlying0
  a0 := Tryz.isAgg0
  z0 := Tryz.sizeOf0
  v0 := Tryz.zeroValue0
  t2 := Tryz.underlying2
  a2 := Tryz.isAgg2
  z2 := Tryz.sizeOf2
  v2 := Tryz.zeroValue2
  t3 := Tryz.underlying3
  a3 := Tryz.isAgg3
  z3 := Tryz.sizeOf3
  v3 := Tryz.zeroValue3
  t4 := Tryz.underlying4
  a4 := Tryz.isAgg4
  z4 := Tryz.sizeOf4
  v4 := Tryz.zeroValue4
  t5 := Tryz.underlying5
  a5 := Tryz.isAgg5
  z5 := Tryz.sizeOf5
  v5 := Tryz.zeroValue5
  t9 := Tryz.underlying9
  a9 := Tryz.isAgg9
  z9 := Tryz.sizeOf9
  v9 := Tryz.zeroValue9
  t20 := Tryz.underlying20
  a20 := Tryz.isAgg20
  z20 := Tryz.sizeOf20
  v20 := Tryz.zeroValue20
  t37 := Tryz.underlying42
  a37 := Tryz.isAgg42
  z37 := Tryz.sizeOf42
  v37 := Tryz.zeroValue42
  t46 := Tryz.underlying99
  a46 := Tryz.isAgg99
  z46 := Tryz.sizeOf99
  v46 := Tryz.zeroValue99
  t51 := Tryz.underlying198
  a51 := Tryz.isAgg198
  z51 := Tryz.sizeOf198
  v51 := Tryz.zeroValue198
  t53 := Tryz.underlying97
  a53 := Tryz.isAgg97
  z53 := Tryz.sizeOf97
  v53 := Tryz.zeroValue97
  t171 := Tryz.underlying219
  a171 := Tryz.isAgg219
  z171 := Tryz.sizeOf219
  v171 := Tryz.zeroValue219
  t173 := Tryz.underlying221
  a173 := Tryz.isAgg221
  z173 := Tryz.sizeOf221
  v173 := Tryz.zeroValue221
  t212 := Tryz.underlying236
  a212 := Tryz.isAgg236
  z212 := Tryz.sizeOf236
  v212 := Tryz.zeroValue236
  t213 := Tryz.underlying237
  a213 := Tryz.isAgg237
  z213 := Tryz.sizeOf237
  t232 := Tryz.underlying250
  a232 := Tryz.isAgg250
  z232 := Tryz.sizeOf250
  v232 := Tryz.zeroValue250
  t233 := Tryz.underlying251
  a233 := Tryz.isAgg251
  z233 := Tryz.sizeOf251
  v233 := Tryz.zeroValue251
  g17 := by kernel_rfl
  g18 := by kernel_rfl
  g19 := by kernel_rfl
  i0 := by kernel_rfl
  i2 := by kernel_rfl
  i3 := by kernel_rfl
  i4 := by kernel_rfl
  i5 := by kernel_rfl
  i9 := by kernel_rfl
  i20 := by kernel_rfl
  i37 := by kernel_rfl
  i46 := by kernel_rfl
  i51 := by kernel_rfl
  i53 := by kernel_rfl
  i171 := by kernel_rfl
  i173 := by kernel_rfl
  i212 := by kernel_rfl
  i232 := by kernel_rfl
  i233 := by kernel_rfl
  m17 := by kernel_rfl
  m18 := by kernel_rfl
  m19 := by kernel_rfl }
open Go.RowKit Go.Sort Go.Lib in
/-- strconv.Itoa: "Itoa is equivalent to FormatInt(int64(i), 10).": i's DECIMAL NUMERAL ('Lib.itoa': a '-' where i is negative, then the digits), FOR EVERY int. The world behind the call: the world before it, new blocks behind the heap (the library's 'var a [24]byte'), draws. (LAID: no walk: one application.) -/
theorem Tryz.strconv_Itoa (n : Int) (h0 : -9223372036854775808 ≤ n) (h1 : n ≤ 9223372036854775807) (w : World) (htab : Lib.TabIs Tryz.prog w "internal/strconv.uint64pow10" .u64 Lib.pow10Tab) :
    Calls Tryz.prog 85 #[.int .i64 n] w fun e w' => e = .returned (.string ⟨(Lib.itoa n).toArray⟩) ∧ ∃ k os, w' = grow (w.drewN k) os := Any.strconv_Itoa Tryz.laysM171 n h0 h1 w htab
def Tryz.laysC172_ren : Go.Shelf.Ren := ⟨fun | 172 => 159 | 244 => 193 | 245 => 194 | 247 => 211 | 279 => 212 | 280 => 213 | 281 => 214 | 282 => 215 | 287 => 224 | 316 => 225 | 171 => 85 | 205 => 226 | 321 => 230 | 322 => 231 | 243 => 130 | 246 => 171 | 283 => 203 | 284 => 204 | 285 => 205 | 286 => 206 | 129 => 155 | 317 => 219 | 318 => 220 | 319 => 221 | 320 => 222 | 337 => 228 | 338 => 229 | n => n, fun | 9 => 9 | 3 => 3 | 75 => 72 | 76 => 73 | 4 => 4 | 5 => 5 | 167 => 227 | 37 => 42 | 0 => 0 | 85 => 228 | 2 => 2 | 168 => 230 | 53 => 97 | 175 => 239 | 46 => 99 | 210 => 243 | 127 => 142 | 145 => 248 | 143 => 246 | 21 => 21 | 171 => 219 | 173 => 221 | 212 => 236 | 51 => 198 | 20 => 20 | 213 => 237 | 232 => 250 | 233 => 251 | 80 => 77 | n => n, fun | 15 => 3 | 16 => 4 | 17 => 2 | 18 => 6 | 19 => 7 | n => n⟩
theorem Tryz.laysC172 : Go.Proofs.LaysC.n172 Tryz.prog Tryz.laysC172_ren := {
  mixed := by kernel_rfl
  f129 := Tryz.func155.trans (congrArg some (by kernel_rfl))
  f171 := Tryz.func85.trans (congrArg some (by kernel_rfl))
  f172 := Tryz.func159.trans (congrArg some (by kernel_rfl))
  f205 := Tryz.func226.trans (congrArg some (by kernel_rfl))
  f243 := Tryz.func130.trans (congrArg some (by kernel_rfl))
  f244 := Tryz.func193.trans (congrArg some (by kernel_rfl))
  f245 := Tryz.func194.trans (congrArg some (by kernel_rfl))
  f246 := Tryz.func171.trans (congrArg some (by kernel_rfl))
  f247 := Tryz.func211.trans (congrArg some (by kernel_rfl))
  f279 := Tryz.func212.trans (congrArg some (by kernel_rfl))
  f280 := Tryz.func213.trans (congrArg some (by kernel_rfl))
  f281 := Tryz.func214.trans (congrArg some (by kernel_rfl))
  f282 := Tryz.func215.trans (congrArg some (by kernel_rfl))
  f283 := Tryz.func203.trans (congrArg some (by kernel_rfl))
  f284 := Tryz.func204.trans (congrArg some (by kernel_rfl))
  f285 := Tryz.func205.trans (congrArg some (by kernel_rfl))
  f286 := Tryz.func206.trans (congrArg some (by kernel_rfl))
  f287 := Tryz.func224.trans (congrArg some (by kernel_rfl))
  f316 := Tryz.func225.trans (congrArg some (by kernel_rfl))
  f317 := Tryz.func219.trans (congrArg some (by kernel_rfl))
  f318 := Tryz.func220.trans (congrArg some (by kernel_rfl))
  f319 := Tryz.func221.trans (congrArg some (by kernel_rfl))
  f320 := Tryz.func222.trans (congrArg some (by kernel_rfl))
  f321 := Tryz.func230.trans (congrArg some (by kernel_rfl))
  f322 := Tryz.func231.trans (congrArg some (by kernel_rfl))
  f337 := Tryz.func228.trans (congrArg some (by kernel_rfl))
  f338 := Tryz.func229.trans (congrArg some (by kernel_rfl))
  t0 := Tryz.underlying0
  a0 := Tryz.isAgg0
  z0 := Tryz.sizeOf0
  v0 := Tryz.zeroValue0
  t2 := Tryz.underlying2
  a2 := Tryz.isAgg2
  z2 := Tryz.sizeOf2
  v2 := Tryz.zeroValue2
  t3 := Tryz.underlying3
  a3 := Tryz.isAgg3
  z3 := Tryz.sizeOf3
  v3 := Tryz.zeroValue3
  t4 := Tryz.underlying4
  a4 := Tryz.isAgg4
  z4 := Tryz.sizeOf4
  v4 := Tryz.zeroValue4
  t5 := Tryz.underlying5
  a5 := Tryz.isAgg5
  z5 := Tryz.sizeOf5
  v5 := Tryz.zeroValue5
  t9 := Tryz.underlying9
  a9 := Tryz.isAgg9
  z9 := Tryz.sizeOf9
  v9 := Tryz.zeroValue9
  t20 := Tryz.underlying20
  a20 := Tryz.isAgg20
  z20 := Tryz.sizeOf20
  v20 := Tryz.zeroValue20
  t21 := Tryz.underlying21
  a21 := Tryz.isAgg21
  z21 := Tryz.sizeOf21
  v21 := Tryz.zeroValue21
  t37 := Tryz.underlying42
  a37 := Tryz.isAgg42
  z37 := Tryz.sizeOf42
  v37 := Tryz.zeroValue42
  t46 := Tryz.underlying99
  a46 := Tryz.isAgg99
  z46 := Tryz.sizeOf99
  v46 := Tryz.zeroValue99
  t51 := Tryz.underlying198
  a51 := Tryz.isAgg198
  z51 := Tryz.sizeOf198
  v51 := Tryz.zeroValue198
  t53 := Tryz.underlying97
  a53 := Tryz.isAgg97
  z53 := Tryz.sizeOf97
  v53 := Tryz.zeroValue97
  t75 := Tryz.underlying72
  a75 := Tryz.isAgg72
  z75 := Tryz.sizeOf72
  v75 := Tryz.zeroValue72
  t76 := Tryz.underlying73
  a76 := Tryz.isAgg73
  z76 := Tryz.sizeOf73
  v76 := Tryz.zeroValue73
  t85 := Tryz.underlying228
  a85 := Tryz.isAgg228
  z85 := Tryz.sizeOf228
  v85 := Tryz.zeroValue228
  t127 := Tryz.underlying142
  a127 := Tryz.isAgg142
  z127 := Tryz.sizeOf142
  v127 := Tryz.zeroValue142
  t143 := Tryz.underlying246
  a143 := Tryz.isAgg246
  z143 := Tryz.sizeOf246
  v143 := Tryz.zeroValue246
  t145 := Tryz.underlying248
  a145 := Tryz.isAgg248
  z145 := Tryz.sizeOf248
  v145 := Tryz.zeroValue248
  t167 := Tryz.underlying227
  a167 := Tryz.isAgg227
  z167 := Tryz.sizeOf227
  v167 := Tryz.zeroValue227
  t168 := Tryz.underlying230
  a168 := Tryz.isAgg230
  z168 := Tryz.sizeOf230
  v168 := Tryz.zeroValue230
  t171 := Tryz.underlying219
  a171 := Tryz.isAgg219
  z171 := Tryz.sizeOf219
  v171 := Tryz.zeroValue219
  t173 := Tryz.underlying221
  a173 := Tryz.isAgg221
  z173 := Tryz.sizeOf221
  v173 := Tryz.zeroValue221
  t175 := Tryz.underlying239
  a175 := Tryz.isAgg239
  z175 := Tryz.sizeOf239
  v175 := Tryz.zeroValue239
  t210 := Tryz.underlying243
  a210 := Tryz.isAgg243
  z210 := Tryz.sizeOf243
  v210 := Tryz.zeroValue243
  t212 := Tryz.underlying236
  a212 := Tryz.isAgg236
  z212 := Tryz.sizeOf236
  v212 := Tryz.zeroValue236
  t213 := Tryz.underlying237
  a213 := Tryz.isAgg237
  z213 := Tryz.sizeOf237
  t232 := Tryz.underlying250
  a232 := Tryz.isAgg250
  z232 := Tryz.sizeOf250
  v232 := Tryz.zeroValue250
  t233 := Tryz.underlying251
  a233 := Tryz.isAgg251
  z233 := Tryz.sizeOf251
  v233 := Tryz.zeroValue251
  g15 := by kernel_rfl
  g16 := by kernel_rfl
  g17 := by kernel_rfl
  g18 := by kernel_rfl
  g19 := by kernel_rfl
  t80 := Tryz.underlying77
  a80 := Tryz.isAgg77
  z80 := Tryz.sizeOf77
  v80 := Tryz.zeroValue77
  i0 := by kernel_rfl
  i2 := by kernel_rfl
  i3 := by kernel_rfl
  i4 := by kernel_rfl
  i5 := by kernel_rfl
  i9 := by kernel_rfl
  i20 := by kernel_rfl
  i21 := by kernel_rfl
  i37 := by kernel_rfl
  i46 := by kernel_rfl
  i51 := by kernel_rfl
  i53 := by kernel_rfl
  i75 := by kernel_rfl
  i76 := by kernel_rfl
  i80 := by kernel_rfl
  i85 := by kernel_rfl
  i127 := by kernel_rfl
  i143 := by kernel_rfl
  i145 := by kernel_rfl
  i167 := by kernel_rfl
  i168 := by kernel_rfl
  i171 := by kernel_rfl
  i173 := by kernel_rfl
  i175 := by kernel_rfl
  i210 := by kernel_rfl
  i212 := by kernel_rfl
  i232 := by kernel_rfl
  i233 := by kernel_rfl
  m15 := by kernel_rfl
  m16 := by kernel_rfl
  m17 := by kernel_rfl
  m18 := by kernel_rfl
  m19 := by kernel_rfl
  c0 := by kernel_rfl
  c2 := by kernel_rfl
  c3 := by kernel_rfl
  c4 := by kernel_rfl
  c5 := by kernel_rfl
  c9 := by kernel_rfl
  c20 := by kernel_rfl
  c21 := by kernel_rfl
  c37 := by kernel_rfl
  c46 := by kernel_rfl
  c51 := by kernel_rfl
  c53 := by kernel_rfl
  c75 := by kernel_rfl
  c76 := by kernel_rfl
  c80 := by kernel_rfl
  c85 := by kernel_rfl
  c127 := by kernel_rfl
  c143 := by kernel_rfl
  c145 := by kernel_rfl
  c167 := by kernel_rfl
  c168 := by kernel_rfl
  c171 := by kernel_rfl
  c173 := by kernel_rfl
  c175 := by kernel_rfl
  c210 := by kernel_rfl
  c212 := by kernel_rfl
  c213 := by kernel_rfl
  c232 := by kernel_rfl
  c233 := by kernel_rfl }
open Go.RowKit in
/-- strconv.Atoi, AT EVERY STRING THAT SPELLS AN int ('Lib.atoiAll .. = .ok v'; of whatever length: leading zeros count): v, AND NO ERROR. The world: as it was, or with the one new row that '[]byte(..)' lays. (LAID: no walk: one application.) -/
theorem Tryz.strconv_Atoi_ok (s : ByteArray) (hmax : s.size ≤ 9223372036854775806) (v : Int) (h : Lib.atoiAll s.data.toList = .ok v) (w : World) :
    Calls Tryz.prog 159 #[.string s] w fun e w' => e = .returned (.tuple #[.int .i64 v, .nilIface]) ∧ (w' = w ∨ ∃ t, w' = Lib.bytesWorld w 5 t) := Any.strconv_Atoi_ok Tryz.laysC172 s hmax v h w
open Go.RowKit in
/-- strconv.Atoi, AT EVERY NUMERAL THAT NO int HOLDS ('.range'): THE GREATEST OR THE LEAST int, BY THE SIGN ('Lib.atoiSat'), AND AN ERROR THAT IS NOT nil: a *NumError in a new block N: {Func: "Atoi", Num: s's bytes, Err: what the variable ErrRange holds}. Of what was there nothing has turned. (LAID: no walk: one application.) -/
theorem Tryz.strconv_Atoi_range (s : ByteArray) (hlim : s.size ≤ 281474976710656) (h : Lib.atoiAll s.data.toList = .range) (ev : Value) (w : World) (hv : w.cell? ⟨4, 0, none⟩ = some ev) (hev : ev = .nilIface ∨ ∃ te pe, ev = .iface te pe) :
    Calls Tryz.prog 159 #[.string s] w fun e w' => ∃ N, e = .returned (.tuple #[.int .i64 (Lib.atoiSat s.data.toList), .iface 230 (.pointer (some ⟨N, 0, none⟩))]) ∧ w.heap.size ≤ N ∧ w'.heap[N]? = some (.cells #[.string ⟨#[65, 116, 111, 105]⟩, .string s, ev] 243 (0, 0)) ∧ Below w.heap.size w w' := Any.strconv_Atoi_range Tryz.laysC172 s hlim h ev w hv hev
def Tryz.lays144_ren : Go.Shelf.Ren := ⟨fun | 144 => 103 | 143 => 144 | 219 => 182 | 217 => 189 | 225 => 192 | 224 => 191 | 267 => 208 | 266 => 210 | 314 => 223 | n => n, fun | 9 => 9 | 4 => 4 | 3 => 3 | 5 => 5 | 46 => 99 | 146 => 204 | 51 => 198 | n => n, fun | 1 => 1 | n => n⟩
theorem Tryz.lays144 : Go.Proofs.Lays.n144 Tryz.prog Tryz.lays144_ren := {
  mixed := by kernel_rfl
  f143 := Tryz.func144.trans (congrArg some (by kernel_rfl))
  f144 := Tryz.func103.trans (congrArg some (by kernel_rfl))
  f217 := Tryz.func189.trans (congrArg some (by kernel_rfl))
  f219 := Tryz.func182.trans (congrArg some (by kernel_rfl))
  f224 := Tryz.func191.trans (congrArg some (by kernel_rfl))
  f225 := Tryz.func192.trans (congrArg some (by kernel_rfl))
  f266 := Tryz.func210.trans (congrArg some (by kernel_rfl))
  f267 := Tryz.func208.trans (congrArg some (by kernel_rfl))
  f314 := Tryz.func223.trans (congrArg some (by kernel_rfl))
  t3 := Tryz.underlying3
  a3 := Tryz.isAgg3
  z3 := Tryz.sizeOf3
  v3 := Tryz.zeroValue3
  t4 := Tryz.underlying4
  a4 := Tryz.isAgg4
  z4 := Tryz.sizeOf4
  v4 := Tryz.zeroValue4
  t5 := Tryz.underlying5
  a5 := Tryz.isAgg5
  z5 := Tryz.sizeOf5
  v5 := Tryz.zeroValue5
  t9 := Tryz.underlying9
  a9 := Tryz.isAgg9
  z9 := Tryz.sizeOf9
  v9 := Tryz.zeroValue9
  t46 := Tryz.underlying99
  a46 := Tryz.isAgg99
  z46 := Tryz.sizeOf99
  v46 := Tryz.zeroValue99
  t51 := Tryz.underlying198
  a51 := Tryz.isAgg198
  z51 := Tryz.sizeOf198
  v51 := Tryz.zeroValue198
  t146 := Tryz.underlying204
  a146 := Tryz.isAgg204
  z146 := Tryz.sizeOf204
  v146 := Tryz.zeroValue204
  g1 := by kernel_rfl }
open Go.RowKit Go.Lib in
/-- strings.Contains: "Contains reports whether substr is within s.": IT RETURNS 'Lib.contains s substr'; the world is as it was. (LAID: no walk: one application.) -/
theorem Tryz.strings_Contains (s sub : ByteArray) (m : Int) (w : World) (hs : s.size < 4294967281) (hm : w.cell? ⟨1, 0, none⟩ = some (.int .i64 m)) :
    Calls Tryz.prog 103 #[.string s, .string sub] w fun e w' => e = .returned (.bool (Lib.contains s.data.toList sub.data.toList)) ∧ w' = w := Any.strings_Contains Tryz.lays144 s sub m w hs hm
def Tryz.laysM144_ren : Go.Shelf.Ren := ⟨fun | 144 => 103 | 143 => 144 | 219 => 182 | 217 => 189 | 225 => 192 | 224 => 191 | 267 => 208 | 266 => 210 | 314 => 223 | n => n, fun | 9 => 9 | 4 => 4 | 3 => 3 | 5 => 5 | 46 => 99 | 146 => 204 | 51 => 198 | n => n, fun | 1 => 1 | n => n⟩
theorem Tryz.laysM144 : Go.Proofs.LaysM.n144 Tryz.prog Tryz.laysM144_ren := {
  mixed := by kernel_rfl
  f143 := Tryz.func144.trans (congrArg some (by kernel_rfl))
  f144 := Tryz.func103.trans (congrArg some (by kernel_rfl))
  f217 := Tryz.func189.trans (congrArg some (by kernel_rfl))
  f219 := Tryz.func182.trans (congrArg some (by kernel_rfl))
  f224 := Tryz.func191.trans (congrArg some (by kernel_rfl))
  f225 := Tryz.func192.trans (congrArg some (by kernel_rfl))
  f266 := Tryz.func210.trans (congrArg some (by kernel_rfl))
  f267 := Tryz.func208.trans (congrArg some (by kernel_rfl))
  f314 := Tryz.func223.trans (congrArg some (by kernel_rfl))
  t3 := Tryz.underlying3
  a3 := Tryz.isAgg3
  z3 := Tryz.sizeOf3
  v3 := Tryz.zeroValue3
  t4 := Tryz.underlying4
  a4 := Tryz.isAgg4
  z4 := Tryz.sizeOf4
  v4 := Tryz.zeroValue4
  t5 := Tryz.underlying5
  a5 := Tryz.isAgg5
  z5 := Tryz.sizeOf5
  v5 := Tryz.zeroValue5
  t9 := Tryz.underlying9
  a9 := Tryz.isAgg9
  z9 := Tryz.sizeOf9
  v9 := Tryz.zeroValue9
  t46 := Tryz.underlying99
  a46 := Tryz.isAgg99
  z46 := Tryz.sizeOf99
  v46 := Tryz.zeroValue99
  t51 := Tryz.underlying198
  a51 := Tryz.isAgg198
  z51 := Tryz.sizeOf198
  v51 := Tryz.zeroValue198
  t146 := Tryz.underlying204
  a146 := Tryz.isAgg204
  z146 := Tryz.sizeOf204
  v146 := Tryz.zeroValue204
  g1 := by kernel_rfl
  i3 := by kernel_rfl
  i4 := by kernel_rfl
  i5 := by kernel_rfl
  i9 := by kernel_rfl
  i46 := by kernel_rfl
  i51 := by kernel_rfl
  i146 := by kernel_rfl
  m1 := by kernel_rfl
  s1_3 := fun w h => Go.Proofs.cell_of_shapedOpen_int (zero := #[.int .i64 0]) (t := 3) h (of_decide_eq_true (by kernel_rfl)) (by kernel_rfl) rfl (by kernel_rfl) (by kernel_rfl) Tryz.underlying3 }
def Tryz.lays99_ren : Go.Shelf.Ren := ⟨fun | 99 => 132 | 206 => 174 | n => n, fun | 9 => 9 | 4 => 4 | 3 => 3 | n => n, fun | n => n⟩
theorem Tryz.lays99 : Go.Proofs.Lays.n99 Tryz.prog Tryz.lays99_ren := {
  mixed := by kernel_rfl
  f99 := Tryz.func132.trans (congrArg some (by kernel_rfl))
  f206 := Tryz.func174.trans (congrArg some (by kernel_rfl))
  t3 := Tryz.underlying3
  a3 := Tryz.isAgg3
  z3 := Tryz.sizeOf3
  v3 := Tryz.zeroValue3
  t4 := Tryz.underlying4
  a4 := Tryz.isAgg4
  z4 := Tryz.sizeOf4
  v4 := Tryz.zeroValue4
  t9 := Tryz.underlying9
  a9 := Tryz.isAgg9
  z9 := Tryz.sizeOf9
  v9 := Tryz.zeroValue9 }
open Go.RowKit Go.Lib in
/-- strings.HasPrefix: "HasPrefix reports whether the string s begins with prefix.": IT RETURNS 'Lib.hasPrefix s prefix'; the world is as it was. (LAID: no walk: one application.) -/
theorem Tryz.strings_HasPrefix (s p : ByteArray) (w : World) :
    Calls Tryz.prog 132 #[.string s, .string p] w fun e w' => e = .returned (.bool (Lib.hasPrefix s.data.toList p.data.toList)) ∧ w' = w := Any.strings_HasPrefix Tryz.lays99 s p w
def Tryz.lays151_ren : Go.Shelf.Ren := ⟨fun | 151 => 109 | 152 => 157 | 137 => 156 | 119 => 190 | 224 => 191 | 225 => 192 | 217 => 189 | 266 => 210 | n => n, fun | 9 => 9 | 21 => 21 | 4 => 4 | 3 => 3 | 5 => 5 | 0 => 0 | 46 => 99 | n => n, fun | n => n⟩
theorem Tryz.lays151 : Go.Proofs.Lays.n151 Tryz.prog Tryz.lays151_ren := {
  mixed := by kernel_rfl
  f119 := Tryz.func190.trans (congrArg some (by kernel_rfl))
  f137 := Tryz.func156.trans (congrArg some (by kernel_rfl))
  f151 := Tryz.func109.trans (congrArg some (by kernel_rfl))
  f152 := Tryz.func157.trans (congrArg some (by kernel_rfl))
  f217 := Tryz.func189.trans (congrArg some (by kernel_rfl))
  f224 := Tryz.func191.trans (congrArg some (by kernel_rfl))
  f225 := Tryz.func192.trans (congrArg some (by kernel_rfl))
  f266 := Tryz.func210.trans (congrArg some (by kernel_rfl))
  t0 := Tryz.underlying0
  a0 := Tryz.isAgg0
  z0 := Tryz.sizeOf0
  v0 := Tryz.zeroValue0
  t3 := Tryz.underlying3
  a3 := Tryz.isAgg3
  z3 := Tryz.sizeOf3
  v3 := Tryz.zeroValue3
  t4 := Tryz.underlying4
  a4 := Tryz.isAgg4
  z4 := Tryz.sizeOf4
  v4 := Tryz.zeroValue4
  t5 := Tryz.underlying5
  a5 := Tryz.isAgg5
  z5 := Tryz.sizeOf5
  v5 := Tryz.zeroValue5
  t9 := Tryz.underlying9
  a9 := Tryz.isAgg9
  z9 := Tryz.sizeOf9
  v9 := Tryz.zeroValue9
  t21 := Tryz.underlying21
  a21 := Tryz.isAgg21
  z21 := Tryz.sizeOf21
  v21 := Tryz.zeroValue21
  t46 := Tryz.underlying99
  a46 := Tryz.isAgg99
  z46 := Tryz.sizeOf99
  v46 := Tryz.zeroValue99 }
open Go.RowKit Go.Lib in
theorem Tryz.strings_ContainsRune_ascii (s : ByteArray) (r : Int) (w : World) (h0 : 0 ≤ r) (h1 : r < 128) :
    Calls Tryz.prog 109 #[.string s, .int .i32 r] w fun e w' => e = .returned (.bool (decide (0 ≤ Lib.indexByte s.data.toList r.toNat.toUInt8))) ∧ w' = w := Any.strings_ContainsRune_ascii Tryz.lays151 s r w h0 h1
end Go.Proofs

/-
Facts on the types and functions of this seat, as instances: written by a program out of the translation.
-/
namespace Go.Proofs.YtgpibcgebpgmiaaGreatDoor
open Go Go.Eng
theorem mixed : Tryz.prog.follows .mixedOrders = true := by kernel_rfl
abbrev und0 := Und.mk (P := Tryz.prog) (t := 0) Tryz.underlying0
attribute [instance] und0
instance siz0 : Siz Tryz.prog 0 1 := ⟨by kernel_rfl⟩
instance byt0 : Byt Tryz.prog 0 0 := ⟨by kernel_rfl⟩
abbrev und1 := Und.mk (P := Tryz.prog) (t := 1) Tryz.underlying1
attribute [instance] und1
instance siz1 : Siz Tryz.prog 1 1 := ⟨by kernel_rfl⟩
instance byt1 : Byt Tryz.prog 1 8 := ⟨by kernel_rfl⟩
instance zer1 : Zer Tryz.prog 1 (.nilFunc) := ⟨by kernel_rfl⟩
abbrev und2 := Und.mk (P := Tryz.prog) (t := 2) Tryz.underlying2
attribute [instance] und2
instance siz2 : Siz Tryz.prog 2 1 := ⟨by kernel_rfl⟩
instance byt2 : Byt Tryz.prog 2 8 := ⟨by kernel_rfl⟩
instance zer2 : Zer Tryz.prog 2 (.int .i64 0) := ⟨by kernel_rfl⟩
abbrev und3 := Und.mk (P := Tryz.prog) (t := 3) Tryz.underlying3
attribute [instance] und3
instance siz3 : Siz Tryz.prog 3 1 := ⟨by kernel_rfl⟩
instance byt3 : Byt Tryz.prog 3 8 := ⟨by kernel_rfl⟩
instance zer3 : Zer Tryz.prog 3 (.int .i64 0) := ⟨by kernel_rfl⟩
abbrev und4 := Und.mk (P := Tryz.prog) (t := 4) Tryz.underlying4
attribute [instance] und4
instance siz4 : Siz Tryz.prog 4 1 := ⟨by kernel_rfl⟩
instance byt4 : Byt Tryz.prog 4 1 := ⟨by kernel_rfl⟩
instance zer4 : Zer Tryz.prog 4 (.bool false) := ⟨by kernel_rfl⟩
abbrev und5 := Und.mk (P := Tryz.prog) (t := 5) Tryz.underlying5
attribute [instance] und5
instance siz5 : Siz Tryz.prog 5 1 := ⟨by kernel_rfl⟩
instance byt5 : Byt Tryz.prog 5 1 := ⟨by kernel_rfl⟩
instance zer5 : Zer Tryz.prog 5 (.int .u8 0) := ⟨by kernel_rfl⟩
abbrev und6 := Und.mk (P := Tryz.prog) (t := 6) Tryz.underlying6
attribute [instance] und6
instance siz6 : Siz Tryz.prog 6 1 := ⟨by kernel_rfl⟩
instance byt6 : Byt Tryz.prog 6 1 := ⟨by kernel_rfl⟩
instance zer6 : Zer Tryz.prog 6 (.int .u8 0) := ⟨by kernel_rfl⟩
abbrev und7 := Und.mk (P := Tryz.prog) (t := 7) Tryz.underlying7
attribute [instance] und7
instance siz7 : Siz Tryz.prog 7 4 := ⟨by kernel_rfl⟩
instance byt7 : Byt Tryz.prog 7 24 := ⟨by kernel_rfl⟩
instance zer7 : Zer Tryz.prog 7 (.agg #[.int .i64 0, .int .i64 0, .bool false, .int .u8 0]) := ⟨by kernel_rfl⟩
instance fld7x0 : Fld Tryz.prog 7 0 0 := ⟨_, _, 0, Tryz.underlying7, rfl, rfl, by kernel_rfl⟩
instance fld7x1 : Fld Tryz.prog 7 1 1 := ⟨_, _, 0, Tryz.underlying7, rfl, rfl, by kernel_rfl⟩
instance fld7x2 : Fld Tryz.prog 7 2 2 := ⟨_, _, 0, Tryz.underlying7, rfl, rfl, by kernel_rfl⟩
instance fld7x3 : Fld Tryz.prog 7 3 3 := ⟨_, _, 0, Tryz.underlying7, rfl, rfl, by kernel_rfl⟩
abbrev und8 := Und.mk (P := Tryz.prog) (t := 8) Tryz.underlying8
attribute [instance] und8
instance siz8 : Siz Tryz.prog 8 4 := ⟨by kernel_rfl⟩
instance byt8 : Byt Tryz.prog 8 24 := ⟨by kernel_rfl⟩
instance zer8 : Zer Tryz.prog 8 (.agg #[.int .i64 0, .int .i64 0, .bool false, .int .u8 0]) := ⟨by kernel_rfl⟩
instance fld8x0 : Fld Tryz.prog 8 0 0 := ⟨_, _, 0, Tryz.underlying8, rfl, rfl, by kernel_rfl⟩
instance fld8x1 : Fld Tryz.prog 8 1 1 := ⟨_, _, 0, Tryz.underlying8, rfl, rfl, by kernel_rfl⟩
instance fld8x2 : Fld Tryz.prog 8 2 2 := ⟨_, _, 0, Tryz.underlying8, rfl, rfl, by kernel_rfl⟩
instance fld8x3 : Fld Tryz.prog 8 3 3 := ⟨_, _, 0, Tryz.underlying8, rfl, rfl, by kernel_rfl⟩
abbrev und9 := Und.mk (P := Tryz.prog) (t := 9) Tryz.underlying9
attribute [instance] und9
instance siz9 : Siz Tryz.prog 9 1 := ⟨by kernel_rfl⟩
instance byt9 : Byt Tryz.prog 9 16 := ⟨by kernel_rfl⟩
instance zer9 : Zer Tryz.prog 9 (.string ByteArray.empty) := ⟨by kernel_rfl⟩
abbrev und10 := Und.mk (P := Tryz.prog) (t := 10) Tryz.underlying10
attribute [instance] und10
instance siz10 : Siz Tryz.prog 10 1 := ⟨by kernel_rfl⟩
instance byt10 : Byt Tryz.prog 10 16 := ⟨by kernel_rfl⟩
instance zer10 : Zer Tryz.prog 10 (.string ByteArray.empty) := ⟨by kernel_rfl⟩
abbrev und11 := Und.mk (P := Tryz.prog) (t := 11) Tryz.underlying11
attribute [instance] und11
instance siz11 : Siz Tryz.prog 11 1 := ⟨by kernel_rfl⟩
instance byt11 : Byt Tryz.prog 11 16 := ⟨by kernel_rfl⟩
instance zer11 : Zer Tryz.prog 11 (.string ByteArray.empty) := ⟨by kernel_rfl⟩
abbrev und12 := Und.mk (P := Tryz.prog) (t := 12) Tryz.underlying12
attribute [instance] und12
instance siz12 : Siz Tryz.prog 12 1 := ⟨by kernel_rfl⟩
instance byt12 : Byt Tryz.prog 12 8 := ⟨by kernel_rfl⟩
instance zer12 : Zer Tryz.prog 12 (.int .u64 0) := ⟨by kernel_rfl⟩
abbrev und13 := Und.mk (P := Tryz.prog) (t := 13) Tryz.underlying13
attribute [instance] und13
instance siz13 : Siz Tryz.prog 13 2 := ⟨by kernel_rfl⟩
instance byt13 : Byt Tryz.prog 13 24 := ⟨by kernel_rfl⟩
instance zer13 : Zer Tryz.prog 13 (.agg #[.string ByteArray.empty, .int .u64 0]) := ⟨by kernel_rfl⟩
instance fld13x0 : Fld Tryz.prog 13 0 0 := ⟨_, _, 0, Tryz.underlying13, rfl, rfl, by kernel_rfl⟩
instance fld13x1 : Fld Tryz.prog 13 1 1 := ⟨_, _, 0, Tryz.underlying13, rfl, rfl, by kernel_rfl⟩
abbrev und14 := Und.mk (P := Tryz.prog) (t := 14) Tryz.underlying14
attribute [instance] und14
instance siz14 : Siz Tryz.prog 14 2 := ⟨by kernel_rfl⟩
instance byt14 : Byt Tryz.prog 14 24 := ⟨by kernel_rfl⟩
instance zer14 : Zer Tryz.prog 14 (.agg #[.string ByteArray.empty, .int .u64 0]) := ⟨by kernel_rfl⟩
instance fld14x0 : Fld Tryz.prog 14 0 0 := ⟨_, _, 0, Tryz.underlying14, rfl, rfl, by kernel_rfl⟩
instance fld14x1 : Fld Tryz.prog 14 1 1 := ⟨_, _, 0, Tryz.underlying14, rfl, rfl, by kernel_rfl⟩
abbrev und15 := Und.mk (P := Tryz.prog) (t := 15) Tryz.underlying15
attribute [instance] und15
instance siz15 : Siz Tryz.prog 15 1 := ⟨by kernel_rfl⟩
instance byt15 : Byt Tryz.prog 15 8 := ⟨by kernel_rfl⟩
instance zer15 : Zer Tryz.prog 15 (.pointer none) := ⟨by kernel_rfl⟩
abbrev und16 := Und.mk (P := Tryz.prog) (t := 16) Tryz.underlying16
attribute [instance] und16
instance siz16 : Siz Tryz.prog 16 1 := ⟨by kernel_rfl⟩
instance byt16 : Byt Tryz.prog 16 8 := ⟨by kernel_rfl⟩
instance zer16 : Zer Tryz.prog 16 (.pointer none) := ⟨by kernel_rfl⟩
abbrev und17 := Und.mk (P := Tryz.prog) (t := 17) Tryz.underlying17
attribute [instance] und17
instance siz17 : Siz Tryz.prog 17 1 := ⟨by kernel_rfl⟩
instance byt17 : Byt Tryz.prog 17 8 := ⟨by kernel_rfl⟩
instance zer17 : Zer Tryz.prog 17 (.pointer none) := ⟨by kernel_rfl⟩
abbrev und18 := Und.mk (P := Tryz.prog) (t := 18) Tryz.underlying18
attribute [instance] und18
instance siz18 : Siz Tryz.prog 18 1 := ⟨by kernel_rfl⟩
instance byt18 : Byt Tryz.prog 18 8 := ⟨by kernel_rfl⟩
instance zer18 : Zer Tryz.prog 18 (.agg #[.pointer none]) := ⟨by kernel_rfl⟩
instance fld18x0 : Fld Tryz.prog 18 0 0 := ⟨_, _, 0, Tryz.underlying18, rfl, rfl, by kernel_rfl⟩
abbrev und19 := Und.mk (P := Tryz.prog) (t := 19) Tryz.underlying19
attribute [instance] und19
instance siz19 : Siz Tryz.prog 19 1 := ⟨by kernel_rfl⟩
instance byt19 : Byt Tryz.prog 19 8 := ⟨by kernel_rfl⟩
instance zer19 : Zer Tryz.prog 19 (.agg #[.pointer none]) := ⟨by kernel_rfl⟩
instance fld19x0 : Fld Tryz.prog 19 0 0 := ⟨_, _, 0, Tryz.underlying19, rfl, rfl, by kernel_rfl⟩
abbrev und20 := Und.mk (P := Tryz.prog) (t := 20) Tryz.underlying20
attribute [instance] und20
instance siz20 : Siz Tryz.prog 20 1 := ⟨by kernel_rfl⟩
instance byt20 : Byt Tryz.prog 20 16 := ⟨by kernel_rfl⟩
instance zer20 : Zer Tryz.prog 20 (.nilIface) := ⟨by kernel_rfl⟩
abbrev und21 := Und.mk (P := Tryz.prog) (t := 21) Tryz.underlying21
attribute [instance] und21
instance siz21 : Siz Tryz.prog 21 1 := ⟨by kernel_rfl⟩
instance byt21 : Byt Tryz.prog 21 4 := ⟨by kernel_rfl⟩
instance zer21 : Zer Tryz.prog 21 (.int .i32 0) := ⟨by kernel_rfl⟩
abbrev und22 := Und.mk (P := Tryz.prog) (t := 22) Tryz.underlying22
attribute [instance] und22
instance siz22 : Siz Tryz.prog 22 1 := ⟨by kernel_rfl⟩
instance byt22 : Byt Tryz.prog 22 24 := ⟨by kernel_rfl⟩
instance zer22 : Zer Tryz.prog 22 (.slice none 0 0) := ⟨by kernel_rfl⟩
abbrev und23 := Und.mk (P := Tryz.prog) (t := 23) Tryz.underlying23
attribute [instance] und23
instance siz23 : Siz Tryz.prog 23 1 := ⟨by kernel_rfl⟩
instance byt23 : Byt Tryz.prog 23 24 := ⟨by kernel_rfl⟩
instance zer23 : Zer Tryz.prog 23 (.slice none 0 0) := ⟨by kernel_rfl⟩
abbrev und24 := Und.mk (P := Tryz.prog) (t := 24) Tryz.underlying24
attribute [instance] und24
instance siz24 : Siz Tryz.prog 24 1 := ⟨by kernel_rfl⟩
instance byt24 : Byt Tryz.prog 24 8 := ⟨by kernel_rfl⟩
instance zer24 : Zer Tryz.prog 24 (.int .i64 0) := ⟨by kernel_rfl⟩
abbrev und25 := Und.mk (P := Tryz.prog) (t := 25) Tryz.underlying25
attribute [instance] und25
instance siz25 : Siz Tryz.prog 25 1 := ⟨by kernel_rfl⟩
instance byt25 : Byt Tryz.prog 25 0 := ⟨by kernel_rfl⟩
abbrev und26 := Und.mk (P := Tryz.prog) (t := 26) Tryz.underlying26
attribute [instance] und26
instance siz26 : Siz Tryz.prog 26 1 := ⟨by kernel_rfl⟩
instance byt26 : Byt Tryz.prog 26 8 := ⟨by kernel_rfl⟩
instance zer26 : Zer Tryz.prog 26 (.nilFunc) := ⟨by kernel_rfl⟩
abbrev und27 := Und.mk (P := Tryz.prog) (t := 27) Tryz.underlying27
attribute [instance] und27
instance siz27 : Siz Tryz.prog 27 1 := ⟨by kernel_rfl⟩
instance byt27 : Byt Tryz.prog 27 8 := ⟨by kernel_rfl⟩
instance zer27 : Zer Tryz.prog 27 (.nilFunc) := ⟨by kernel_rfl⟩
abbrev und28 := Und.mk (P := Tryz.prog) (t := 28) Tryz.underlying28
attribute [instance] und28
instance siz28 : Siz Tryz.prog 28 1 := ⟨by kernel_rfl⟩
instance byt28 : Byt Tryz.prog 28 8 := ⟨by kernel_rfl⟩
instance zer28 : Zer Tryz.prog 28 (.nilFunc) := ⟨by kernel_rfl⟩
abbrev und29 := Und.mk (P := Tryz.prog) (t := 29) Tryz.underlying29
attribute [instance] und29
instance siz29 : Siz Tryz.prog 29 1 := ⟨by kernel_rfl⟩
instance byt29 : Byt Tryz.prog 29 24 := ⟨by kernel_rfl⟩
instance zer29 : Zer Tryz.prog 29 (.slice none 0 0) := ⟨by kernel_rfl⟩
abbrev und30 := Und.mk (P := Tryz.prog) (t := 30) Tryz.underlying30
attribute [instance] und30
instance siz30 : Siz Tryz.prog 30 7 := ⟨by kernel_rfl⟩
instance byt30 : Byt Tryz.prog 30 120 := ⟨by kernel_rfl⟩
instance zer30 : Zer Tryz.prog 30 (.agg #[.string ByteArray.empty, .int .i64 0, .string ByteArray.empty, .slice none 0 0, .slice none 0 0, .string ByteArray.empty, .string ByteArray.empty]) := ⟨by kernel_rfl⟩
instance fld30x0 : Fld Tryz.prog 30 0 0 := ⟨_, _, 0, Tryz.underlying30, rfl, rfl, by kernel_rfl⟩
instance fld30x1 : Fld Tryz.prog 30 1 1 := ⟨_, _, 0, Tryz.underlying30, rfl, rfl, by kernel_rfl⟩
instance fld30x2 : Fld Tryz.prog 30 2 2 := ⟨_, _, 0, Tryz.underlying30, rfl, rfl, by kernel_rfl⟩
instance fld30x3 : Fld Tryz.prog 30 3 3 := ⟨_, _, 0, Tryz.underlying30, rfl, rfl, by kernel_rfl⟩
instance fld30x4 : Fld Tryz.prog 30 4 4 := ⟨_, _, 0, Tryz.underlying30, rfl, rfl, by kernel_rfl⟩
instance fld30x5 : Fld Tryz.prog 30 5 5 := ⟨_, _, 0, Tryz.underlying30, rfl, rfl, by kernel_rfl⟩
instance fld30x6 : Fld Tryz.prog 30 6 6 := ⟨_, _, 0, Tryz.underlying30, rfl, rfl, by kernel_rfl⟩
abbrev und31 := Und.mk (P := Tryz.prog) (t := 31) Tryz.underlying31
attribute [instance] und31
instance siz31 : Siz Tryz.prog 31 7 := ⟨by kernel_rfl⟩
instance byt31 : Byt Tryz.prog 31 120 := ⟨by kernel_rfl⟩
instance zer31 : Zer Tryz.prog 31 (.agg #[.string ByteArray.empty, .int .i64 0, .string ByteArray.empty, .slice none 0 0, .slice none 0 0, .string ByteArray.empty, .string ByteArray.empty]) := ⟨by kernel_rfl⟩
instance fld31x0 : Fld Tryz.prog 31 0 0 := ⟨_, _, 0, Tryz.underlying31, rfl, rfl, by kernel_rfl⟩
instance fld31x1 : Fld Tryz.prog 31 1 1 := ⟨_, _, 0, Tryz.underlying31, rfl, rfl, by kernel_rfl⟩
instance fld31x2 : Fld Tryz.prog 31 2 2 := ⟨_, _, 0, Tryz.underlying31, rfl, rfl, by kernel_rfl⟩
instance fld31x3 : Fld Tryz.prog 31 3 3 := ⟨_, _, 0, Tryz.underlying31, rfl, rfl, by kernel_rfl⟩
instance fld31x4 : Fld Tryz.prog 31 4 4 := ⟨_, _, 0, Tryz.underlying31, rfl, rfl, by kernel_rfl⟩
instance fld31x5 : Fld Tryz.prog 31 5 5 := ⟨_, _, 0, Tryz.underlying31, rfl, rfl, by kernel_rfl⟩
instance fld31x6 : Fld Tryz.prog 31 6 6 := ⟨_, _, 0, Tryz.underlying31, rfl, rfl, by kernel_rfl⟩
abbrev und32 := Und.mk (P := Tryz.prog) (t := 32) Tryz.underlying32
attribute [instance] und32
instance siz32 : Siz Tryz.prog 32 1 := ⟨by kernel_rfl⟩
instance byt32 : Byt Tryz.prog 32 0 := ⟨by kernel_rfl⟩
abbrev und33 := Und.mk (P := Tryz.prog) (t := 33) Tryz.underlying33
attribute [instance] und33
instance siz33 : Siz Tryz.prog 33 1 := ⟨by kernel_rfl⟩
instance byt33 : Byt Tryz.prog 33 8 := ⟨by kernel_rfl⟩
instance zer33 : Zer Tryz.prog 33 (.nilFunc) := ⟨by kernel_rfl⟩
abbrev und34 := Und.mk (P := Tryz.prog) (t := 34) Tryz.underlying34
attribute [instance] und34
instance siz34 : Siz Tryz.prog 34 1 := ⟨by kernel_rfl⟩
instance byt34 : Byt Tryz.prog 34 24 := ⟨by kernel_rfl⟩
instance zer34 : Zer Tryz.prog 34 (.slice none 0 0) := ⟨by kernel_rfl⟩
abbrev und35 := Und.mk (P := Tryz.prog) (t := 35) Tryz.underlying35
attribute [instance] und35
instance siz35 : Siz Tryz.prog 35 4 := ⟨by kernel_rfl⟩
instance byt35 : Byt Tryz.prog 35 56 := ⟨by kernel_rfl⟩
instance zer35 : Zer Tryz.prog 35 (.agg #[.int .i64 0, .int .i64 0, .string ByteArray.empty, .slice none 0 0]) := ⟨by kernel_rfl⟩
instance fld35x0 : Fld Tryz.prog 35 0 0 := ⟨_, _, 0, Tryz.underlying35, rfl, rfl, by kernel_rfl⟩
instance fld35x1 : Fld Tryz.prog 35 1 1 := ⟨_, _, 0, Tryz.underlying35, rfl, rfl, by kernel_rfl⟩
instance fld35x2 : Fld Tryz.prog 35 2 2 := ⟨_, _, 0, Tryz.underlying35, rfl, rfl, by kernel_rfl⟩
instance fld35x3 : Fld Tryz.prog 35 3 3 := ⟨_, _, 0, Tryz.underlying35, rfl, rfl, by kernel_rfl⟩
abbrev und36 := Und.mk (P := Tryz.prog) (t := 36) Tryz.underlying36
attribute [instance] und36
instance siz36 : Siz Tryz.prog 36 4 := ⟨by kernel_rfl⟩
instance byt36 : Byt Tryz.prog 36 56 := ⟨by kernel_rfl⟩
instance zer36 : Zer Tryz.prog 36 (.agg #[.int .i64 0, .int .i64 0, .string ByteArray.empty, .slice none 0 0]) := ⟨by kernel_rfl⟩
instance fld36x0 : Fld Tryz.prog 36 0 0 := ⟨_, _, 0, Tryz.underlying36, rfl, rfl, by kernel_rfl⟩
instance fld36x1 : Fld Tryz.prog 36 1 1 := ⟨_, _, 0, Tryz.underlying36, rfl, rfl, by kernel_rfl⟩
instance fld36x2 : Fld Tryz.prog 36 2 2 := ⟨_, _, 0, Tryz.underlying36, rfl, rfl, by kernel_rfl⟩
instance fld36x3 : Fld Tryz.prog 36 3 3 := ⟨_, _, 0, Tryz.underlying36, rfl, rfl, by kernel_rfl⟩
abbrev und37 := Und.mk (P := Tryz.prog) (t := 37) Tryz.underlying37
attribute [instance] und37
instance siz37 : Siz Tryz.prog 37 13 := ⟨by kernel_rfl⟩
instance byt37 : Byt Tryz.prog 37 184 := ⟨by kernel_rfl⟩
instance zer37 : Zer Tryz.prog 37 (.agg #[.string ByteArray.empty, .int .i64 0, .string ByteArray.empty, .int .i64 0, .int .i64 0, .string ByteArray.empty, .slice none 0 0, .int .i64 0, .int .i64 0, .string ByteArray.empty, .slice none 0 0, .string ByteArray.empty, .string ByteArray.empty]) := ⟨by kernel_rfl⟩
instance fld37x0 : Fld Tryz.prog 37 0 0 := ⟨_, _, 0, Tryz.underlying37, rfl, rfl, by kernel_rfl⟩
instance fld37x1 : Fld Tryz.prog 37 1 1 := ⟨_, _, 0, Tryz.underlying37, rfl, rfl, by kernel_rfl⟩
instance fld37x2 : Fld Tryz.prog 37 2 2 := ⟨_, _, 0, Tryz.underlying37, rfl, rfl, by kernel_rfl⟩
instance fld37x3 : Fld Tryz.prog 37 3 3 := ⟨_, _, 3, Tryz.underlying37, rfl, rfl, by kernel_rfl⟩
instance fld37x4 : Fld Tryz.prog 37 4 7 := ⟨_, _, 3, Tryz.underlying37, rfl, rfl, by kernel_rfl⟩
instance fld37x5 : Fld Tryz.prog 37 5 11 := ⟨_, _, 0, Tryz.underlying37, rfl, rfl, by kernel_rfl⟩
instance fld37x6 : Fld Tryz.prog 37 6 12 := ⟨_, _, 0, Tryz.underlying37, rfl, rfl, by kernel_rfl⟩
abbrev und38 := Und.mk (P := Tryz.prog) (t := 38) Tryz.underlying38
attribute [instance] und38
instance siz38 : Siz Tryz.prog 38 13 := ⟨by kernel_rfl⟩
instance byt38 : Byt Tryz.prog 38 184 := ⟨by kernel_rfl⟩
instance zer38 : Zer Tryz.prog 38 (.agg #[.string ByteArray.empty, .int .i64 0, .string ByteArray.empty, .int .i64 0, .int .i64 0, .string ByteArray.empty, .slice none 0 0, .int .i64 0, .int .i64 0, .string ByteArray.empty, .slice none 0 0, .string ByteArray.empty, .string ByteArray.empty]) := ⟨by kernel_rfl⟩
instance fld38x0 : Fld Tryz.prog 38 0 0 := ⟨_, _, 0, Tryz.underlying38, rfl, rfl, by kernel_rfl⟩
instance fld38x1 : Fld Tryz.prog 38 1 1 := ⟨_, _, 0, Tryz.underlying38, rfl, rfl, by kernel_rfl⟩
instance fld38x2 : Fld Tryz.prog 38 2 2 := ⟨_, _, 0, Tryz.underlying38, rfl, rfl, by kernel_rfl⟩
instance fld38x3 : Fld Tryz.prog 38 3 3 := ⟨_, _, 3, Tryz.underlying38, rfl, rfl, by kernel_rfl⟩
instance fld38x4 : Fld Tryz.prog 38 4 7 := ⟨_, _, 3, Tryz.underlying38, rfl, rfl, by kernel_rfl⟩
instance fld38x5 : Fld Tryz.prog 38 5 11 := ⟨_, _, 0, Tryz.underlying38, rfl, rfl, by kernel_rfl⟩
instance fld38x6 : Fld Tryz.prog 38 6 12 := ⟨_, _, 0, Tryz.underlying38, rfl, rfl, by kernel_rfl⟩
abbrev und39 := Und.mk (P := Tryz.prog) (t := 39) Tryz.underlying39
attribute [instance] und39
instance siz39 : Siz Tryz.prog 39 1 := ⟨by kernel_rfl⟩
instance byt39 : Byt Tryz.prog 39 8 := ⟨by kernel_rfl⟩
instance zer39 : Zer Tryz.prog 39 (.nilFunc) := ⟨by kernel_rfl⟩
abbrev und40 := Und.mk (P := Tryz.prog) (t := 40) Tryz.underlying40
attribute [instance] und40
instance siz40 : Siz Tryz.prog 40 1 := ⟨by kernel_rfl⟩
instance byt40 : Byt Tryz.prog 40 8 := ⟨by kernel_rfl⟩
instance zer40 : Zer Tryz.prog 40 (.pointer none) := ⟨by kernel_rfl⟩
abbrev und41 := Und.mk (P := Tryz.prog) (t := 41) Tryz.underlying41
attribute [instance] und41
instance siz41 : Siz Tryz.prog 41 1 := ⟨by kernel_rfl⟩
instance byt41 : Byt Tryz.prog 41 8 := ⟨by kernel_rfl⟩
instance zer41 : Zer Tryz.prog 41 (.nilFunc) := ⟨by kernel_rfl⟩
abbrev und42 := Und.mk (P := Tryz.prog) (t := 42) Tryz.underlying42
attribute [instance] und42
instance siz42 : Siz Tryz.prog 42 1 := ⟨by kernel_rfl⟩
instance byt42 : Byt Tryz.prog 42 24 := ⟨by kernel_rfl⟩
instance zer42 : Zer Tryz.prog 42 (.slice none 0 0) := ⟨by kernel_rfl⟩
abbrev und43 := Und.mk (P := Tryz.prog) (t := 43) Tryz.underlying43
attribute [instance] und43
instance siz43 : Siz Tryz.prog 43 1 := ⟨by kernel_rfl⟩
instance byt43 : Byt Tryz.prog 43 8 := ⟨by kernel_rfl⟩
instance zer43 : Zer Tryz.prog 43 (.nilFunc) := ⟨by kernel_rfl⟩
abbrev und44 := Und.mk (P := Tryz.prog) (t := 44) Tryz.underlying44
attribute [instance] und44
instance siz44 : Siz Tryz.prog 44 1 := ⟨by kernel_rfl⟩
instance byt44 : Byt Tryz.prog 44 8 := ⟨by kernel_rfl⟩
instance zer44 : Zer Tryz.prog 44 (.nilFunc) := ⟨by kernel_rfl⟩
abbrev und45 := Und.mk (P := Tryz.prog) (t := 45) Tryz.underlying45
attribute [instance] und45
instance siz45 : Siz Tryz.prog 45 1 := ⟨by kernel_rfl⟩
instance byt45 : Byt Tryz.prog 45 8 := ⟨by kernel_rfl⟩
instance zer45 : Zer Tryz.prog 45 (.nilFunc) := ⟨by kernel_rfl⟩
abbrev und46 := Und.mk (P := Tryz.prog) (t := 46) Tryz.underlying46
attribute [instance] und46
instance siz46 : Siz Tryz.prog 46 1 := ⟨by kernel_rfl⟩
instance byt46 : Byt Tryz.prog 46 8 := ⟨by kernel_rfl⟩
instance zer46 : Zer Tryz.prog 46 (.nilFunc) := ⟨by kernel_rfl⟩
abbrev und47 := Und.mk (P := Tryz.prog) (t := 47) Tryz.underlying47
attribute [instance] und47
instance siz47 : Siz Tryz.prog 47 1 := ⟨by kernel_rfl⟩
instance byt47 : Byt Tryz.prog 47 8 := ⟨by kernel_rfl⟩
instance zer47 : Zer Tryz.prog 47 (.nilFunc) := ⟨by kernel_rfl⟩
abbrev und48 := Und.mk (P := Tryz.prog) (t := 48) Tryz.underlying48
attribute [instance] und48
instance siz48 : Siz Tryz.prog 48 1 := ⟨by kernel_rfl⟩
instance byt48 : Byt Tryz.prog 48 8 := ⟨by kernel_rfl⟩
instance zer48 : Zer Tryz.prog 48 (.nilFunc) := ⟨by kernel_rfl⟩
abbrev und49 := Und.mk (P := Tryz.prog) (t := 49) Tryz.underlying49
attribute [instance] und49
instance siz49 : Siz Tryz.prog 49 1 := ⟨by kernel_rfl⟩
instance byt49 : Byt Tryz.prog 49 0 := ⟨by kernel_rfl⟩
abbrev und50 := Und.mk (P := Tryz.prog) (t := 50) Tryz.underlying50
attribute [instance] und50
instance siz50 : Siz Tryz.prog 50 1 := ⟨by kernel_rfl⟩
instance byt50 : Byt Tryz.prog 50 8 := ⟨by kernel_rfl⟩
instance zer50 : Zer Tryz.prog 50 (.nilFunc) := ⟨by kernel_rfl⟩
abbrev und51 := Und.mk (P := Tryz.prog) (t := 51) Tryz.underlying51
attribute [instance] und51
instance siz51 : Siz Tryz.prog 51 1 := ⟨by kernel_rfl⟩
instance byt51 : Byt Tryz.prog 51 8 := ⟨by kernel_rfl⟩
instance zer51 : Zer Tryz.prog 51 (.nilFunc) := ⟨by kernel_rfl⟩
abbrev und52 := Und.mk (P := Tryz.prog) (t := 52) Tryz.underlying52
attribute [instance] und52
instance siz52 : Siz Tryz.prog 52 1 := ⟨by kernel_rfl⟩
instance byt52 : Byt Tryz.prog 52 8 := ⟨by kernel_rfl⟩
instance zer52 : Zer Tryz.prog 52 (.nilFunc) := ⟨by kernel_rfl⟩
abbrev und53 := Und.mk (P := Tryz.prog) (t := 53) Tryz.underlying53
attribute [instance] und53
instance siz53 : Siz Tryz.prog 53 1 := ⟨by kernel_rfl⟩
instance byt53 : Byt Tryz.prog 53 8 := ⟨by kernel_rfl⟩
instance zer53 : Zer Tryz.prog 53 (.nilFunc) := ⟨by kernel_rfl⟩
abbrev und54 := Und.mk (P := Tryz.prog) (t := 54) Tryz.underlying54
attribute [instance] und54
instance siz54 : Siz Tryz.prog 54 1 := ⟨by kernel_rfl⟩
instance byt54 : Byt Tryz.prog 54 8 := ⟨by kernel_rfl⟩
instance zer54 : Zer Tryz.prog 54 (.nilFunc) := ⟨by kernel_rfl⟩
abbrev und55 := Und.mk (P := Tryz.prog) (t := 55) Tryz.underlying55
attribute [instance] und55
instance siz55 : Siz Tryz.prog 55 1 := ⟨by kernel_rfl⟩
instance byt55 : Byt Tryz.prog 55 8 := ⟨by kernel_rfl⟩
instance zer55 : Zer Tryz.prog 55 (.nilFunc) := ⟨by kernel_rfl⟩
abbrev und56 := Und.mk (P := Tryz.prog) (t := 56) Tryz.underlying56
attribute [instance] und56
instance siz56 : Siz Tryz.prog 56 1 := ⟨by kernel_rfl⟩
instance byt56 : Byt Tryz.prog 56 24 := ⟨by kernel_rfl⟩
instance zer56 : Zer Tryz.prog 56 (.slice none 0 0) := ⟨by kernel_rfl⟩
abbrev und57 := Und.mk (P := Tryz.prog) (t := 57) Tryz.underlying57
attribute [instance] und57
instance siz57 : Siz Tryz.prog 57 1 := ⟨by kernel_rfl⟩
instance byt57 : Byt Tryz.prog 57 8 := ⟨by kernel_rfl⟩
instance zer57 : Zer Tryz.prog 57 (.nilFunc) := ⟨by kernel_rfl⟩
abbrev und58 := Und.mk (P := Tryz.prog) (t := 58) Tryz.underlying58
attribute [instance] und58
instance siz58 : Siz Tryz.prog 58 1 := ⟨by kernel_rfl⟩
instance byt58 : Byt Tryz.prog 58 8 := ⟨by kernel_rfl⟩
instance zer58 : Zer Tryz.prog 58 (.nilFunc) := ⟨by kernel_rfl⟩
abbrev und59 := Und.mk (P := Tryz.prog) (t := 59) Tryz.underlying59
attribute [instance] und59
instance siz59 : Siz Tryz.prog 59 1 := ⟨by kernel_rfl⟩
instance byt59 : Byt Tryz.prog 59 8 := ⟨by kernel_rfl⟩
instance zer59 : Zer Tryz.prog 59 (.pointer none) := ⟨by kernel_rfl⟩
abbrev und60 := Und.mk (P := Tryz.prog) (t := 60) Tryz.underlying60
attribute [instance] und60
instance siz60 : Siz Tryz.prog 60 4 := ⟨by kernel_rfl⟩
instance byt60 : Byt Tryz.prog 60 40 := ⟨by kernel_rfl⟩
instance zer60 : Zer Tryz.prog 60 (.agg #[.int .i64 0, .int .i64 0, .string ByteArray.empty, .int .i64 0]) := ⟨by kernel_rfl⟩
instance fld60x0 : Fld Tryz.prog 60 0 0 := ⟨_, _, 0, Tryz.underlying60, rfl, rfl, by kernel_rfl⟩
instance fld60x1 : Fld Tryz.prog 60 1 1 := ⟨_, _, 0, Tryz.underlying60, rfl, rfl, by kernel_rfl⟩
instance fld60x2 : Fld Tryz.prog 60 2 2 := ⟨_, _, 0, Tryz.underlying60, rfl, rfl, by kernel_rfl⟩
instance fld60x3 : Fld Tryz.prog 60 3 3 := ⟨_, _, 0, Tryz.underlying60, rfl, rfl, by kernel_rfl⟩
abbrev und61 := Und.mk (P := Tryz.prog) (t := 61) Tryz.underlying61
attribute [instance] und61
instance siz61 : Siz Tryz.prog 61 4 := ⟨by kernel_rfl⟩
instance byt61 : Byt Tryz.prog 61 40 := ⟨by kernel_rfl⟩
instance zer61 : Zer Tryz.prog 61 (.agg #[.int .i64 0, .int .i64 0, .string ByteArray.empty, .int .i64 0]) := ⟨by kernel_rfl⟩
instance fld61x0 : Fld Tryz.prog 61 0 0 := ⟨_, _, 0, Tryz.underlying61, rfl, rfl, by kernel_rfl⟩
instance fld61x1 : Fld Tryz.prog 61 1 1 := ⟨_, _, 0, Tryz.underlying61, rfl, rfl, by kernel_rfl⟩
instance fld61x2 : Fld Tryz.prog 61 2 2 := ⟨_, _, 0, Tryz.underlying61, rfl, rfl, by kernel_rfl⟩
instance fld61x3 : Fld Tryz.prog 61 3 3 := ⟨_, _, 0, Tryz.underlying61, rfl, rfl, by kernel_rfl⟩
abbrev und62 := Und.mk (P := Tryz.prog) (t := 62) Tryz.underlying62
attribute [instance] und62
instance siz62 : Siz Tryz.prog 62 1 := ⟨by kernel_rfl⟩
instance byt62 : Byt Tryz.prog 62 24 := ⟨by kernel_rfl⟩
instance zer62 : Zer Tryz.prog 62 (.slice none 0 0) := ⟨by kernel_rfl⟩
abbrev und63 := Und.mk (P := Tryz.prog) (t := 63) Tryz.underlying63
attribute [instance] und63
instance siz63 : Siz Tryz.prog 63 3 := ⟨by kernel_rfl⟩
instance byt63 : Byt Tryz.prog 63 40 := ⟨by kernel_rfl⟩
instance zer63 : Zer Tryz.prog 63 (.agg #[.slice none 0 0, .int .i64 0, .int .i64 0]) := ⟨by kernel_rfl⟩
instance fld63x0 : Fld Tryz.prog 63 0 0 := ⟨_, _, 0, Tryz.underlying63, rfl, rfl, by kernel_rfl⟩
instance fld63x1 : Fld Tryz.prog 63 1 1 := ⟨_, _, 0, Tryz.underlying63, rfl, rfl, by kernel_rfl⟩
instance fld63x2 : Fld Tryz.prog 63 2 2 := ⟨_, _, 0, Tryz.underlying63, rfl, rfl, by kernel_rfl⟩
abbrev und64 := Und.mk (P := Tryz.prog) (t := 64) Tryz.underlying64
attribute [instance] und64
instance siz64 : Siz Tryz.prog 64 3 := ⟨by kernel_rfl⟩
instance byt64 : Byt Tryz.prog 64 40 := ⟨by kernel_rfl⟩
instance zer64 : Zer Tryz.prog 64 (.agg #[.slice none 0 0, .int .i64 0, .int .i64 0]) := ⟨by kernel_rfl⟩
instance fld64x0 : Fld Tryz.prog 64 0 0 := ⟨_, _, 0, Tryz.underlying64, rfl, rfl, by kernel_rfl⟩
instance fld64x1 : Fld Tryz.prog 64 1 1 := ⟨_, _, 0, Tryz.underlying64, rfl, rfl, by kernel_rfl⟩
instance fld64x2 : Fld Tryz.prog 64 2 2 := ⟨_, _, 0, Tryz.underlying64, rfl, rfl, by kernel_rfl⟩
abbrev und65 := Und.mk (P := Tryz.prog) (t := 65) Tryz.underlying65
attribute [instance] und65
instance siz65 : Siz Tryz.prog 65 1 := ⟨by kernel_rfl⟩
instance byt65 : Byt Tryz.prog 65 8 := ⟨by kernel_rfl⟩
instance zer65 : Zer Tryz.prog 65 (.nilFunc) := ⟨by kernel_rfl⟩
abbrev und66 := Und.mk (P := Tryz.prog) (t := 66) Tryz.underlying66
attribute [instance] und66
instance siz66 : Siz Tryz.prog 66 1 := ⟨by kernel_rfl⟩
instance byt66 : Byt Tryz.prog 66 8 := ⟨by kernel_rfl⟩
instance zer66 : Zer Tryz.prog 66 (.nilFunc) := ⟨by kernel_rfl⟩
abbrev und67 := Und.mk (P := Tryz.prog) (t := 67) Tryz.underlying67
attribute [instance] und67
instance siz67 : Siz Tryz.prog 67 1 := ⟨by kernel_rfl⟩
instance byt67 : Byt Tryz.prog 67 8 := ⟨by kernel_rfl⟩
instance zer67 : Zer Tryz.prog 67 (.nilFunc) := ⟨by kernel_rfl⟩
abbrev und68 := Und.mk (P := Tryz.prog) (t := 68) Tryz.underlying68
attribute [instance] und68
instance siz68 : Siz Tryz.prog 68 1 := ⟨by kernel_rfl⟩
instance byt68 : Byt Tryz.prog 68 8 := ⟨by kernel_rfl⟩
instance zer68 : Zer Tryz.prog 68 (.pointer none) := ⟨by kernel_rfl⟩
abbrev und69 := Und.mk (P := Tryz.prog) (t := 69) Tryz.underlying69
attribute [instance] und69
instance siz69 : Siz Tryz.prog 69 2 := ⟨by kernel_rfl⟩
instance byt69 : Byt Tryz.prog 69 32 := ⟨by kernel_rfl⟩
instance zer69 : Zer Tryz.prog 69 (.agg #[.pointer none, .slice none 0 0]) := ⟨by kernel_rfl⟩
instance fld69x0 : Fld Tryz.prog 69 0 0 := ⟨_, _, 0, Tryz.underlying69, rfl, rfl, by kernel_rfl⟩
instance fld69x1 : Fld Tryz.prog 69 1 1 := ⟨_, _, 0, Tryz.underlying69, rfl, rfl, by kernel_rfl⟩
abbrev und70 := Und.mk (P := Tryz.prog) (t := 70) Tryz.underlying70
attribute [instance] und70
instance siz70 : Siz Tryz.prog 70 2 := ⟨by kernel_rfl⟩
instance byt70 : Byt Tryz.prog 70 32 := ⟨by kernel_rfl⟩
instance zer70 : Zer Tryz.prog 70 (.agg #[.pointer none, .slice none 0 0]) := ⟨by kernel_rfl⟩
instance fld70x0 : Fld Tryz.prog 70 0 0 := ⟨_, _, 0, Tryz.underlying70, rfl, rfl, by kernel_rfl⟩
instance fld70x1 : Fld Tryz.prog 70 1 1 := ⟨_, _, 0, Tryz.underlying70, rfl, rfl, by kernel_rfl⟩
abbrev und71 := Und.mk (P := Tryz.prog) (t := 71) Tryz.underlying71
attribute [instance] und71
instance siz71 : Siz Tryz.prog 71 1 := ⟨by kernel_rfl⟩
instance byt71 : Byt Tryz.prog 71 16 := ⟨by kernel_rfl⟩
instance zer71 : Zer Tryz.prog 71 (.nilIface) := ⟨by kernel_rfl⟩
abbrev und72 := Und.mk (P := Tryz.prog) (t := 72) Tryz.underlying72
attribute [instance] und72
instance siz72 : Siz Tryz.prog 72 1 := ⟨by kernel_rfl⟩
instance byt72 : Byt Tryz.prog 72 16 := ⟨by kernel_rfl⟩
instance zer72 : Zer Tryz.prog 72 (.nilIface) := ⟨by kernel_rfl⟩
abbrev und73 := Und.mk (P := Tryz.prog) (t := 73) Tryz.underlying73
attribute [instance] und73
instance siz73 : Siz Tryz.prog 73 1 := ⟨by kernel_rfl⟩
instance byt73 : Byt Tryz.prog 73 0 := ⟨by kernel_rfl⟩
abbrev und74 := Und.mk (P := Tryz.prog) (t := 74) Tryz.underlying74
attribute [instance] und74
instance siz74 : Siz Tryz.prog 74 1 := ⟨by kernel_rfl⟩
instance byt74 : Byt Tryz.prog 74 8 := ⟨by kernel_rfl⟩
instance zer74 : Zer Tryz.prog 74 (.nilFunc) := ⟨by kernel_rfl⟩
abbrev und75 := Und.mk (P := Tryz.prog) (t := 75) Tryz.underlying75
attribute [instance] und75
instance siz75 : Siz Tryz.prog 75 1 := ⟨by kernel_rfl⟩
instance byt75 : Byt Tryz.prog 75 8 := ⟨by kernel_rfl⟩
instance zer75 : Zer Tryz.prog 75 (.nilFunc) := ⟨by kernel_rfl⟩
abbrev und76 := Und.mk (P := Tryz.prog) (t := 76) Tryz.underlying76
attribute [instance] und76
instance siz76 : Siz Tryz.prog 76 1 := ⟨by kernel_rfl⟩
instance byt76 : Byt Tryz.prog 76 8 := ⟨by kernel_rfl⟩
instance zer76 : Zer Tryz.prog 76 (.nilFunc) := ⟨by kernel_rfl⟩
abbrev und77 := Und.mk (P := Tryz.prog) (t := 77) Tryz.underlying77
attribute [instance] und77
instance siz77 : Siz Tryz.prog 77 1 := ⟨by kernel_rfl⟩
instance byt77 : Byt Tryz.prog 77 8 := ⟨by kernel_rfl⟩
instance zer77 : Zer Tryz.prog 77 (.nilFunc) := ⟨by kernel_rfl⟩
abbrev und78 := Und.mk (P := Tryz.prog) (t := 78) Tryz.underlying78
attribute [instance] und78
instance siz78 : Siz Tryz.prog 78 1 := ⟨by kernel_rfl⟩
instance byt78 : Byt Tryz.prog 78 0 := ⟨by kernel_rfl⟩
abbrev und79 := Und.mk (P := Tryz.prog) (t := 79) Tryz.underlying79
attribute [instance] und79
instance siz79 : Siz Tryz.prog 79 1 := ⟨by kernel_rfl⟩
instance byt79 : Byt Tryz.prog 79 8 := ⟨by kernel_rfl⟩
instance zer79 : Zer Tryz.prog 79 (.nilFunc) := ⟨by kernel_rfl⟩
abbrev und80 := Und.mk (P := Tryz.prog) (t := 80) Tryz.underlying80
attribute [instance] und80
instance siz80 : Siz Tryz.prog 80 1 := ⟨by kernel_rfl⟩
instance byt80 : Byt Tryz.prog 80 8 := ⟨by kernel_rfl⟩
instance zer80 : Zer Tryz.prog 80 (.nilFunc) := ⟨by kernel_rfl⟩
abbrev und81 := Und.mk (P := Tryz.prog) (t := 81) Tryz.underlying81
attribute [instance] und81
instance siz81 : Siz Tryz.prog 81 1 := ⟨by kernel_rfl⟩
instance byt81 : Byt Tryz.prog 81 8 := ⟨by kernel_rfl⟩
instance zer81 : Zer Tryz.prog 81 (.nilFunc) := ⟨by kernel_rfl⟩
abbrev und82 := Und.mk (P := Tryz.prog) (t := 82) Tryz.underlying82
attribute [instance] und82
instance siz82 : Siz Tryz.prog 82 2 := ⟨by kernel_rfl⟩
instance byt82 : Byt Tryz.prog 82 32 := ⟨by kernel_rfl⟩
instance zer82 : Zer Tryz.prog 82 (.agg #[.slice none 0 0, .int .i64 0]) := ⟨by kernel_rfl⟩
instance fld82x0 : Fld Tryz.prog 82 0 0 := ⟨_, _, 0, Tryz.underlying82, rfl, rfl, by kernel_rfl⟩
instance fld82x1 : Fld Tryz.prog 82 1 1 := ⟨_, _, 0, Tryz.underlying82, rfl, rfl, by kernel_rfl⟩
abbrev und83 := Und.mk (P := Tryz.prog) (t := 83) Tryz.underlying83
attribute [instance] und83
instance siz83 : Siz Tryz.prog 83 2 := ⟨by kernel_rfl⟩
instance byt83 : Byt Tryz.prog 83 32 := ⟨by kernel_rfl⟩
instance zer83 : Zer Tryz.prog 83 (.agg #[.slice none 0 0, .int .i64 0]) := ⟨by kernel_rfl⟩
instance fld83x0 : Fld Tryz.prog 83 0 0 := ⟨_, _, 0, Tryz.underlying83, rfl, rfl, by kernel_rfl⟩
instance fld83x1 : Fld Tryz.prog 83 1 1 := ⟨_, _, 0, Tryz.underlying83, rfl, rfl, by kernel_rfl⟩
abbrev und84 := Und.mk (P := Tryz.prog) (t := 84) Tryz.underlying84
attribute [instance] und84
instance siz84 : Siz Tryz.prog 84 2 := ⟨by kernel_rfl⟩
instance byt84 : Byt Tryz.prog 84 32 := ⟨by kernel_rfl⟩
instance zer84 : Zer Tryz.prog 84 (.agg #[.slice none 0 0, .int .i64 0]) := ⟨by kernel_rfl⟩
instance fld84x0 : Fld Tryz.prog 84 0 0 := ⟨_, _, 1, Tryz.underlying84, rfl, rfl, by kernel_rfl⟩
abbrev und85 := Und.mk (P := Tryz.prog) (t := 85) Tryz.underlying85
attribute [instance] und85
instance siz85 : Siz Tryz.prog 85 2 := ⟨by kernel_rfl⟩
instance byt85 : Byt Tryz.prog 85 32 := ⟨by kernel_rfl⟩
instance zer85 : Zer Tryz.prog 85 (.agg #[.slice none 0 0, .int .i64 0]) := ⟨by kernel_rfl⟩
instance fld85x0 : Fld Tryz.prog 85 0 0 := ⟨_, _, 1, Tryz.underlying85, rfl, rfl, by kernel_rfl⟩
abbrev und86 := Und.mk (P := Tryz.prog) (t := 86) Tryz.underlying86
attribute [instance] und86
instance siz86 : Siz Tryz.prog 86 1 := ⟨by kernel_rfl⟩
instance byt86 : Byt Tryz.prog 86 24 := ⟨by kernel_rfl⟩
instance zer86 : Zer Tryz.prog 86 (.agg #[.slice none 0 0]) := ⟨by kernel_rfl⟩
instance fld86x0 : Fld Tryz.prog 86 0 0 := ⟨_, _, 0, Tryz.underlying86, rfl, rfl, by kernel_rfl⟩
abbrev und87 := Und.mk (P := Tryz.prog) (t := 87) Tryz.underlying87
attribute [instance] und87
instance siz87 : Siz Tryz.prog 87 1 := ⟨by kernel_rfl⟩
instance byt87 : Byt Tryz.prog 87 24 := ⟨by kernel_rfl⟩
instance zer87 : Zer Tryz.prog 87 (.agg #[.slice none 0 0]) := ⟨by kernel_rfl⟩
instance fld87x0 : Fld Tryz.prog 87 0 0 := ⟨_, _, 0, Tryz.underlying87, rfl, rfl, by kernel_rfl⟩
abbrev und88 := Und.mk (P := Tryz.prog) (t := 88) Tryz.underlying88
attribute [instance] und88
instance siz88 : Siz Tryz.prog 88 1 := ⟨by kernel_rfl⟩
instance byt88 : Byt Tryz.prog 88 24 := ⟨by kernel_rfl⟩
instance zer88 : Zer Tryz.prog 88 (.agg #[.slice none 0 0]) := ⟨by kernel_rfl⟩
instance fld88x0 : Fld Tryz.prog 88 0 0 := ⟨_, _, 0, Tryz.underlying88, rfl, rfl, by kernel_rfl⟩
abbrev und89 := Und.mk (P := Tryz.prog) (t := 89) Tryz.underlying89
attribute [instance] und89
instance siz89 : Siz Tryz.prog 89 1 := ⟨by kernel_rfl⟩
instance byt89 : Byt Tryz.prog 89 24 := ⟨by kernel_rfl⟩
instance zer89 : Zer Tryz.prog 89 (.agg #[.slice none 0 0]) := ⟨by kernel_rfl⟩
instance fld89x0 : Fld Tryz.prog 89 0 0 := ⟨_, _, 0, Tryz.underlying89, rfl, rfl, by kernel_rfl⟩
abbrev und90 := Und.mk (P := Tryz.prog) (t := 90) Tryz.underlying90
attribute [instance] und90
instance siz90 : Siz Tryz.prog 90 1 := ⟨by kernel_rfl⟩
instance byt90 : Byt Tryz.prog 90 8 := ⟨by kernel_rfl⟩
instance zer90 : Zer Tryz.prog 90 (.nilFunc) := ⟨by kernel_rfl⟩
abbrev und91 := Und.mk (P := Tryz.prog) (t := 91) Tryz.underlying91
attribute [instance] und91
instance siz91 : Siz Tryz.prog 91 1 := ⟨by kernel_rfl⟩
instance byt91 : Byt Tryz.prog 91 8 := ⟨by kernel_rfl⟩
instance zer91 : Zer Tryz.prog 91 (.nilFunc) := ⟨by kernel_rfl⟩
abbrev und92 := Und.mk (P := Tryz.prog) (t := 92) Tryz.underlying92
attribute [instance] und92
instance siz92 : Siz Tryz.prog 92 1 := ⟨by kernel_rfl⟩
instance byt92 : Byt Tryz.prog 92 8 := ⟨by kernel_rfl⟩
instance zer92 : Zer Tryz.prog 92 (.nilFunc) := ⟨by kernel_rfl⟩
abbrev und93 := Und.mk (P := Tryz.prog) (t := 93) Tryz.underlying93
attribute [instance] und93
instance siz93 : Siz Tryz.prog 93 1 := ⟨by kernel_rfl⟩
instance byt93 : Byt Tryz.prog 93 8 := ⟨by kernel_rfl⟩
instance zer93 : Zer Tryz.prog 93 (.nilFunc) := ⟨by kernel_rfl⟩
abbrev und94 := Und.mk (P := Tryz.prog) (t := 94) Tryz.underlying94
attribute [instance] und94
instance siz94 : Siz Tryz.prog 94 1 := ⟨by kernel_rfl⟩
instance byt94 : Byt Tryz.prog 94 8 := ⟨by kernel_rfl⟩
instance zer94 : Zer Tryz.prog 94 (.nilFunc) := ⟨by kernel_rfl⟩
abbrev und95 := Und.mk (P := Tryz.prog) (t := 95) Tryz.underlying95
attribute [instance] und95
instance siz95 : Siz Tryz.prog 95 1 := ⟨by kernel_rfl⟩
instance byt95 : Byt Tryz.prog 95 8 := ⟨by kernel_rfl⟩
instance zer95 : Zer Tryz.prog 95 (.nilFunc) := ⟨by kernel_rfl⟩
abbrev und96 := Und.mk (P := Tryz.prog) (t := 96) Tryz.underlying96
attribute [instance] und96
instance siz96 : Siz Tryz.prog 96 1 := ⟨by kernel_rfl⟩
instance byt96 : Byt Tryz.prog 96 8 := ⟨by kernel_rfl⟩
instance zer96 : Zer Tryz.prog 96 (.nilFunc) := ⟨by kernel_rfl⟩
abbrev und97 := Und.mk (P := Tryz.prog) (t := 97) Tryz.underlying97
attribute [instance] und97
instance siz97 : Siz Tryz.prog 97 1 := ⟨by kernel_rfl⟩
instance byt97 : Byt Tryz.prog 97 8 := ⟨by kernel_rfl⟩
instance zer97 : Zer Tryz.prog 97 (.int .u64 0) := ⟨by kernel_rfl⟩
abbrev und98 := Und.mk (P := Tryz.prog) (t := 98) Tryz.underlying98
attribute [instance] und98
instance siz98 : Siz Tryz.prog 98 1 := ⟨by kernel_rfl⟩
instance byt98 : Byt Tryz.prog 98 8 := ⟨by kernel_rfl⟩
instance zer98 : Zer Tryz.prog 98 (.nilFunc) := ⟨by kernel_rfl⟩
abbrev und99 := Und.mk (P := Tryz.prog) (t := 99) Tryz.underlying99
attribute [instance] und99
instance siz99 : Siz Tryz.prog 99 1 := ⟨by kernel_rfl⟩
instance byt99 : Byt Tryz.prog 99 8 := ⟨by kernel_rfl⟩
instance zer99 : Zer Tryz.prog 99 (.int .u64 0) := ⟨by kernel_rfl⟩
abbrev und100 := Und.mk (P := Tryz.prog) (t := 100) Tryz.underlying100
attribute [instance] und100
instance siz100 : Siz Tryz.prog 100 1 := ⟨by kernel_rfl⟩
instance byt100 : Byt Tryz.prog 100 8 := ⟨by kernel_rfl⟩
instance zer100 : Zer Tryz.prog 100 (.nilFunc) := ⟨by kernel_rfl⟩
abbrev und101 := Und.mk (P := Tryz.prog) (t := 101) Tryz.underlying101
attribute [instance] und101
instance siz101 : Siz Tryz.prog 101 1 := ⟨by kernel_rfl⟩
instance byt101 : Byt Tryz.prog 101 8 := ⟨by kernel_rfl⟩
instance zer101 : Zer Tryz.prog 101 (.nilFunc) := ⟨by kernel_rfl⟩
abbrev und102 := Und.mk (P := Tryz.prog) (t := 102) Tryz.underlying102
attribute [instance] und102
instance siz102 : Siz Tryz.prog 102 1 := ⟨by kernel_rfl⟩
instance byt102 : Byt Tryz.prog 102 8 := ⟨by kernel_rfl⟩
instance zer102 : Zer Tryz.prog 102 (.nilFunc) := ⟨by kernel_rfl⟩
abbrev und103 := Und.mk (P := Tryz.prog) (t := 103) Tryz.underlying103
attribute [instance] und103
instance siz103 : Siz Tryz.prog 103 1 := ⟨by kernel_rfl⟩
instance byt103 : Byt Tryz.prog 103 8 := ⟨by kernel_rfl⟩
instance zer103 : Zer Tryz.prog 103 (.nilFunc) := ⟨by kernel_rfl⟩
abbrev und104 := Und.mk (P := Tryz.prog) (t := 104) Tryz.underlying104
attribute [instance] und104
instance siz104 : Siz Tryz.prog 104 2 := ⟨by kernel_rfl⟩
instance byt104 : Byt Tryz.prog 104 16 := ⟨by kernel_rfl⟩
instance zer104 : Zer Tryz.prog 104 (.agg #[.int .i64 0, .int .i64 0]) := ⟨by kernel_rfl⟩
instance fld104x0 : Fld Tryz.prog 104 0 0 := ⟨_, _, 0, Tryz.underlying104, rfl, rfl, by kernel_rfl⟩
instance fld104x1 : Fld Tryz.prog 104 1 1 := ⟨_, _, 0, Tryz.underlying104, rfl, rfl, by kernel_rfl⟩
abbrev und105 := Und.mk (P := Tryz.prog) (t := 105) Tryz.underlying105
attribute [instance] und105
instance siz105 : Siz Tryz.prog 105 2 := ⟨by kernel_rfl⟩
instance byt105 : Byt Tryz.prog 105 16 := ⟨by kernel_rfl⟩
instance zer105 : Zer Tryz.prog 105 (.agg #[.int .i64 0, .int .i64 0]) := ⟨by kernel_rfl⟩
instance fld105x0 : Fld Tryz.prog 105 0 0 := ⟨_, _, 0, Tryz.underlying105, rfl, rfl, by kernel_rfl⟩
instance fld105x1 : Fld Tryz.prog 105 1 1 := ⟨_, _, 0, Tryz.underlying105, rfl, rfl, by kernel_rfl⟩
abbrev und106 := Und.mk (P := Tryz.prog) (t := 106) Tryz.underlying106
attribute [instance] und106
instance siz106 : Siz Tryz.prog 106 1 := ⟨by kernel_rfl⟩
instance byt106 : Byt Tryz.prog 106 8 := ⟨by kernel_rfl⟩
instance zer106 : Zer Tryz.prog 106 (.nilFunc) := ⟨by kernel_rfl⟩
abbrev und107 := Und.mk (P := Tryz.prog) (t := 107) Tryz.underlying107
attribute [instance] und107
instance siz107 : Siz Tryz.prog 107 1 := ⟨by kernel_rfl⟩
instance byt107 : Byt Tryz.prog 107 8 := ⟨by kernel_rfl⟩
instance zer107 : Zer Tryz.prog 107 (.pointer none) := ⟨by kernel_rfl⟩
abbrev und108 := Und.mk (P := Tryz.prog) (t := 108) Tryz.underlying108
attribute [instance] und108
instance siz108 : Siz Tryz.prog 108 2 := ⟨by kernel_rfl⟩
instance byt108 : Byt Tryz.prog 108 32 := ⟨by kernel_rfl⟩
instance zer108 : Zer Tryz.prog 108 (.agg #[.slice none 0 0, .int .i64 0]) := ⟨by kernel_rfl⟩
instance fld108x0 : Fld Tryz.prog 108 0 0 := ⟨_, _, 0, Tryz.underlying108, rfl, rfl, by kernel_rfl⟩
instance fld108x1 : Fld Tryz.prog 108 1 1 := ⟨_, _, 0, Tryz.underlying108, rfl, rfl, by kernel_rfl⟩
abbrev und109 := Und.mk (P := Tryz.prog) (t := 109) Tryz.underlying109
attribute [instance] und109
instance siz109 : Siz Tryz.prog 109 2 := ⟨by kernel_rfl⟩
instance byt109 : Byt Tryz.prog 109 32 := ⟨by kernel_rfl⟩
instance zer109 : Zer Tryz.prog 109 (.agg #[.slice none 0 0, .int .i64 0]) := ⟨by kernel_rfl⟩
instance fld109x0 : Fld Tryz.prog 109 0 0 := ⟨_, _, 0, Tryz.underlying109, rfl, rfl, by kernel_rfl⟩
instance fld109x1 : Fld Tryz.prog 109 1 1 := ⟨_, _, 0, Tryz.underlying109, rfl, rfl, by kernel_rfl⟩
abbrev und110 := Und.mk (P := Tryz.prog) (t := 110) Tryz.underlying110
attribute [instance] und110
instance siz110 : Siz Tryz.prog 110 1 := ⟨by kernel_rfl⟩
instance byt110 : Byt Tryz.prog 110 8 := ⟨by kernel_rfl⟩
instance zer110 : Zer Tryz.prog 110 (.nilFunc) := ⟨by kernel_rfl⟩
abbrev und111 := Und.mk (P := Tryz.prog) (t := 111) Tryz.underlying111
attribute [instance] und111
instance siz111 : Siz Tryz.prog 111 1 := ⟨by kernel_rfl⟩
instance byt111 : Byt Tryz.prog 111 8 := ⟨by kernel_rfl⟩
instance zer111 : Zer Tryz.prog 111 (.nilFunc) := ⟨by kernel_rfl⟩
abbrev und112 := Und.mk (P := Tryz.prog) (t := 112) Tryz.underlying112
attribute [instance] und112
instance siz112 : Siz Tryz.prog 112 1 := ⟨by kernel_rfl⟩
instance byt112 : Byt Tryz.prog 112 8 := ⟨by kernel_rfl⟩
instance zer112 : Zer Tryz.prog 112 (.nilFunc) := ⟨by kernel_rfl⟩
abbrev und113 := Und.mk (P := Tryz.prog) (t := 113) Tryz.underlying113
attribute [instance] und113
instance siz113 : Siz Tryz.prog 113 1 := ⟨by kernel_rfl⟩
instance byt113 : Byt Tryz.prog 113 8 := ⟨by kernel_rfl⟩
instance zer113 : Zer Tryz.prog 113 (.nilFunc) := ⟨by kernel_rfl⟩
abbrev und114 := Und.mk (P := Tryz.prog) (t := 114) Tryz.underlying114
attribute [instance] und114
instance siz114 : Siz Tryz.prog 114 1 := ⟨by kernel_rfl⟩
instance byt114 : Byt Tryz.prog 114 8 := ⟨by kernel_rfl⟩
instance zer114 : Zer Tryz.prog 114 (.nilFunc) := ⟨by kernel_rfl⟩
abbrev und115 := Und.mk (P := Tryz.prog) (t := 115) Tryz.underlying115
attribute [instance] und115
instance siz115 : Siz Tryz.prog 115 1 := ⟨by kernel_rfl⟩
instance byt115 : Byt Tryz.prog 115 8 := ⟨by kernel_rfl⟩
instance zer115 : Zer Tryz.prog 115 (.nilFunc) := ⟨by kernel_rfl⟩
abbrev und116 := Und.mk (P := Tryz.prog) (t := 116) Tryz.underlying116
attribute [instance] und116
instance siz116 : Siz Tryz.prog 116 1 := ⟨by kernel_rfl⟩
instance byt116 : Byt Tryz.prog 116 0 := ⟨by kernel_rfl⟩
abbrev und117 := Und.mk (P := Tryz.prog) (t := 117) Tryz.underlying117
attribute [instance] und117
instance siz117 : Siz Tryz.prog 117 1 := ⟨by kernel_rfl⟩
instance byt117 : Byt Tryz.prog 117 8 := ⟨by kernel_rfl⟩
instance zer117 : Zer Tryz.prog 117 (.nilFunc) := ⟨by kernel_rfl⟩
abbrev und118 := Und.mk (P := Tryz.prog) (t := 118) Tryz.underlying118
attribute [instance] und118
instance siz118 : Siz Tryz.prog 118 1 := ⟨by kernel_rfl⟩
instance byt118 : Byt Tryz.prog 118 8 := ⟨by kernel_rfl⟩
instance zer118 : Zer Tryz.prog 118 (.nilFunc) := ⟨by kernel_rfl⟩
abbrev und119 := Und.mk (P := Tryz.prog) (t := 119) Tryz.underlying119
attribute [instance] und119
instance siz119 : Siz Tryz.prog 119 1 := ⟨by kernel_rfl⟩
instance byt119 : Byt Tryz.prog 119 8 := ⟨by kernel_rfl⟩
instance zer119 : Zer Tryz.prog 119 (.nilFunc) := ⟨by kernel_rfl⟩
abbrev und120 := Und.mk (P := Tryz.prog) (t := 120) Tryz.underlying120
attribute [instance] und120
instance siz120 : Siz Tryz.prog 120 1 := ⟨by kernel_rfl⟩
instance byt120 : Byt Tryz.prog 120 0 := ⟨by kernel_rfl⟩
abbrev und121 := Und.mk (P := Tryz.prog) (t := 121) Tryz.underlying121
attribute [instance] und121
instance siz121 : Siz Tryz.prog 121 1 := ⟨by kernel_rfl⟩
instance byt121 : Byt Tryz.prog 121 8 := ⟨by kernel_rfl⟩
instance zer121 : Zer Tryz.prog 121 (.nilFunc) := ⟨by kernel_rfl⟩
abbrev und122 := Und.mk (P := Tryz.prog) (t := 122) Tryz.underlying122
attribute [instance] und122
instance siz122 : Siz Tryz.prog 122 2 := ⟨by kernel_rfl⟩
instance byt122 : Byt Tryz.prog 122 16 := ⟨by kernel_rfl⟩
instance zer122 : Zer Tryz.prog 122 (.agg #[.int .i64 0, .int .i64 0]) := ⟨by kernel_rfl⟩
instance fld122x0 : Fld Tryz.prog 122 0 0 := ⟨_, _, 0, Tryz.underlying122, rfl, rfl, by kernel_rfl⟩
instance fld122x1 : Fld Tryz.prog 122 1 1 := ⟨_, _, 0, Tryz.underlying122, rfl, rfl, by kernel_rfl⟩
abbrev und123 := Und.mk (P := Tryz.prog) (t := 123) Tryz.underlying123
attribute [instance] und123
instance siz123 : Siz Tryz.prog 123 2 := ⟨by kernel_rfl⟩
instance byt123 : Byt Tryz.prog 123 16 := ⟨by kernel_rfl⟩
instance zer123 : Zer Tryz.prog 123 (.agg #[.int .i64 0, .int .i64 0]) := ⟨by kernel_rfl⟩
instance fld123x0 : Fld Tryz.prog 123 0 0 := ⟨_, _, 0, Tryz.underlying123, rfl, rfl, by kernel_rfl⟩
instance fld123x1 : Fld Tryz.prog 123 1 1 := ⟨_, _, 0, Tryz.underlying123, rfl, rfl, by kernel_rfl⟩
abbrev und124 := Und.mk (P := Tryz.prog) (t := 124) Tryz.underlying124
attribute [instance] und124
instance siz124 : Siz Tryz.prog 124 1 := ⟨by kernel_rfl⟩
instance byt124 : Byt Tryz.prog 124 0 := ⟨by kernel_rfl⟩
abbrev und125 := Und.mk (P := Tryz.prog) (t := 125) Tryz.underlying125
attribute [instance] und125
instance siz125 : Siz Tryz.prog 125 1 := ⟨by kernel_rfl⟩
instance byt125 : Byt Tryz.prog 125 8 := ⟨by kernel_rfl⟩
instance zer125 : Zer Tryz.prog 125 (.nilFunc) := ⟨by kernel_rfl⟩
abbrev und126 := Und.mk (P := Tryz.prog) (t := 126) Tryz.underlying126
attribute [instance] und126
instance siz126 : Siz Tryz.prog 126 1 := ⟨by kernel_rfl⟩
instance byt126 : Byt Tryz.prog 126 8 := ⟨by kernel_rfl⟩
instance zer126 : Zer Tryz.prog 126 (.nilFunc) := ⟨by kernel_rfl⟩
abbrev und127 := Und.mk (P := Tryz.prog) (t := 127) Tryz.underlying127
attribute [instance] und127
instance siz127 : Siz Tryz.prog 127 1 := ⟨by kernel_rfl⟩
instance byt127 : Byt Tryz.prog 127 8 := ⟨by kernel_rfl⟩
instance zer127 : Zer Tryz.prog 127 (.nilFunc) := ⟨by kernel_rfl⟩
abbrev und128 := Und.mk (P := Tryz.prog) (t := 128) Tryz.underlying128
attribute [instance] und128
instance siz128 : Siz Tryz.prog 128 1 := ⟨by kernel_rfl⟩
instance byt128 : Byt Tryz.prog 128 8 := ⟨by kernel_rfl⟩
instance zer128 : Zer Tryz.prog 128 (.nilFunc) := ⟨by kernel_rfl⟩
abbrev und129 := Und.mk (P := Tryz.prog) (t := 129) Tryz.underlying129
attribute [instance] und129
instance siz129 : Siz Tryz.prog 129 1 := ⟨by kernel_rfl⟩
instance byt129 : Byt Tryz.prog 129 8 := ⟨by kernel_rfl⟩
instance zer129 : Zer Tryz.prog 129 (.nilFunc) := ⟨by kernel_rfl⟩
abbrev und130 := Und.mk (P := Tryz.prog) (t := 130) Tryz.underlying130
attribute [instance] und130
instance siz130 : Siz Tryz.prog 130 1 := ⟨by kernel_rfl⟩
instance byt130 : Byt Tryz.prog 130 8 := ⟨by kernel_rfl⟩
instance zer130 : Zer Tryz.prog 130 (.pointer none) := ⟨by kernel_rfl⟩
abbrev und131 := Und.mk (P := Tryz.prog) (t := 131) Tryz.underlying131
attribute [instance] und131
instance siz131 : Siz Tryz.prog 131 1 := ⟨by kernel_rfl⟩
instance byt131 : Byt Tryz.prog 131 8 := ⟨by kernel_rfl⟩
instance zer131 : Zer Tryz.prog 131 (.nilFunc) := ⟨by kernel_rfl⟩
abbrev und132 := Und.mk (P := Tryz.prog) (t := 132) Tryz.underlying132
attribute [instance] und132
instance siz132 : Siz Tryz.prog 132 2 := ⟨by kernel_rfl⟩
instance byt132 : Byt Tryz.prog 132 32 := ⟨by kernel_rfl⟩
instance zer132 : Zer Tryz.prog 132 (.agg #[.slice none 0 0, .int .i64 0]) := ⟨by kernel_rfl⟩
instance fld132x0 : Fld Tryz.prog 132 0 0 := ⟨_, _, 0, Tryz.underlying132, rfl, rfl, by kernel_rfl⟩
instance fld132x1 : Fld Tryz.prog 132 1 1 := ⟨_, _, 0, Tryz.underlying132, rfl, rfl, by kernel_rfl⟩
abbrev und133 := Und.mk (P := Tryz.prog) (t := 133) Tryz.underlying133
attribute [instance] und133
instance siz133 : Siz Tryz.prog 133 3 := ⟨by kernel_rfl⟩
instance byt133 : Byt Tryz.prog 133 24 := ⟨by kernel_rfl⟩
instance zer133 : Zer Tryz.prog 133 (.agg #[.int .i64 0, .int .i64 0, .int .i64 0]) := ⟨by kernel_rfl⟩
instance fld133x0 : Fld Tryz.prog 133 0 0 := ⟨_, _, 0, Tryz.underlying133, rfl, rfl, by kernel_rfl⟩
instance fld133x1 : Fld Tryz.prog 133 1 1 := ⟨_, _, 0, Tryz.underlying133, rfl, rfl, by kernel_rfl⟩
instance fld133x2 : Fld Tryz.prog 133 2 2 := ⟨_, _, 0, Tryz.underlying133, rfl, rfl, by kernel_rfl⟩
abbrev und134 := Und.mk (P := Tryz.prog) (t := 134) Tryz.underlying134
attribute [instance] und134
instance siz134 : Siz Tryz.prog 134 3 := ⟨by kernel_rfl⟩
instance byt134 : Byt Tryz.prog 134 24 := ⟨by kernel_rfl⟩
instance zer134 : Zer Tryz.prog 134 (.agg #[.int .i64 0, .int .i64 0, .int .i64 0]) := ⟨by kernel_rfl⟩
instance fld134x0 : Fld Tryz.prog 134 0 0 := ⟨_, _, 0, Tryz.underlying134, rfl, rfl, by kernel_rfl⟩
instance fld134x1 : Fld Tryz.prog 134 1 1 := ⟨_, _, 0, Tryz.underlying134, rfl, rfl, by kernel_rfl⟩
instance fld134x2 : Fld Tryz.prog 134 2 2 := ⟨_, _, 0, Tryz.underlying134, rfl, rfl, by kernel_rfl⟩
abbrev und135 := Und.mk (P := Tryz.prog) (t := 135) Tryz.underlying135
attribute [instance] und135
instance siz135 : Siz Tryz.prog 135 1 := ⟨by kernel_rfl⟩
instance byt135 : Byt Tryz.prog 135 0 := ⟨by kernel_rfl⟩
abbrev und136 := Und.mk (P := Tryz.prog) (t := 136) Tryz.underlying136
attribute [instance] und136
instance siz136 : Siz Tryz.prog 136 1 := ⟨by kernel_rfl⟩
instance byt136 : Byt Tryz.prog 136 8 := ⟨by kernel_rfl⟩
instance zer136 : Zer Tryz.prog 136 (.nilFunc) := ⟨by kernel_rfl⟩
abbrev und137 := Und.mk (P := Tryz.prog) (t := 137) Tryz.underlying137
attribute [instance] und137
instance siz137 : Siz Tryz.prog 137 1 := ⟨by kernel_rfl⟩
instance byt137 : Byt Tryz.prog 137 8 := ⟨by kernel_rfl⟩
instance zer137 : Zer Tryz.prog 137 (.nilFunc) := ⟨by kernel_rfl⟩
abbrev und138 := Und.mk (P := Tryz.prog) (t := 138) Tryz.underlying138
attribute [instance] und138
instance siz138 : Siz Tryz.prog 138 1 := ⟨by kernel_rfl⟩
instance byt138 : Byt Tryz.prog 138 8 := ⟨by kernel_rfl⟩
instance zer138 : Zer Tryz.prog 138 (.nilFunc) := ⟨by kernel_rfl⟩
abbrev und139 := Und.mk (P := Tryz.prog) (t := 139) Tryz.underlying139
attribute [instance] und139
instance siz139 : Siz Tryz.prog 139 1 := ⟨by kernel_rfl⟩
instance byt139 : Byt Tryz.prog 139 8 := ⟨by kernel_rfl⟩
instance zer139 : Zer Tryz.prog 139 (.nilFunc) := ⟨by kernel_rfl⟩
abbrev und140 := Und.mk (P := Tryz.prog) (t := 140) Tryz.underlying140
attribute [instance] und140
instance siz140 : Siz Tryz.prog 140 1 := ⟨by kernel_rfl⟩
instance byt140 : Byt Tryz.prog 140 8 := ⟨by kernel_rfl⟩
instance zer140 : Zer Tryz.prog 140 (.nilFunc) := ⟨by kernel_rfl⟩
abbrev und141 := Und.mk (P := Tryz.prog) (t := 141) Tryz.underlying141
attribute [instance] und141
instance siz141 : Siz Tryz.prog 141 1 := ⟨by kernel_rfl⟩
instance byt141 : Byt Tryz.prog 141 8 := ⟨by kernel_rfl⟩
instance zer141 : Zer Tryz.prog 141 (.nilFunc) := ⟨by kernel_rfl⟩
abbrev und142 := Und.mk (P := Tryz.prog) (t := 142) Tryz.underlying142
attribute [instance] und142
instance siz142 : Siz Tryz.prog 142 1 := ⟨by kernel_rfl⟩
instance byt142 : Byt Tryz.prog 142 8 := ⟨by kernel_rfl⟩
instance zer142 : Zer Tryz.prog 142 (.pointer none) := ⟨by kernel_rfl⟩
abbrev und143 := Und.mk (P := Tryz.prog) (t := 143) Tryz.underlying143
attribute [instance] und143
instance siz143 : Siz Tryz.prog 143 1 := ⟨by kernel_rfl⟩
instance byt143 : Byt Tryz.prog 143 24 := ⟨by kernel_rfl⟩
instance zer143 : Zer Tryz.prog 143 (.agg #[.slice none 0 0]) := ⟨by kernel_rfl⟩
instance fld143x0 : Fld Tryz.prog 143 0 0 := ⟨_, _, 0, Tryz.underlying143, rfl, rfl, by kernel_rfl⟩
abbrev und144 := Und.mk (P := Tryz.prog) (t := 144) Tryz.underlying144
attribute [instance] und144
instance siz144 : Siz Tryz.prog 144 1 := ⟨by kernel_rfl⟩
instance byt144 : Byt Tryz.prog 144 24 := ⟨by kernel_rfl⟩
instance zer144 : Zer Tryz.prog 144 (.agg #[.slice none 0 0]) := ⟨by kernel_rfl⟩
instance fld144x0 : Fld Tryz.prog 144 0 0 := ⟨_, _, 0, Tryz.underlying144, rfl, rfl, by kernel_rfl⟩
abbrev und145 := Und.mk (P := Tryz.prog) (t := 145) Tryz.underlying145
attribute [instance] und145
instance siz145 : Siz Tryz.prog 145 1 := ⟨by kernel_rfl⟩
instance byt145 : Byt Tryz.prog 145 8 := ⟨by kernel_rfl⟩
instance zer145 : Zer Tryz.prog 145 (.nilFunc) := ⟨by kernel_rfl⟩
abbrev und146 := Und.mk (P := Tryz.prog) (t := 146) Tryz.underlying146
attribute [instance] und146
instance siz146 : Siz Tryz.prog 146 1 := ⟨by kernel_rfl⟩
instance byt146 : Byt Tryz.prog 146 8 := ⟨by kernel_rfl⟩
instance zer146 : Zer Tryz.prog 146 (.pointer none) := ⟨by kernel_rfl⟩
abbrev und147 := Und.mk (P := Tryz.prog) (t := 147) Tryz.underlying147
attribute [instance] und147
instance siz147 : Siz Tryz.prog 147 1 := ⟨by kernel_rfl⟩
instance byt147 : Byt Tryz.prog 147 8 := ⟨by kernel_rfl⟩
instance zer147 : Zer Tryz.prog 147 (.nilFunc) := ⟨by kernel_rfl⟩
abbrev und148 := Und.mk (P := Tryz.prog) (t := 148) Tryz.underlying148
attribute [instance] und148
instance siz148 : Siz Tryz.prog 148 1 := ⟨by kernel_rfl⟩
instance byt148 : Byt Tryz.prog 148 8 := ⟨by kernel_rfl⟩
instance zer148 : Zer Tryz.prog 148 (.pointer none) := ⟨by kernel_rfl⟩
abbrev und149 := Und.mk (P := Tryz.prog) (t := 149) Tryz.underlying149
attribute [instance] und149
instance siz149 : Siz Tryz.prog 149 1 := ⟨by kernel_rfl⟩
instance byt149 : Byt Tryz.prog 149 8 := ⟨by kernel_rfl⟩
instance zer149 : Zer Tryz.prog 149 (.pointer none) := ⟨by kernel_rfl⟩
abbrev und150 := Und.mk (P := Tryz.prog) (t := 150) Tryz.underlying150
attribute [instance] und150
instance siz150 : Siz Tryz.prog 150 1 := ⟨by kernel_rfl⟩
instance byt150 : Byt Tryz.prog 150 8 := ⟨by kernel_rfl⟩
instance zer150 : Zer Tryz.prog 150 (.pointer none) := ⟨by kernel_rfl⟩
abbrev und151 := Und.mk (P := Tryz.prog) (t := 151) Tryz.underlying151
attribute [instance] und151
instance siz151 : Siz Tryz.prog 151 1 := ⟨by kernel_rfl⟩
instance byt151 : Byt Tryz.prog 151 24 := ⟨by kernel_rfl⟩
instance zer151 : Zer Tryz.prog 151 (.slice none 0 0) := ⟨by kernel_rfl⟩
abbrev und152 := Und.mk (P := Tryz.prog) (t := 152) Tryz.underlying152
attribute [instance] und152
instance siz152 : Siz Tryz.prog 152 1 := ⟨by kernel_rfl⟩
instance byt152 : Byt Tryz.prog 152 24 := ⟨by kernel_rfl⟩
instance zer152 : Zer Tryz.prog 152 (.slice none 0 0) := ⟨by kernel_rfl⟩
abbrev und153 := Und.mk (P := Tryz.prog) (t := 153) Tryz.underlying153
attribute [instance] und153
instance siz153 : Siz Tryz.prog 153 3 := ⟨by kernel_rfl⟩
instance byt153 : Byt Tryz.prog 153 72 := ⟨by kernel_rfl⟩
instance zer153 : Zer Tryz.prog 153 (.agg #[.slice none 0 0, .slice none 0 0, .slice none 0 0]) := ⟨by kernel_rfl⟩
instance fld153x0 : Fld Tryz.prog 153 0 0 := ⟨_, _, 0, Tryz.underlying153, rfl, rfl, by kernel_rfl⟩
instance fld153x1 : Fld Tryz.prog 153 1 1 := ⟨_, _, 0, Tryz.underlying153, rfl, rfl, by kernel_rfl⟩
instance fld153x2 : Fld Tryz.prog 153 2 2 := ⟨_, _, 0, Tryz.underlying153, rfl, rfl, by kernel_rfl⟩
abbrev und154 := Und.mk (P := Tryz.prog) (t := 154) Tryz.underlying154
attribute [instance] und154
instance siz154 : Siz Tryz.prog 154 3 := ⟨by kernel_rfl⟩
instance byt154 : Byt Tryz.prog 154 72 := ⟨by kernel_rfl⟩
instance zer154 : Zer Tryz.prog 154 (.agg #[.slice none 0 0, .slice none 0 0, .slice none 0 0]) := ⟨by kernel_rfl⟩
instance fld154x0 : Fld Tryz.prog 154 0 0 := ⟨_, _, 0, Tryz.underlying154, rfl, rfl, by kernel_rfl⟩
instance fld154x1 : Fld Tryz.prog 154 1 1 := ⟨_, _, 0, Tryz.underlying154, rfl, rfl, by kernel_rfl⟩
instance fld154x2 : Fld Tryz.prog 154 2 2 := ⟨_, _, 0, Tryz.underlying154, rfl, rfl, by kernel_rfl⟩
abbrev und155 := Und.mk (P := Tryz.prog) (t := 155) Tryz.underlying155
attribute [instance] und155
instance siz155 : Siz Tryz.prog 155 1 := ⟨by kernel_rfl⟩
instance byt155 : Byt Tryz.prog 155 8 := ⟨by kernel_rfl⟩
instance zer155 : Zer Tryz.prog 155 (.nilFunc) := ⟨by kernel_rfl⟩
abbrev und156 := Und.mk (P := Tryz.prog) (t := 156) Tryz.underlying156
attribute [instance] und156
instance siz156 : Siz Tryz.prog 156 1 := ⟨by kernel_rfl⟩
instance byt156 : Byt Tryz.prog 156 8 := ⟨by kernel_rfl⟩
instance zer156 : Zer Tryz.prog 156 (.nilFunc) := ⟨by kernel_rfl⟩
abbrev und157 := Und.mk (P := Tryz.prog) (t := 157) Tryz.underlying157
attribute [instance] und157
instance siz157 : Siz Tryz.prog 157 1 := ⟨by kernel_rfl⟩
instance byt157 : Byt Tryz.prog 157 8 := ⟨by kernel_rfl⟩
instance zer157 : Zer Tryz.prog 157 (.nilFunc) := ⟨by kernel_rfl⟩
abbrev und158 := Und.mk (P := Tryz.prog) (t := 158) Tryz.underlying158
attribute [instance] und158
instance siz158 : Siz Tryz.prog 158 3 := ⟨by kernel_rfl⟩
instance byt158 : Byt Tryz.prog 158 24 := ⟨by kernel_rfl⟩
instance zer158 : Zer Tryz.prog 158 (.agg #[.int .i64 0, .int .i64 0, .int .i64 0]) := ⟨by kernel_rfl⟩
abbrev und159 := Und.mk (P := Tryz.prog) (t := 159) Tryz.underlying159
attribute [instance] und159
instance siz159 : Siz Tryz.prog 159 1 := ⟨by kernel_rfl⟩
instance byt159 : Byt Tryz.prog 159 8 := ⟨by kernel_rfl⟩
instance zer159 : Zer Tryz.prog 159 (.nilFunc) := ⟨by kernel_rfl⟩
abbrev und160 := Und.mk (P := Tryz.prog) (t := 160) Tryz.underlying160
attribute [instance] und160
instance siz160 : Siz Tryz.prog 160 1 := ⟨by kernel_rfl⟩
instance byt160 : Byt Tryz.prog 160 8 := ⟨by kernel_rfl⟩
instance zer160 : Zer Tryz.prog 160 (.map none) := ⟨by kernel_rfl⟩
abbrev und161 := Und.mk (P := Tryz.prog) (t := 161) Tryz.underlying161
attribute [instance] und161
instance siz161 : Siz Tryz.prog 161 1 := ⟨by kernel_rfl⟩
instance byt161 : Byt Tryz.prog 161 8 := ⟨by kernel_rfl⟩
instance zer161 : Zer Tryz.prog 161 (.nilFunc) := ⟨by kernel_rfl⟩
abbrev und162 := Und.mk (P := Tryz.prog) (t := 162) Tryz.underlying162
attribute [instance] und162
instance siz162 : Siz Tryz.prog 162 5 := ⟨by kernel_rfl⟩
instance byt162 : Byt Tryz.prog 162 48 := ⟨by kernel_rfl⟩
instance zer162 : Zer Tryz.prog 162 (.agg #[.int .i64 0, .string ByteArray.empty, .int .i64 0, .int .i64 0, .int .i64 0]) := ⟨by kernel_rfl⟩
instance fld162x0 : Fld Tryz.prog 162 0 0 := ⟨_, _, 0, Tryz.underlying162, rfl, rfl, by kernel_rfl⟩
instance fld162x1 : Fld Tryz.prog 162 1 1 := ⟨_, _, 0, Tryz.underlying162, rfl, rfl, by kernel_rfl⟩
instance fld162x2 : Fld Tryz.prog 162 2 2 := ⟨_, _, 2, Tryz.underlying162, rfl, rfl, by kernel_rfl⟩
abbrev und163 := Und.mk (P := Tryz.prog) (t := 163) Tryz.underlying163
attribute [instance] und163
instance siz163 : Siz Tryz.prog 163 5 := ⟨by kernel_rfl⟩
instance byt163 : Byt Tryz.prog 163 48 := ⟨by kernel_rfl⟩
instance zer163 : Zer Tryz.prog 163 (.agg #[.int .i64 0, .string ByteArray.empty, .int .i64 0, .int .i64 0, .int .i64 0]) := ⟨by kernel_rfl⟩
instance fld163x0 : Fld Tryz.prog 163 0 0 := ⟨_, _, 0, Tryz.underlying163, rfl, rfl, by kernel_rfl⟩
instance fld163x1 : Fld Tryz.prog 163 1 1 := ⟨_, _, 0, Tryz.underlying163, rfl, rfl, by kernel_rfl⟩
instance fld163x2 : Fld Tryz.prog 163 2 2 := ⟨_, _, 2, Tryz.underlying163, rfl, rfl, by kernel_rfl⟩
abbrev und164 := Und.mk (P := Tryz.prog) (t := 164) Tryz.underlying164
attribute [instance] und164
instance siz164 : Siz Tryz.prog 164 1 := ⟨by kernel_rfl⟩
instance byt164 : Byt Tryz.prog 164 8 := ⟨by kernel_rfl⟩
instance zer164 : Zer Tryz.prog 164 (.nilFunc) := ⟨by kernel_rfl⟩
abbrev und165 := Und.mk (P := Tryz.prog) (t := 165) Tryz.underlying165
attribute [instance] und165
instance siz165 : Siz Tryz.prog 165 1 := ⟨by kernel_rfl⟩
instance byt165 : Byt Tryz.prog 165 8 := ⟨by kernel_rfl⟩
instance zer165 : Zer Tryz.prog 165 (.nilFunc) := ⟨by kernel_rfl⟩
abbrev und166 := Und.mk (P := Tryz.prog) (t := 166) Tryz.underlying166
attribute [instance] und166
instance siz166 : Siz Tryz.prog 166 7 := ⟨by kernel_rfl⟩
instance byt166 : Byt Tryz.prog 166 112 := ⟨by kernel_rfl⟩
instance zer166 : Zer Tryz.prog 166 (.agg #[.string ByteArray.empty, .string ByteArray.empty, .string ByteArray.empty, .string ByteArray.empty, .string ByteArray.empty, .string ByteArray.empty, .string ByteArray.empty]) := ⟨by kernel_rfl⟩
abbrev und167 := Und.mk (P := Tryz.prog) (t := 167) Tryz.underlying167
attribute [instance] und167
instance siz167 : Siz Tryz.prog 167 1 := ⟨by kernel_rfl⟩
instance byt167 : Byt Tryz.prog 167 8 := ⟨by kernel_rfl⟩
instance zer167 : Zer Tryz.prog 167 (.nilFunc) := ⟨by kernel_rfl⟩
abbrev und168 := Und.mk (P := Tryz.prog) (t := 168) Tryz.underlying168
attribute [instance] und168
instance siz168 : Siz Tryz.prog 168 1 := ⟨by kernel_rfl⟩
instance byt168 : Byt Tryz.prog 168 8 := ⟨by kernel_rfl⟩
instance zer168 : Zer Tryz.prog 168 (.nilFunc) := ⟨by kernel_rfl⟩
abbrev und169 := Und.mk (P := Tryz.prog) (t := 169) Tryz.underlying169
attribute [instance] und169
instance siz169 : Siz Tryz.prog 169 1 := ⟨by kernel_rfl⟩
instance byt169 : Byt Tryz.prog 169 8 := ⟨by kernel_rfl⟩
instance zer169 : Zer Tryz.prog 169 (.nilFunc) := ⟨by kernel_rfl⟩
abbrev und170 := Und.mk (P := Tryz.prog) (t := 170) Tryz.underlying170
attribute [instance] und170
instance siz170 : Siz Tryz.prog 170 1 := ⟨by kernel_rfl⟩
instance byt170 : Byt Tryz.prog 170 8 := ⟨by kernel_rfl⟩
instance zer170 : Zer Tryz.prog 170 (.nilFunc) := ⟨by kernel_rfl⟩
abbrev und171 := Und.mk (P := Tryz.prog) (t := 171) Tryz.underlying171
attribute [instance] und171
instance siz171 : Siz Tryz.prog 171 1 := ⟨by kernel_rfl⟩
instance byt171 : Byt Tryz.prog 171 8 := ⟨by kernel_rfl⟩
instance zer171 : Zer Tryz.prog 171 (.nilFunc) := ⟨by kernel_rfl⟩
abbrev und172 := Und.mk (P := Tryz.prog) (t := 172) Tryz.underlying172
attribute [instance] und172
instance siz172 : Siz Tryz.prog 172 1 := ⟨by kernel_rfl⟩
instance byt172 : Byt Tryz.prog 172 8 := ⟨by kernel_rfl⟩
instance zer172 : Zer Tryz.prog 172 (.nilFunc) := ⟨by kernel_rfl⟩
abbrev und173 := Und.mk (P := Tryz.prog) (t := 173) Tryz.underlying173
attribute [instance] und173
instance siz173 : Siz Tryz.prog 173 1 := ⟨by kernel_rfl⟩
instance byt173 : Byt Tryz.prog 173 8 := ⟨by kernel_rfl⟩
instance zer173 : Zer Tryz.prog 173 (.nilFunc) := ⟨by kernel_rfl⟩
abbrev und174 := Und.mk (P := Tryz.prog) (t := 174) Tryz.underlying174
attribute [instance] und174
instance siz174 : Siz Tryz.prog 174 1 := ⟨by kernel_rfl⟩
instance byt174 : Byt Tryz.prog 174 0 := ⟨by kernel_rfl⟩
abbrev und175 := Und.mk (P := Tryz.prog) (t := 175) Tryz.underlying175
attribute [instance] und175
instance siz175 : Siz Tryz.prog 175 1 := ⟨by kernel_rfl⟩
instance byt175 : Byt Tryz.prog 175 8 := ⟨by kernel_rfl⟩
instance zer175 : Zer Tryz.prog 175 (.pointer none) := ⟨by kernel_rfl⟩
abbrev und176 := Und.mk (P := Tryz.prog) (t := 176) Tryz.underlying176
attribute [instance] und176
instance siz176 : Siz Tryz.prog 176 1 := ⟨by kernel_rfl⟩
instance byt176 : Byt Tryz.prog 176 8 := ⟨by kernel_rfl⟩
instance zer176 : Zer Tryz.prog 176 (.nilFunc) := ⟨by kernel_rfl⟩
abbrev und177 := Und.mk (P := Tryz.prog) (t := 177) Tryz.underlying177
attribute [instance] und177
instance siz177 : Siz Tryz.prog 177 1 := ⟨by kernel_rfl⟩
instance byt177 : Byt Tryz.prog 177 0 := ⟨by kernel_rfl⟩
abbrev und178 := Und.mk (P := Tryz.prog) (t := 178) Tryz.underlying178
attribute [instance] und178
instance siz178 : Siz Tryz.prog 178 1 := ⟨by kernel_rfl⟩
instance byt178 : Byt Tryz.prog 178 8 := ⟨by kernel_rfl⟩
instance zer178 : Zer Tryz.prog 178 (.nilFunc) := ⟨by kernel_rfl⟩
abbrev und179 := Und.mk (P := Tryz.prog) (t := 179) Tryz.underlying179
attribute [instance] und179
instance siz179 : Siz Tryz.prog 179 1 := ⟨by kernel_rfl⟩
instance byt179 : Byt Tryz.prog 179 8 := ⟨by kernel_rfl⟩
instance zer179 : Zer Tryz.prog 179 (.nilFunc) := ⟨by kernel_rfl⟩
abbrev und180 := Und.mk (P := Tryz.prog) (t := 180) Tryz.underlying180
attribute [instance] und180
instance siz180 : Siz Tryz.prog 180 1 := ⟨by kernel_rfl⟩
instance byt180 : Byt Tryz.prog 180 8 := ⟨by kernel_rfl⟩
instance zer180 : Zer Tryz.prog 180 (.pointer none) := ⟨by kernel_rfl⟩
abbrev und181 := Und.mk (P := Tryz.prog) (t := 181) Tryz.underlying181
attribute [instance] und181
instance siz181 : Siz Tryz.prog 181 1 := ⟨by kernel_rfl⟩
instance byt181 : Byt Tryz.prog 181 8 := ⟨by kernel_rfl⟩
instance zer181 : Zer Tryz.prog 181 (.nilFunc) := ⟨by kernel_rfl⟩
abbrev und182 := Und.mk (P := Tryz.prog) (t := 182) Tryz.underlying182
attribute [instance] und182
instance siz182 : Siz Tryz.prog 182 1 := ⟨by kernel_rfl⟩
instance byt182 : Byt Tryz.prog 182 0 := ⟨by kernel_rfl⟩
abbrev und183 := Und.mk (P := Tryz.prog) (t := 183) Tryz.underlying183
attribute [instance] und183
instance siz183 : Siz Tryz.prog 183 1 := ⟨by kernel_rfl⟩
instance byt183 : Byt Tryz.prog 183 8 := ⟨by kernel_rfl⟩
instance zer183 : Zer Tryz.prog 183 (.nilFunc) := ⟨by kernel_rfl⟩
abbrev und184 := Und.mk (P := Tryz.prog) (t := 184) Tryz.underlying184
attribute [instance] und184
instance siz184 : Siz Tryz.prog 184 1 := ⟨by kernel_rfl⟩
instance byt184 : Byt Tryz.prog 184 8 := ⟨by kernel_rfl⟩
instance zer184 : Zer Tryz.prog 184 (.nilFunc) := ⟨by kernel_rfl⟩
abbrev und185 := Und.mk (P := Tryz.prog) (t := 185) Tryz.underlying185
attribute [instance] und185
instance siz185 : Siz Tryz.prog 185 1 := ⟨by kernel_rfl⟩
instance byt185 : Byt Tryz.prog 185 8 := ⟨by kernel_rfl⟩
instance zer185 : Zer Tryz.prog 185 (.nilFunc) := ⟨by kernel_rfl⟩
abbrev und186 := Und.mk (P := Tryz.prog) (t := 186) Tryz.underlying186
attribute [instance] und186
instance siz186 : Siz Tryz.prog 186 1 := ⟨by kernel_rfl⟩
instance byt186 : Byt Tryz.prog 186 8 := ⟨by kernel_rfl⟩
instance zer186 : Zer Tryz.prog 186 (.map none) := ⟨by kernel_rfl⟩
abbrev und187 := Und.mk (P := Tryz.prog) (t := 187) Tryz.underlying187
attribute [instance] und187
instance siz187 : Siz Tryz.prog 187 1 := ⟨by kernel_rfl⟩
instance byt187 : Byt Tryz.prog 187 8 := ⟨by kernel_rfl⟩
instance zer187 : Zer Tryz.prog 187 (.nilFunc) := ⟨by kernel_rfl⟩
abbrev und188 := Und.mk (P := Tryz.prog) (t := 188) Tryz.underlying188
attribute [instance] und188
instance siz188 : Siz Tryz.prog 188 1 := ⟨by kernel_rfl⟩
instance byt188 : Byt Tryz.prog 188 8 := ⟨by kernel_rfl⟩
instance zer188 : Zer Tryz.prog 188 (.nilFunc) := ⟨by kernel_rfl⟩
abbrev und189 := Und.mk (P := Tryz.prog) (t := 189) Tryz.underlying189
attribute [instance] und189
instance siz189 : Siz Tryz.prog 189 1 := ⟨by kernel_rfl⟩
instance byt189 : Byt Tryz.prog 189 8 := ⟨by kernel_rfl⟩
instance zer189 : Zer Tryz.prog 189 (.int .i64 0) := ⟨by kernel_rfl⟩
abbrev und190 := Und.mk (P := Tryz.prog) (t := 190) Tryz.underlying190
attribute [instance] und190
instance siz190 : Siz Tryz.prog 190 1 := ⟨by kernel_rfl⟩
instance byt190 : Byt Tryz.prog 190 0 := ⟨by kernel_rfl⟩
abbrev und191 := Und.mk (P := Tryz.prog) (t := 191) Tryz.underlying191
attribute [instance] und191
instance siz191 : Siz Tryz.prog 191 1 := ⟨by kernel_rfl⟩
instance byt191 : Byt Tryz.prog 191 8 := ⟨by kernel_rfl⟩
instance zer191 : Zer Tryz.prog 191 (.nilFunc) := ⟨by kernel_rfl⟩
abbrev und192 := Und.mk (P := Tryz.prog) (t := 192) Tryz.underlying192
attribute [instance] und192
instance siz192 : Siz Tryz.prog 192 1 := ⟨by kernel_rfl⟩
instance byt192 : Byt Tryz.prog 192 8 := ⟨by kernel_rfl⟩
instance zer192 : Zer Tryz.prog 192 (.nilFunc) := ⟨by kernel_rfl⟩
abbrev und193 := Und.mk (P := Tryz.prog) (t := 193) Tryz.underlying193
attribute [instance] und193
instance siz193 : Siz Tryz.prog 193 1 := ⟨by kernel_rfl⟩
instance byt193 : Byt Tryz.prog 193 8 := ⟨by kernel_rfl⟩
instance zer193 : Zer Tryz.prog 193 (.nilFunc) := ⟨by kernel_rfl⟩
abbrev und194 := Und.mk (P := Tryz.prog) (t := 194) Tryz.underlying194
attribute [instance] und194
instance siz194 : Siz Tryz.prog 194 1 := ⟨by kernel_rfl⟩
instance byt194 : Byt Tryz.prog 194 8 := ⟨by kernel_rfl⟩
instance zer194 : Zer Tryz.prog 194 (.nilFunc) := ⟨by kernel_rfl⟩
abbrev und195 := Und.mk (P := Tryz.prog) (t := 195) Tryz.underlying195
attribute [instance] und195
instance siz195 : Siz Tryz.prog 195 1 := ⟨by kernel_rfl⟩
instance byt195 : Byt Tryz.prog 195 0 := ⟨by kernel_rfl⟩
abbrev und196 := Und.mk (P := Tryz.prog) (t := 196) Tryz.underlying196
attribute [instance] und196
instance siz196 : Siz Tryz.prog 196 1 := ⟨by kernel_rfl⟩
instance byt196 : Byt Tryz.prog 196 8 := ⟨by kernel_rfl⟩
instance zer196 : Zer Tryz.prog 196 (.nilFunc) := ⟨by kernel_rfl⟩
abbrev und197 := Und.mk (P := Tryz.prog) (t := 197) Tryz.underlying197
attribute [instance] und197
instance siz197 : Siz Tryz.prog 197 1 := ⟨by kernel_rfl⟩
instance byt197 : Byt Tryz.prog 197 8 := ⟨by kernel_rfl⟩
instance zer197 : Zer Tryz.prog 197 (.nilFunc) := ⟨by kernel_rfl⟩
abbrev und198 := Und.mk (P := Tryz.prog) (t := 198) Tryz.underlying198
attribute [instance] und198
instance siz198 : Siz Tryz.prog 198 1 := ⟨by kernel_rfl⟩
instance byt198 : Byt Tryz.prog 198 4 := ⟨by kernel_rfl⟩
instance zer198 : Zer Tryz.prog 198 (.int .u32 0) := ⟨by kernel_rfl⟩
abbrev und199 := Und.mk (P := Tryz.prog) (t := 199) Tryz.underlying199
attribute [instance] und199
instance siz199 : Siz Tryz.prog 199 1 := ⟨by kernel_rfl⟩
instance byt199 : Byt Tryz.prog 199 8 := ⟨by kernel_rfl⟩
instance zer199 : Zer Tryz.prog 199 (.nilFunc) := ⟨by kernel_rfl⟩
abbrev und200 := Und.mk (P := Tryz.prog) (t := 200) Tryz.underlying200
attribute [instance] und200
instance siz200 : Siz Tryz.prog 200 1 := ⟨by kernel_rfl⟩
instance byt200 : Byt Tryz.prog 200 8 := ⟨by kernel_rfl⟩
instance zer200 : Zer Tryz.prog 200 (.nilFunc) := ⟨by kernel_rfl⟩
abbrev und201 := Und.mk (P := Tryz.prog) (t := 201) Tryz.underlying201
attribute [instance] und201
instance siz201 : Siz Tryz.prog 201 1 := ⟨by kernel_rfl⟩
instance byt201 : Byt Tryz.prog 201 8 := ⟨by kernel_rfl⟩
instance zer201 : Zer Tryz.prog 201 (.nilFunc) := ⟨by kernel_rfl⟩
abbrev und202 := Und.mk (P := Tryz.prog) (t := 202) Tryz.underlying202
attribute [instance] und202
instance siz202 : Siz Tryz.prog 202 1 := ⟨by kernel_rfl⟩
instance byt202 : Byt Tryz.prog 202 8 := ⟨by kernel_rfl⟩
instance zer202 : Zer Tryz.prog 202 (.nilFunc) := ⟨by kernel_rfl⟩
abbrev und203 := Und.mk (P := Tryz.prog) (t := 203) Tryz.underlying203
attribute [instance] und203
instance siz203 : Siz Tryz.prog 203 1 := ⟨by kernel_rfl⟩
instance byt203 : Byt Tryz.prog 203 8 := ⟨by kernel_rfl⟩
instance zer203 : Zer Tryz.prog 203 (.nilFunc) := ⟨by kernel_rfl⟩
abbrev und204 := Und.mk (P := Tryz.prog) (t := 204) Tryz.underlying204
attribute [instance] und204
instance siz204 : Siz Tryz.prog 204 1 := ⟨by kernel_rfl⟩
instance byt204 : Byt Tryz.prog 204 0 := ⟨by kernel_rfl⟩
abbrev und205 := Und.mk (P := Tryz.prog) (t := 205) Tryz.underlying205
attribute [instance] und205
instance siz205 : Siz Tryz.prog 205 1 := ⟨by kernel_rfl⟩
instance byt205 : Byt Tryz.prog 205 8 := ⟨by kernel_rfl⟩
instance zer205 : Zer Tryz.prog 205 (.nilFunc) := ⟨by kernel_rfl⟩
abbrev und206 := Und.mk (P := Tryz.prog) (t := 206) Tryz.underlying206
attribute [instance] und206
instance siz206 : Siz Tryz.prog 206 1 := ⟨by kernel_rfl⟩
instance byt206 : Byt Tryz.prog 206 0 := ⟨by kernel_rfl⟩
abbrev und207 := Und.mk (P := Tryz.prog) (t := 207) Tryz.underlying207
attribute [instance] und207
instance siz207 : Siz Tryz.prog 207 1 := ⟨by kernel_rfl⟩
instance byt207 : Byt Tryz.prog 207 8 := ⟨by kernel_rfl⟩
instance zer207 : Zer Tryz.prog 207 (.nilFunc) := ⟨by kernel_rfl⟩
abbrev und208 := Und.mk (P := Tryz.prog) (t := 208) Tryz.underlying208
attribute [instance] und208
instance siz208 : Siz Tryz.prog 208 1 := ⟨by kernel_rfl⟩
instance byt208 : Byt Tryz.prog 208 8 := ⟨by kernel_rfl⟩
instance zer208 : Zer Tryz.prog 208 (.nilFunc) := ⟨by kernel_rfl⟩
abbrev und209 := Und.mk (P := Tryz.prog) (t := 209) Tryz.underlying209
attribute [instance] und209
instance siz209 : Siz Tryz.prog 209 1 := ⟨by kernel_rfl⟩
instance byt209 : Byt Tryz.prog 209 8 := ⟨by kernel_rfl⟩
instance zer209 : Zer Tryz.prog 209 (.map none) := ⟨by kernel_rfl⟩
abbrev und210 := Und.mk (P := Tryz.prog) (t := 210) Tryz.underlying210
attribute [instance] und210
instance siz210 : Siz Tryz.prog 210 1 := ⟨by kernel_rfl⟩
instance byt210 : Byt Tryz.prog 210 8 := ⟨by kernel_rfl⟩
instance zer210 : Zer Tryz.prog 210 (.nilFunc) := ⟨by kernel_rfl⟩
abbrev und211 := Und.mk (P := Tryz.prog) (t := 211) Tryz.underlying211
attribute [instance] und211
instance siz211 : Siz Tryz.prog 211 1 := ⟨by kernel_rfl⟩
instance byt211 : Byt Tryz.prog 211 8 := ⟨by kernel_rfl⟩
instance zer211 : Zer Tryz.prog 211 (.int .u64 0) := ⟨by kernel_rfl⟩
abbrev und212 := Und.mk (P := Tryz.prog) (t := 212) Tryz.underlying212
attribute [instance] und212
instance siz212 : Siz Tryz.prog 212 1 := ⟨by kernel_rfl⟩
instance byt212 : Byt Tryz.prog 212 8 := ⟨by kernel_rfl⟩
instance zer212 : Zer Tryz.prog 212 (.nilFunc) := ⟨by kernel_rfl⟩
abbrev und213 := Und.mk (P := Tryz.prog) (t := 213) Tryz.underlying213
attribute [instance] und213
instance siz213 : Siz Tryz.prog 213 1 := ⟨by kernel_rfl⟩
instance byt213 : Byt Tryz.prog 213 8 := ⟨by kernel_rfl⟩
instance zer213 : Zer Tryz.prog 213 (.nilFunc) := ⟨by kernel_rfl⟩
abbrev und214 := Und.mk (P := Tryz.prog) (t := 214) Tryz.underlying214
attribute [instance] und214
instance siz214 : Siz Tryz.prog 214 1 := ⟨by kernel_rfl⟩
instance byt214 : Byt Tryz.prog 214 8 := ⟨by kernel_rfl⟩
instance zer214 : Zer Tryz.prog 214 (.pointer none) := ⟨by kernel_rfl⟩
abbrev und215 := Und.mk (P := Tryz.prog) (t := 215) Tryz.underlying215
attribute [instance] und215
instance siz215 : Siz Tryz.prog 215 1 := ⟨by kernel_rfl⟩
instance byt215 : Byt Tryz.prog 215 8 := ⟨by kernel_rfl⟩
instance zer215 : Zer Tryz.prog 215 (.nilFunc) := ⟨by kernel_rfl⟩
abbrev und216 := Und.mk (P := Tryz.prog) (t := 216) Tryz.underlying216
attribute [instance] und216
instance siz216 : Siz Tryz.prog 216 1 := ⟨by kernel_rfl⟩
instance byt216 : Byt Tryz.prog 216 8 := ⟨by kernel_rfl⟩
instance zer216 : Zer Tryz.prog 216 (.nilFunc) := ⟨by kernel_rfl⟩
abbrev und217 := Und.mk (P := Tryz.prog) (t := 217) Tryz.underlying217
attribute [instance] und217
instance siz217 : Siz Tryz.prog 217 1 := ⟨by kernel_rfl⟩
instance byt217 : Byt Tryz.prog 217 8 := ⟨by kernel_rfl⟩
instance zer217 : Zer Tryz.prog 217 (.nilFunc) := ⟨by kernel_rfl⟩
abbrev und218 := Und.mk (P := Tryz.prog) (t := 218) Tryz.underlying218
attribute [instance] und218
instance siz218 : Siz Tryz.prog 218 1 := ⟨by kernel_rfl⟩
instance byt218 : Byt Tryz.prog 218 8 := ⟨by kernel_rfl⟩
instance zer218 : Zer Tryz.prog 218 (.nilFunc) := ⟨by kernel_rfl⟩
abbrev und219 := Und.mk (P := Tryz.prog) (t := 219) Tryz.underlying219
attribute [instance] und219
instance siz219 : Siz Tryz.prog 219 24 := ⟨by kernel_rfl⟩
instance byt219 : Byt Tryz.prog 219 24 := ⟨by kernel_rfl⟩
instance zer219 : Zer Tryz.prog 219 (.agg #[.int .u8 0, .int .u8 0, .int .u8 0, .int .u8 0, .int .u8 0, .int .u8 0, .int .u8 0, .int .u8 0, .int .u8 0, .int .u8 0, .int .u8 0, .int .u8 0, .int .u8 0, .int .u8 0, .int .u8 0, .int .u8 0, .int .u8 0, .int .u8 0, .int .u8 0, .int .u8 0, .int .u8 0, .int .u8 0, .int .u8 0, .int .u8 0]) := ⟨by kernel_rfl⟩
abbrev und220 := Und.mk (P := Tryz.prog) (t := 220) Tryz.underlying220
attribute [instance] und220
instance siz220 : Siz Tryz.prog 220 1 := ⟨by kernel_rfl⟩
instance byt220 : Byt Tryz.prog 220 8 := ⟨by kernel_rfl⟩
instance zer220 : Zer Tryz.prog 220 (.nilFunc) := ⟨by kernel_rfl⟩
abbrev und221 := Und.mk (P := Tryz.prog) (t := 221) Tryz.underlying221
attribute [instance] und221
instance siz221 : Siz Tryz.prog 221 1 := ⟨by kernel_rfl⟩
instance byt221 : Byt Tryz.prog 221 0 := ⟨by kernel_rfl⟩
abbrev und222 := Und.mk (P := Tryz.prog) (t := 222) Tryz.underlying222
attribute [instance] und222
instance siz222 : Siz Tryz.prog 222 1 := ⟨by kernel_rfl⟩
instance byt222 : Byt Tryz.prog 222 8 := ⟨by kernel_rfl⟩
instance zer222 : Zer Tryz.prog 222 (.nilFunc) := ⟨by kernel_rfl⟩
abbrev und223 := Und.mk (P := Tryz.prog) (t := 223) Tryz.underlying223
attribute [instance] und223
instance siz223 : Siz Tryz.prog 223 1 := ⟨by kernel_rfl⟩
instance byt223 : Byt Tryz.prog 223 8 := ⟨by kernel_rfl⟩
instance zer223 : Zer Tryz.prog 223 (.nilFunc) := ⟨by kernel_rfl⟩
abbrev und224 := Und.mk (P := Tryz.prog) (t := 224) Tryz.underlying224
attribute [instance] und224
instance siz224 : Siz Tryz.prog 224 1 := ⟨by kernel_rfl⟩
instance byt224 : Byt Tryz.prog 224 8 := ⟨by kernel_rfl⟩
instance zer224 : Zer Tryz.prog 224 (.pointer none) := ⟨by kernel_rfl⟩
abbrev und225 := Und.mk (P := Tryz.prog) (t := 225) Tryz.underlying225
attribute [instance] und225
instance siz225 : Siz Tryz.prog 225 1 := ⟨by kernel_rfl⟩
instance byt225 : Byt Tryz.prog 225 0 := ⟨by kernel_rfl⟩
abbrev und226 := Und.mk (P := Tryz.prog) (t := 226) Tryz.underlying226
attribute [instance] und226
instance siz226 : Siz Tryz.prog 226 1 := ⟨by kernel_rfl⟩
instance byt226 : Byt Tryz.prog 226 8 := ⟨by kernel_rfl⟩
instance zer226 : Zer Tryz.prog 226 (.nilFunc) := ⟨by kernel_rfl⟩
abbrev und227 := Und.mk (P := Tryz.prog) (t := 227) Tryz.underlying227
attribute [instance] und227
instance siz227 : Siz Tryz.prog 227 1 := ⟨by kernel_rfl⟩
instance byt227 : Byt Tryz.prog 227 8 := ⟨by kernel_rfl⟩
instance zer227 : Zer Tryz.prog 227 (.int .i64 0) := ⟨by kernel_rfl⟩
abbrev und228 := Und.mk (P := Tryz.prog) (t := 228) Tryz.underlying228
attribute [instance] und228
instance siz228 : Siz Tryz.prog 228 1 := ⟨by kernel_rfl⟩
instance byt228 : Byt Tryz.prog 228 0 := ⟨by kernel_rfl⟩
abbrev und229 := Und.mk (P := Tryz.prog) (t := 229) Tryz.underlying229
attribute [instance] und229
instance siz229 : Siz Tryz.prog 229 1 := ⟨by kernel_rfl⟩
instance byt229 : Byt Tryz.prog 229 8 := ⟨by kernel_rfl⟩
instance zer229 : Zer Tryz.prog 229 (.nilFunc) := ⟨by kernel_rfl⟩
abbrev und230 := Und.mk (P := Tryz.prog) (t := 230) Tryz.underlying230
attribute [instance] und230
instance siz230 : Siz Tryz.prog 230 1 := ⟨by kernel_rfl⟩
instance byt230 : Byt Tryz.prog 230 8 := ⟨by kernel_rfl⟩
instance zer230 : Zer Tryz.prog 230 (.pointer none) := ⟨by kernel_rfl⟩
abbrev und231 := Und.mk (P := Tryz.prog) (t := 231) Tryz.underlying231
attribute [instance] und231
instance siz231 : Siz Tryz.prog 231 1 := ⟨by kernel_rfl⟩
instance byt231 : Byt Tryz.prog 231 8 := ⟨by kernel_rfl⟩
instance zer231 : Zer Tryz.prog 231 (.nilFunc) := ⟨by kernel_rfl⟩
abbrev und232 := Und.mk (P := Tryz.prog) (t := 232) Tryz.underlying232
attribute [instance] und232
instance siz232 : Siz Tryz.prog 232 1 := ⟨by kernel_rfl⟩
instance byt232 : Byt Tryz.prog 232 8 := ⟨by kernel_rfl⟩
instance zer232 : Zer Tryz.prog 232 (.nilFunc) := ⟨by kernel_rfl⟩
abbrev und233 := Und.mk (P := Tryz.prog) (t := 233) Tryz.underlying233
attribute [instance] und233
instance siz233 : Siz Tryz.prog 233 1 := ⟨by kernel_rfl⟩
instance byt233 : Byt Tryz.prog 233 8 := ⟨by kernel_rfl⟩
instance zer233 : Zer Tryz.prog 233 (.nilFunc) := ⟨by kernel_rfl⟩
abbrev und234 := Und.mk (P := Tryz.prog) (t := 234) Tryz.underlying234
attribute [instance] und234
instance siz234 : Siz Tryz.prog 234 1 := ⟨by kernel_rfl⟩
instance byt234 : Byt Tryz.prog 234 8 := ⟨by kernel_rfl⟩
instance zer234 : Zer Tryz.prog 234 (.nilFunc) := ⟨by kernel_rfl⟩
abbrev und235 := Und.mk (P := Tryz.prog) (t := 235) Tryz.underlying235
attribute [instance] und235
instance siz235 : Siz Tryz.prog 235 1 := ⟨by kernel_rfl⟩
instance byt235 : Byt Tryz.prog 235 8 := ⟨by kernel_rfl⟩
instance zer235 : Zer Tryz.prog 235 (.nilFunc) := ⟨by kernel_rfl⟩
abbrev und236 := Und.mk (P := Tryz.prog) (t := 236) Tryz.underlying236
attribute [instance] und236
instance siz236 : Siz Tryz.prog 236 20 := ⟨by kernel_rfl⟩
instance byt236 : Byt Tryz.prog 236 160 := ⟨by kernel_rfl⟩
instance zer236 : Zer Tryz.prog 236 (.agg #[.int .u64 0, .int .u64 0, .int .u64 0, .int .u64 0, .int .u64 0, .int .u64 0, .int .u64 0, .int .u64 0, .int .u64 0, .int .u64 0, .int .u64 0, .int .u64 0, .int .u64 0, .int .u64 0, .int .u64 0, .int .u64 0, .int .u64 0, .int .u64 0, .int .u64 0, .int .u64 0]) := ⟨by kernel_rfl⟩
abbrev und237 := Und.mk (P := Tryz.prog) (t := 237) Tryz.underlying237
attribute [instance] und237
instance siz237 : Siz Tryz.prog 237 65 := ⟨by kernel_rfl⟩
instance byt237 : Byt Tryz.prog 237 65 := ⟨by kernel_rfl⟩
instance zer237 : Zer Tryz.prog 237 (.agg #[.int .u8 0, .int .u8 0, .int .u8 0, .int .u8 0, .int .u8 0, .int .u8 0, .int .u8 0, .int .u8 0, .int .u8 0, .int .u8 0, .int .u8 0, .int .u8 0, .int .u8 0, .int .u8 0, .int .u8 0, .int .u8 0, .int .u8 0, .int .u8 0, .int .u8 0, .int .u8 0, .int .u8 0, .int .u8 0, .int .u8 0, .int .u8 0, .int .u8 0, .int .u8 0, .int .u8 0, .int .u8 0, .int .u8 0, .int .u8 0, .int .u8 0, .int .u8 0, .int .u8 0, .int .u8 0, .int .u8 0, .int .u8 0, .int .u8 0, .int .u8 0, .int .u8 0, .int .u8 0, .int .u8 0, .int .u8 0, .int .u8 0, .int .u8 0, .int .u8 0, .int .u8 0, .int .u8 0, .int .u8 0, .int .u8 0, .int .u8 0, .int .u8 0, .int .u8 0, .int .u8 0, .int .u8 0, .int .u8 0, .int .u8 0, .int .u8 0, .int .u8 0, .int .u8 0, .int .u8 0, .int .u8 0, .int .u8 0, .int .u8 0, .int .u8 0, .int .u8 0]) := ⟨by kernel_rfl⟩
abbrev und238 := Und.mk (P := Tryz.prog) (t := 238) Tryz.underlying238
attribute [instance] und238
instance siz238 : Siz Tryz.prog 238 1 := ⟨by kernel_rfl⟩
instance byt238 : Byt Tryz.prog 238 8 := ⟨by kernel_rfl⟩
instance zer238 : Zer Tryz.prog 238 (.nilFunc) := ⟨by kernel_rfl⟩
abbrev und239 := Und.mk (P := Tryz.prog) (t := 239) Tryz.underlying239
attribute [instance] und239
instance siz239 : Siz Tryz.prog 239 1 := ⟨by kernel_rfl⟩
instance byt239 : Byt Tryz.prog 239 0 := ⟨by kernel_rfl⟩
abbrev und240 := Und.mk (P := Tryz.prog) (t := 240) Tryz.underlying240
attribute [instance] und240
instance siz240 : Siz Tryz.prog 240 1 := ⟨by kernel_rfl⟩
instance byt240 : Byt Tryz.prog 240 8 := ⟨by kernel_rfl⟩
instance zer240 : Zer Tryz.prog 240 (.nilFunc) := ⟨by kernel_rfl⟩
abbrev und241 := Und.mk (P := Tryz.prog) (t := 241) Tryz.underlying241
attribute [instance] und241
instance siz241 : Siz Tryz.prog 241 1 := ⟨by kernel_rfl⟩
instance byt241 : Byt Tryz.prog 241 8 := ⟨by kernel_rfl⟩
instance zer241 : Zer Tryz.prog 241 (.nilFunc) := ⟨by kernel_rfl⟩
abbrev und242 := Und.mk (P := Tryz.prog) (t := 242) Tryz.underlying242
attribute [instance] und242
instance siz242 : Siz Tryz.prog 242 3 := ⟨by kernel_rfl⟩
instance byt242 : Byt Tryz.prog 242 48 := ⟨by kernel_rfl⟩
instance zer242 : Zer Tryz.prog 242 (.agg #[.string ByteArray.empty, .string ByteArray.empty, .nilIface]) := ⟨by kernel_rfl⟩
instance fld242x0 : Fld Tryz.prog 242 0 0 := ⟨_, _, 0, Tryz.underlying242, rfl, rfl, by kernel_rfl⟩
instance fld242x1 : Fld Tryz.prog 242 1 1 := ⟨_, _, 0, Tryz.underlying242, rfl, rfl, by kernel_rfl⟩
instance fld242x2 : Fld Tryz.prog 242 2 2 := ⟨_, _, 0, Tryz.underlying242, rfl, rfl, by kernel_rfl⟩
abbrev und243 := Und.mk (P := Tryz.prog) (t := 243) Tryz.underlying243
attribute [instance] und243
instance siz243 : Siz Tryz.prog 243 3 := ⟨by kernel_rfl⟩
instance byt243 : Byt Tryz.prog 243 48 := ⟨by kernel_rfl⟩
instance zer243 : Zer Tryz.prog 243 (.agg #[.string ByteArray.empty, .string ByteArray.empty, .nilIface]) := ⟨by kernel_rfl⟩
instance fld243x0 : Fld Tryz.prog 243 0 0 := ⟨_, _, 0, Tryz.underlying243, rfl, rfl, by kernel_rfl⟩
instance fld243x1 : Fld Tryz.prog 243 1 1 := ⟨_, _, 0, Tryz.underlying243, rfl, rfl, by kernel_rfl⟩
instance fld243x2 : Fld Tryz.prog 243 2 2 := ⟨_, _, 0, Tryz.underlying243, rfl, rfl, by kernel_rfl⟩
abbrev und244 := Und.mk (P := Tryz.prog) (t := 244) Tryz.underlying244
attribute [instance] und244
instance siz244 : Siz Tryz.prog 244 1 := ⟨by kernel_rfl⟩
instance byt244 : Byt Tryz.prog 244 8 := ⟨by kernel_rfl⟩
instance zer244 : Zer Tryz.prog 244 (.nilFunc) := ⟨by kernel_rfl⟩
abbrev und245 := Und.mk (P := Tryz.prog) (t := 245) Tryz.underlying245
attribute [instance] und245
instance siz245 : Siz Tryz.prog 245 1 := ⟨by kernel_rfl⟩
instance byt245 : Byt Tryz.prog 245 8 := ⟨by kernel_rfl⟩
instance zer245 : Zer Tryz.prog 245 (.nilFunc) := ⟨by kernel_rfl⟩
abbrev und246 := Und.mk (P := Tryz.prog) (t := 246) Tryz.underlying246
attribute [instance] und246
instance siz246 : Siz Tryz.prog 246 1 := ⟨by kernel_rfl⟩
instance byt246 : Byt Tryz.prog 246 8 := ⟨by kernel_rfl⟩
instance zer246 : Zer Tryz.prog 246 (.pointer none) := ⟨by kernel_rfl⟩
abbrev und247 := Und.mk (P := Tryz.prog) (t := 247) Tryz.underlying247
attribute [instance] und247
instance siz247 : Siz Tryz.prog 247 1 := ⟨by kernel_rfl⟩
instance byt247 : Byt Tryz.prog 247 16 := ⟨by kernel_rfl⟩
instance zer247 : Zer Tryz.prog 247 (.agg #[.string ByteArray.empty]) := ⟨by kernel_rfl⟩
instance fld247x0 : Fld Tryz.prog 247 0 0 := ⟨_, _, 0, Tryz.underlying247, rfl, rfl, by kernel_rfl⟩
abbrev und248 := Und.mk (P := Tryz.prog) (t := 248) Tryz.underlying248
attribute [instance] und248
instance siz248 : Siz Tryz.prog 248 1 := ⟨by kernel_rfl⟩
instance byt248 : Byt Tryz.prog 248 16 := ⟨by kernel_rfl⟩
instance zer248 : Zer Tryz.prog 248 (.agg #[.string ByteArray.empty]) := ⟨by kernel_rfl⟩
instance fld248x0 : Fld Tryz.prog 248 0 0 := ⟨_, _, 0, Tryz.underlying248, rfl, rfl, by kernel_rfl⟩
abbrev und249 := Und.mk (P := Tryz.prog) (t := 249) Tryz.underlying249
attribute [instance] und249
instance siz249 : Siz Tryz.prog 249 13 := ⟨by kernel_rfl⟩
instance byt249 : Byt Tryz.prog 249 104 := ⟨by kernel_rfl⟩
instance zer249 : Zer Tryz.prog 249 (.agg #[.int .i64 0, .int .i64 0, .int .i64 0, .int .i64 0, .int .i64 0, .int .i64 0, .int .i64 0, .int .i64 0, .int .i64 0, .int .i64 0, .int .i64 0, .int .i64 0, .int .i64 0]) := ⟨by kernel_rfl⟩
abbrev und250 := Und.mk (P := Tryz.prog) (t := 250) Tryz.underlying250
attribute [instance] und250
instance siz250 : Siz Tryz.prog 250 32 := ⟨by kernel_rfl⟩
instance byt250 : Byt Tryz.prog 250 32 := ⟨by kernel_rfl⟩
instance zer250 : Zer Tryz.prog 250 (.agg #[.int .u8 0, .int .u8 0, .int .u8 0, .int .u8 0, .int .u8 0, .int .u8 0, .int .u8 0, .int .u8 0, .int .u8 0, .int .u8 0, .int .u8 0, .int .u8 0, .int .u8 0, .int .u8 0, .int .u8 0, .int .u8 0, .int .u8 0, .int .u8 0, .int .u8 0, .int .u8 0, .int .u8 0, .int .u8 0, .int .u8 0, .int .u8 0, .int .u8 0, .int .u8 0, .int .u8 0, .int .u8 0, .int .u8 0, .int .u8 0, .int .u8 0, .int .u8 0]) := ⟨by kernel_rfl⟩
abbrev und251 := Und.mk (P := Tryz.prog) (t := 251) Tryz.underlying251
attribute [instance] und251
instance siz251 : Siz Tryz.prog 251 64 := ⟨by kernel_rfl⟩
instance byt251 : Byt Tryz.prog 251 64 := ⟨by kernel_rfl⟩
instance zer251 : Zer Tryz.prog 251 (.agg #[.int .u8 0, .int .u8 0, .int .u8 0, .int .u8 0, .int .u8 0, .int .u8 0, .int .u8 0, .int .u8 0, .int .u8 0, .int .u8 0, .int .u8 0, .int .u8 0, .int .u8 0, .int .u8 0, .int .u8 0, .int .u8 0, .int .u8 0, .int .u8 0, .int .u8 0, .int .u8 0, .int .u8 0, .int .u8 0, .int .u8 0, .int .u8 0, .int .u8 0, .int .u8 0, .int .u8 0, .int .u8 0, .int .u8 0, .int .u8 0, .int .u8 0, .int .u8 0, .int .u8 0, .int .u8 0, .int .u8 0, .int .u8 0, .int .u8 0, .int .u8 0, .int .u8 0, .int .u8 0, .int .u8 0, .int .u8 0, .int .u8 0, .int .u8 0, .int .u8 0, .int .u8 0, .int .u8 0, .int .u8 0, .int .u8 0, .int .u8 0, .int .u8 0, .int .u8 0, .int .u8 0, .int .u8 0, .int .u8 0, .int .u8 0, .int .u8 0, .int .u8 0, .int .u8 0, .int .u8 0, .int .u8 0, .int .u8 0, .int .u8 0, .int .u8 0]) := ⟨by kernel_rfl⟩
abbrev und252 := Und.mk (P := Tryz.prog) (t := 252) Tryz.underlying252
attribute [instance] und252
instance siz252 : Siz Tryz.prog 252 4 := ⟨by kernel_rfl⟩
instance byt252 : Byt Tryz.prog 252 40 := ⟨by kernel_rfl⟩
instance zer252 : Zer Tryz.prog 252 (.agg #[.pointer none, .pointer none, .pointer none, .string ByteArray.empty]) := ⟨by kernel_rfl⟩
instance fld252x0 : Fld Tryz.prog 252 0 0 := ⟨_, _, 0, Tryz.underlying252, rfl, rfl, by kernel_rfl⟩
instance fld252x1 : Fld Tryz.prog 252 1 1 := ⟨_, _, 0, Tryz.underlying252, rfl, rfl, by kernel_rfl⟩
instance fld252x2 : Fld Tryz.prog 252 2 2 := ⟨_, _, 0, Tryz.underlying252, rfl, rfl, by kernel_rfl⟩
instance fld252x3 : Fld Tryz.prog 252 3 3 := ⟨_, _, 0, Tryz.underlying252, rfl, rfl, by kernel_rfl⟩
abbrev und253 := Und.mk (P := Tryz.prog) (t := 253) Tryz.underlying253
attribute [instance] und253
instance siz253 : Siz Tryz.prog 253 4 := ⟨by kernel_rfl⟩
instance byt253 : Byt Tryz.prog 253 40 := ⟨by kernel_rfl⟩
instance zer253 : Zer Tryz.prog 253 (.agg #[.pointer none, .pointer none, .pointer none, .string ByteArray.empty]) := ⟨by kernel_rfl⟩
instance fld253x0 : Fld Tryz.prog 253 0 0 := ⟨_, _, 0, Tryz.underlying253, rfl, rfl, by kernel_rfl⟩
instance fld253x1 : Fld Tryz.prog 253 1 1 := ⟨_, _, 0, Tryz.underlying253, rfl, rfl, by kernel_rfl⟩
instance fld253x2 : Fld Tryz.prog 253 2 2 := ⟨_, _, 0, Tryz.underlying253, rfl, rfl, by kernel_rfl⟩
instance fld253x3 : Fld Tryz.prog 253 3 3 := ⟨_, _, 0, Tryz.underlying253, rfl, rfl, by kernel_rfl⟩
abbrev und254 := Und.mk (P := Tryz.prog) (t := 254) Tryz.underlying254
attribute [instance] und254
instance siz254 : Siz Tryz.prog 254 0 := ⟨by kernel_rfl⟩
instance byt254 : Byt Tryz.prog 254 0 := ⟨by kernel_rfl⟩
instance zer254 : Zer Tryz.prog 254 (.agg #[]) := ⟨by kernel_rfl⟩
abbrev und255 := Und.mk (P := Tryz.prog) (t := 255) Tryz.underlying255
attribute [instance] und255
instance siz255 : Siz Tryz.prog 255 0 := ⟨by kernel_rfl⟩
instance byt255 : Byt Tryz.prog 255 0 := ⟨by kernel_rfl⟩
instance zer255 : Zer Tryz.prog 255 (.agg #[]) := ⟨by kernel_rfl⟩
abbrev und256 := Und.mk (P := Tryz.prog) (t := 256) Tryz.underlying256
attribute [instance] und256
instance siz256 : Siz Tryz.prog 256 0 := ⟨by kernel_rfl⟩
instance byt256 : Byt Tryz.prog 256 0 := ⟨by kernel_rfl⟩
instance zer256 : Zer Tryz.prog 256 (.agg #[]) := ⟨by kernel_rfl⟩
abbrev und257 := Und.mk (P := Tryz.prog) (t := 257) Tryz.underlying257
attribute [instance] und257
instance siz257 : Siz Tryz.prog 257 1 := ⟨by kernel_rfl⟩
instance byt257 : Byt Tryz.prog 257 1 := ⟨by kernel_rfl⟩
instance zer257 : Zer Tryz.prog 257 (.int .u8 0) := ⟨by kernel_rfl⟩
abbrev und258 := Und.mk (P := Tryz.prog) (t := 258) Tryz.underlying258
attribute [instance] und258
instance siz258 : Siz Tryz.prog 258 1 := ⟨by kernel_rfl⟩
instance byt258 : Byt Tryz.prog 258 1 := ⟨by kernel_rfl⟩
instance zer258 : Zer Tryz.prog 258 (.int .u8 0) := ⟨by kernel_rfl⟩
abbrev und259 := Und.mk (P := Tryz.prog) (t := 259) Tryz.underlying259
attribute [instance] und259
instance siz259 : Siz Tryz.prog 259 1 := ⟨by kernel_rfl⟩
instance byt259 : Byt Tryz.prog 259 8 := ⟨by kernel_rfl⟩
instance zer259 : Zer Tryz.prog 259 (.nilFunc) := ⟨by kernel_rfl⟩
abbrev und260 := Und.mk (P := Tryz.prog) (t := 260) Tryz.underlying260
attribute [instance] und260
instance siz260 : Siz Tryz.prog 260 1 := ⟨by kernel_rfl⟩
instance byt260 : Byt Tryz.prog 260 4 := ⟨by kernel_rfl⟩
instance zer260 : Zer Tryz.prog 260 (.int .i32 0) := ⟨by kernel_rfl⟩
abbrev und261 := Und.mk (P := Tryz.prog) (t := 261) Tryz.underlying261
attribute [instance] und261
instance siz261 : Siz Tryz.prog 261 1 := ⟨by kernel_rfl⟩
instance byt261 : Byt Tryz.prog 261 4 := ⟨by kernel_rfl⟩
instance zer261 : Zer Tryz.prog 261 (.int .i32 0) := ⟨by kernel_rfl⟩
abbrev und262 := Und.mk (P := Tryz.prog) (t := 262) Tryz.underlying262
attribute [instance] und262
instance siz262 : Siz Tryz.prog 262 11 := ⟨by kernel_rfl⟩
instance byt262 : Byt Tryz.prog 262 48 := ⟨by kernel_rfl⟩
instance zer262 : Zer Tryz.prog 262 (.agg #[.int .u64 0, .int .u64 0, .int .u32 0, .int .u8 0, .int .u8 0, .int .u8 0, .int .u8 0, .nilFunc, .pointer none, .int .i32 0, .int .i32 0]) := ⟨by kernel_rfl⟩
instance fld262x0 : Fld Tryz.prog 262 0 0 := ⟨_, _, 0, Tryz.underlying262, rfl, rfl, by kernel_rfl⟩
instance fld262x1 : Fld Tryz.prog 262 1 1 := ⟨_, _, 0, Tryz.underlying262, rfl, rfl, by kernel_rfl⟩
instance fld262x2 : Fld Tryz.prog 262 2 2 := ⟨_, _, 0, Tryz.underlying262, rfl, rfl, by kernel_rfl⟩
instance fld262x3 : Fld Tryz.prog 262 3 3 := ⟨_, _, 0, Tryz.underlying262, rfl, rfl, by kernel_rfl⟩
instance fld262x4 : Fld Tryz.prog 262 4 4 := ⟨_, _, 0, Tryz.underlying262, rfl, rfl, by kernel_rfl⟩
instance fld262x5 : Fld Tryz.prog 262 5 5 := ⟨_, _, 0, Tryz.underlying262, rfl, rfl, by kernel_rfl⟩
instance fld262x6 : Fld Tryz.prog 262 6 6 := ⟨_, _, 0, Tryz.underlying262, rfl, rfl, by kernel_rfl⟩
instance fld262x7 : Fld Tryz.prog 262 7 7 := ⟨_, _, 0, Tryz.underlying262, rfl, rfl, by kernel_rfl⟩
instance fld262x8 : Fld Tryz.prog 262 8 8 := ⟨_, _, 0, Tryz.underlying262, rfl, rfl, by kernel_rfl⟩
instance fld262x9 : Fld Tryz.prog 262 9 9 := ⟨_, _, 0, Tryz.underlying262, rfl, rfl, by kernel_rfl⟩
instance fld262x10 : Fld Tryz.prog 262 10 10 := ⟨_, _, 0, Tryz.underlying262, rfl, rfl, by kernel_rfl⟩
abbrev und263 := Und.mk (P := Tryz.prog) (t := 263) Tryz.underlying263
attribute [instance] und263
instance siz263 : Siz Tryz.prog 263 11 := ⟨by kernel_rfl⟩
instance byt263 : Byt Tryz.prog 263 48 := ⟨by kernel_rfl⟩
instance zer263 : Zer Tryz.prog 263 (.agg #[.int .u64 0, .int .u64 0, .int .u32 0, .int .u8 0, .int .u8 0, .int .u8 0, .int .u8 0, .nilFunc, .pointer none, .int .i32 0, .int .i32 0]) := ⟨by kernel_rfl⟩
instance fld263x0 : Fld Tryz.prog 263 0 0 := ⟨_, _, 0, Tryz.underlying263, rfl, rfl, by kernel_rfl⟩
instance fld263x1 : Fld Tryz.prog 263 1 1 := ⟨_, _, 0, Tryz.underlying263, rfl, rfl, by kernel_rfl⟩
instance fld263x2 : Fld Tryz.prog 263 2 2 := ⟨_, _, 0, Tryz.underlying263, rfl, rfl, by kernel_rfl⟩
instance fld263x3 : Fld Tryz.prog 263 3 3 := ⟨_, _, 0, Tryz.underlying263, rfl, rfl, by kernel_rfl⟩
instance fld263x4 : Fld Tryz.prog 263 4 4 := ⟨_, _, 0, Tryz.underlying263, rfl, rfl, by kernel_rfl⟩
instance fld263x5 : Fld Tryz.prog 263 5 5 := ⟨_, _, 0, Tryz.underlying263, rfl, rfl, by kernel_rfl⟩
instance fld263x6 : Fld Tryz.prog 263 6 6 := ⟨_, _, 0, Tryz.underlying263, rfl, rfl, by kernel_rfl⟩
instance fld263x7 : Fld Tryz.prog 263 7 7 := ⟨_, _, 0, Tryz.underlying263, rfl, rfl, by kernel_rfl⟩
instance fld263x8 : Fld Tryz.prog 263 8 8 := ⟨_, _, 0, Tryz.underlying263, rfl, rfl, by kernel_rfl⟩
instance fld263x9 : Fld Tryz.prog 263 9 9 := ⟨_, _, 0, Tryz.underlying263, rfl, rfl, by kernel_rfl⟩
instance fld263x10 : Fld Tryz.prog 263 10 10 := ⟨_, _, 0, Tryz.underlying263, rfl, rfl, by kernel_rfl⟩
abbrev und264 := Und.mk (P := Tryz.prog) (t := 264) Tryz.underlying264
attribute [instance] und264
instance siz264 : Siz Tryz.prog 264 1 := ⟨by kernel_rfl⟩
instance byt264 : Byt Tryz.prog 264 8 := ⟨by kernel_rfl⟩
instance zer264 : Zer Tryz.prog 264 (.nilFunc) := ⟨by kernel_rfl⟩
abbrev und265 := Und.mk (P := Tryz.prog) (t := 265) Tryz.underlying265
attribute [instance] und265
instance siz265 : Siz Tryz.prog 265 1 := ⟨by kernel_rfl⟩
instance byt265 : Byt Tryz.prog 265 8 := ⟨by kernel_rfl⟩
instance zer265 : Zer Tryz.prog 265 (.nilFunc) := ⟨by kernel_rfl⟩
instance fun3 : Fun Tryz.prog 3 Tryz.f3 := ⟨Tryz.func3, enters_of Tryz.func3 (by kernel_rfl) rfl⟩
instance fun4 : Fun Tryz.prog 4 Tryz.f4 := ⟨Tryz.func4, enters_of Tryz.func4 (by kernel_rfl) rfl⟩
instance fun5 : Fun Tryz.prog 5 Tryz.f5 := ⟨Tryz.func5, enters_of Tryz.func5 (by kernel_rfl) rfl⟩
instance fun6 : Fun Tryz.prog 6 Tryz.f6 := ⟨Tryz.func6, enters_of Tryz.func6 (by kernel_rfl) rfl⟩
instance fun7 : Fun Tryz.prog 7 Tryz.f7 := ⟨Tryz.func7, enters_of Tryz.func7 (by kernel_rfl) rfl⟩
instance fun8 : Fun Tryz.prog 8 Tryz.f8 := ⟨Tryz.func8, enters_of Tryz.func8 (by kernel_rfl) rfl⟩
instance fun9 : Fun Tryz.prog 9 Tryz.f9 := ⟨Tryz.func9, enters_of Tryz.func9 (by kernel_rfl) rfl⟩
instance fun10 : Fun Tryz.prog 10 Tryz.f10 := ⟨Tryz.func10, enters_of Tryz.func10 (by kernel_rfl) rfl⟩
instance fun11 : Fun Tryz.prog 11 Tryz.f11 := ⟨Tryz.func11, enters_of Tryz.func11 (by kernel_rfl) rfl⟩
instance fun12 : Fun Tryz.prog 12 Tryz.f12 := ⟨Tryz.func12, enters_of Tryz.func12 (by kernel_rfl) rfl⟩
instance fun13 : Fun Tryz.prog 13 Tryz.f13 := ⟨Tryz.func13, enters_of Tryz.func13 (by kernel_rfl) rfl⟩
instance fun14 : Fun Tryz.prog 14 Tryz.f14 := ⟨Tryz.func14, enters_of Tryz.func14 (by kernel_rfl) rfl⟩
instance fun15 : Fun Tryz.prog 15 Tryz.f15 := ⟨Tryz.func15, enters_of Tryz.func15 (by kernel_rfl) rfl⟩
instance fun16 : Fun Tryz.prog 16 Tryz.f16 := ⟨Tryz.func16, enters_of Tryz.func16 (by kernel_rfl) rfl⟩
instance fun17 : Fun Tryz.prog 17 Tryz.f17 := ⟨Tryz.func17, enters_of Tryz.func17 (by kernel_rfl) rfl⟩
instance fun18 : Fun Tryz.prog 18 Tryz.f18 := ⟨Tryz.func18, enters_of Tryz.func18 (by kernel_rfl) rfl⟩
instance fun19 : Fun Tryz.prog 19 Tryz.f19 := ⟨Tryz.func19, enters_of Tryz.func19 (by kernel_rfl) rfl⟩
instance fun20 : Fun Tryz.prog 20 Tryz.f20 := ⟨Tryz.func20, enters_of Tryz.func20 (by kernel_rfl) rfl⟩
instance fun21 : Fun Tryz.prog 21 Tryz.f21 := ⟨Tryz.func21, enters_of Tryz.func21 (by kernel_rfl) rfl⟩
instance fun22 : Fun Tryz.prog 22 Tryz.f22 := ⟨Tryz.func22, enters_of Tryz.func22 (by kernel_rfl) rfl⟩
instance fun23 : Fun Tryz.prog 23 Tryz.f23 := ⟨Tryz.func23, enters_of Tryz.func23 (by kernel_rfl) rfl⟩
instance fun24 : Fun Tryz.prog 24 Tryz.f24 := ⟨Tryz.func24, enters_of Tryz.func24 (by kernel_rfl) rfl⟩
instance fun25 : Fun Tryz.prog 25 Tryz.f25 := ⟨Tryz.func25, enters_of Tryz.func25 (by kernel_rfl) rfl⟩
instance fun26 : Fun Tryz.prog 26 Tryz.f26 := ⟨Tryz.func26, enters_of Tryz.func26 (by kernel_rfl) rfl⟩
instance fun27 : Fun Tryz.prog 27 Tryz.f27 := ⟨Tryz.func27, enters_of Tryz.func27 (by kernel_rfl) rfl⟩
instance fun28 : Fun Tryz.prog 28 Tryz.f28 := ⟨Tryz.func28, enters_of Tryz.func28 (by kernel_rfl) rfl⟩
instance fun29 : Fun Tryz.prog 29 Tryz.f29 := ⟨Tryz.func29, enters_of Tryz.func29 (by kernel_rfl) rfl⟩
instance fun30 : Fun Tryz.prog 30 Tryz.f30 := ⟨Tryz.func30, enters_of Tryz.func30 (by kernel_rfl) rfl⟩
instance fun31 : Fun Tryz.prog 31 Tryz.f31 := ⟨Tryz.func31, enters_of Tryz.func31 (by kernel_rfl) rfl⟩
instance fun32 : Fun Tryz.prog 32 Tryz.f32 := ⟨Tryz.func32, enters_of Tryz.func32 (by kernel_rfl) rfl⟩
instance fun33 : Fun Tryz.prog 33 Tryz.f33 := ⟨Tryz.func33, enters_of Tryz.func33 (by kernel_rfl) rfl⟩
instance fun34 : Fun Tryz.prog 34 Tryz.f34 := ⟨Tryz.func34, enters_of Tryz.func34 (by kernel_rfl) rfl⟩
instance fun35 : Fun Tryz.prog 35 Tryz.f35 := ⟨Tryz.func35, enters_of Tryz.func35 (by kernel_rfl) rfl⟩
instance fun36 : Fun Tryz.prog 36 Tryz.f36 := ⟨Tryz.func36, enters_of Tryz.func36 (by kernel_rfl) rfl⟩
instance fun37 : Fun Tryz.prog 37 Tryz.f37 := ⟨Tryz.func37, enters_of Tryz.func37 (by kernel_rfl) rfl⟩
instance fun38 : Fun Tryz.prog 38 Tryz.f38 := ⟨Tryz.func38, enters_of Tryz.func38 (by kernel_rfl) rfl⟩
instance fun39 : Fun Tryz.prog 39 Tryz.f39 := ⟨Tryz.func39, enters_of Tryz.func39 (by kernel_rfl) rfl⟩
instance fun40 : Fun Tryz.prog 40 Tryz.f40 := ⟨Tryz.func40, enters_of Tryz.func40 (by kernel_rfl) rfl⟩
instance fun41 : Fun Tryz.prog 41 Tryz.f41 := ⟨Tryz.func41, enters_of Tryz.func41 (by kernel_rfl) rfl⟩
instance fun42 : Fun Tryz.prog 42 Tryz.f42 := ⟨Tryz.func42, enters_of Tryz.func42 (by kernel_rfl) rfl⟩
instance fun43 : Fun Tryz.prog 43 Tryz.f43 := ⟨Tryz.func43, enters_of Tryz.func43 (by kernel_rfl) rfl⟩
instance fun44 : Fun Tryz.prog 44 Tryz.f44 := ⟨Tryz.func44, enters_of Tryz.func44 (by kernel_rfl) rfl⟩
instance fun45 : Fun Tryz.prog 45 Tryz.f45 := ⟨Tryz.func45, enters_of Tryz.func45 (by kernel_rfl) rfl⟩
instance fun46 : Fun Tryz.prog 46 Tryz.f46 := ⟨Tryz.func46, enters_of Tryz.func46 (by kernel_rfl) rfl⟩
instance fun47 : Fun Tryz.prog 47 Tryz.f47 := ⟨Tryz.func47, enters_of Tryz.func47 (by kernel_rfl) rfl⟩
instance fun48 : Fun Tryz.prog 48 Tryz.f48 := ⟨Tryz.func48, enters_of Tryz.func48 (by kernel_rfl) rfl⟩
instance fun49 : Fun Tryz.prog 49 Tryz.f49 := ⟨Tryz.func49, enters_of Tryz.func49 (by kernel_rfl) rfl⟩
instance fun50 : Fun Tryz.prog 50 Tryz.f50 := ⟨Tryz.func50, enters_of Tryz.func50 (by kernel_rfl) rfl⟩
instance fun51 : Fun Tryz.prog 51 Tryz.f51 := ⟨Tryz.func51, enters_of Tryz.func51 (by kernel_rfl) rfl⟩
instance fun52 : Fun Tryz.prog 52 Tryz.f52 := ⟨Tryz.func52, enters_of Tryz.func52 (by kernel_rfl) rfl⟩
instance fun53 : Fun Tryz.prog 53 Tryz.f53 := ⟨Tryz.func53, enters_of Tryz.func53 (by kernel_rfl) rfl⟩
instance fun54 : Fun Tryz.prog 54 Tryz.f54 := ⟨Tryz.func54, enters_of Tryz.func54 (by kernel_rfl) rfl⟩
instance fun55 : Fun Tryz.prog 55 Tryz.f55 := ⟨Tryz.func55, enters_of Tryz.func55 (by kernel_rfl) rfl⟩
instance fun56 : Fun Tryz.prog 56 Tryz.f56 := ⟨Tryz.func56, enters_of Tryz.func56 (by kernel_rfl) rfl⟩
instance fun57 : Fun Tryz.prog 57 Tryz.f57 := ⟨Tryz.func57, enters_of Tryz.func57 (by kernel_rfl) rfl⟩
instance fun58 : Fun Tryz.prog 58 Tryz.f58 := ⟨Tryz.func58, enters_of Tryz.func58 (by kernel_rfl) rfl⟩
instance fun59 : Fun Tryz.prog 59 Tryz.f59 := ⟨Tryz.func59, enters_of Tryz.func59 (by kernel_rfl) rfl⟩
instance fun60 : Fun Tryz.prog 60 Tryz.f60 := ⟨Tryz.func60, enters_of Tryz.func60 (by kernel_rfl) rfl⟩
instance fun61 : Fun Tryz.prog 61 Tryz.f61 := ⟨Tryz.func61, enters_of Tryz.func61 (by kernel_rfl) rfl⟩
instance fun62 : Fun Tryz.prog 62 Tryz.f62 := ⟨Tryz.func62, enters_of Tryz.func62 (by kernel_rfl) rfl⟩
instance fun63 : Fun Tryz.prog 63 Tryz.f63 := ⟨Tryz.func63, enters_of Tryz.func63 (by kernel_rfl) rfl⟩
instance fun64 : Fun Tryz.prog 64 Tryz.f64 := ⟨Tryz.func64, enters_of Tryz.func64 (by kernel_rfl) rfl⟩
instance fun65 : Fun Tryz.prog 65 Tryz.f65 := ⟨Tryz.func65, enters_of Tryz.func65 (by kernel_rfl) rfl⟩
instance fun66 : Fun Tryz.prog 66 Tryz.f66 := ⟨Tryz.func66, enters_of Tryz.func66 (by kernel_rfl) rfl⟩
instance fun67 : Fun Tryz.prog 67 Tryz.f67 := ⟨Tryz.func67, enters_of Tryz.func67 (by kernel_rfl) rfl⟩
instance fun68 : Fun Tryz.prog 68 Tryz.f68 := ⟨Tryz.func68, enters_of Tryz.func68 (by kernel_rfl) rfl⟩
instance fun69 : Fun Tryz.prog 69 Tryz.f69 := ⟨Tryz.func69, enters_of Tryz.func69 (by kernel_rfl) rfl⟩
instance fun70 : Fun Tryz.prog 70 Tryz.f70 := ⟨Tryz.func70, enters_of Tryz.func70 (by kernel_rfl) rfl⟩
instance fun71 : Fun Tryz.prog 71 Tryz.f71 := ⟨Tryz.func71, enters_of Tryz.func71 (by kernel_rfl) rfl⟩
instance fun72 : Fun Tryz.prog 72 Tryz.f72 := ⟨Tryz.func72, enters_of Tryz.func72 (by kernel_rfl) rfl⟩
instance fun73 : Fun Tryz.prog 73 Tryz.f73 := ⟨Tryz.func73, enters_of Tryz.func73 (by kernel_rfl) rfl⟩
instance fun74 : Fun Tryz.prog 74 Tryz.f74 := ⟨Tryz.func74, enters_of Tryz.func74 (by kernel_rfl) rfl⟩
instance fun75 : Fun Tryz.prog 75 Tryz.f75 := ⟨Tryz.func75, enters_of Tryz.func75 (by kernel_rfl) rfl⟩
instance fun76 : Fun Tryz.prog 76 Tryz.f76 := ⟨Tryz.func76, enters_of Tryz.func76 (by kernel_rfl) rfl⟩
instance fun77 : Fun Tryz.prog 77 Tryz.f77 := ⟨Tryz.func77, enters_of Tryz.func77 (by kernel_rfl) rfl⟩
instance fun78 : Fun Tryz.prog 78 Tryz.f78 := ⟨Tryz.func78, enters_of Tryz.func78 (by kernel_rfl) rfl⟩
instance fun79 : Fun Tryz.prog 79 Tryz.f79 := ⟨Tryz.func79, enters_of Tryz.func79 (by kernel_rfl) rfl⟩
instance fun80 : Fun Tryz.prog 80 Tryz.f80 := ⟨Tryz.func80, enters_of Tryz.func80 (by kernel_rfl) rfl⟩
instance fun81 : Fun Tryz.prog 81 Tryz.f81 := ⟨Tryz.func81, enters_of Tryz.func81 (by kernel_rfl) rfl⟩
instance fun82 : Fun Tryz.prog 82 Tryz.f82 := ⟨Tryz.func82, enters_of Tryz.func82 (by kernel_rfl) rfl⟩
instance fun83 : Fun Tryz.prog 83 Tryz.f83 := ⟨Tryz.func83, enters_of Tryz.func83 (by kernel_rfl) rfl⟩
instance fun84 : Fun Tryz.prog 84 Tryz.f84 := ⟨Tryz.func84, enters_of Tryz.func84 (by kernel_rfl) rfl⟩
instance fun85 : Fun Tryz.prog 85 Tryz.f85 := ⟨Tryz.func85, enters_of Tryz.func85 (by kernel_rfl) rfl⟩
instance fun86 : Fun Tryz.prog 86 Tryz.f86 := ⟨Tryz.func86, enters_of Tryz.func86 (by kernel_rfl) rfl⟩
instance fun87 : Fun Tryz.prog 87 Tryz.f87 := ⟨Tryz.func87, enters_of Tryz.func87 (by kernel_rfl) rfl⟩
instance fun88 : Fun Tryz.prog 88 Tryz.f88 := ⟨Tryz.func88, enters_of Tryz.func88 (by kernel_rfl) rfl⟩
instance fun89 : Fun Tryz.prog 89 Tryz.f89 := ⟨Tryz.func89, enters_of Tryz.func89 (by kernel_rfl) rfl⟩
instance fun90 : Fun Tryz.prog 90 Tryz.f90 := ⟨Tryz.func90, enters_of Tryz.func90 (by kernel_rfl) rfl⟩
instance fun91 : Fun Tryz.prog 91 Tryz.f91 := ⟨Tryz.func91, enters_of Tryz.func91 (by kernel_rfl) rfl⟩
instance fun92 : Fun Tryz.prog 92 Tryz.f92 := ⟨Tryz.func92, enters_of Tryz.func92 (by kernel_rfl) rfl⟩
instance fun93 : Fun Tryz.prog 93 Tryz.f93 := ⟨Tryz.func93, enters_of Tryz.func93 (by kernel_rfl) rfl⟩
instance fun94 : Fun Tryz.prog 94 Tryz.f94 := ⟨Tryz.func94, enters_of Tryz.func94 (by kernel_rfl) rfl⟩
instance fun95 : Fun Tryz.prog 95 Tryz.f95 := ⟨Tryz.func95, enters_of Tryz.func95 (by kernel_rfl) rfl⟩
instance fun96 : Fun Tryz.prog 96 Tryz.f96 := ⟨Tryz.func96, enters_of Tryz.func96 (by kernel_rfl) rfl⟩
instance fun97 : Fun Tryz.prog 97 Tryz.f97 := ⟨Tryz.func97, enters_of Tryz.func97 (by kernel_rfl) rfl⟩
instance fun98 : Fun Tryz.prog 98 Tryz.f98 := ⟨Tryz.func98, enters_of Tryz.func98 (by kernel_rfl) rfl⟩
instance fun99 : Fun Tryz.prog 99 Tryz.f99 := ⟨Tryz.func99, enters_of Tryz.func99 (by kernel_rfl) rfl⟩
instance fun100 : Fun Tryz.prog 100 Tryz.f100 := ⟨Tryz.func100, enters_of Tryz.func100 (by kernel_rfl) rfl⟩
instance fun101 : Fun Tryz.prog 101 Tryz.f101 := ⟨Tryz.func101, enters_of Tryz.func101 (by kernel_rfl) rfl⟩
instance fun102 : Fun Tryz.prog 102 Tryz.f102 := ⟨Tryz.func102, enters_of Tryz.func102 (by kernel_rfl) rfl⟩
instance fun103 : Fun Tryz.prog 103 Tryz.f103 := ⟨Tryz.func103, enters_of Tryz.func103 (by kernel_rfl) rfl⟩
instance fun104 : Fun Tryz.prog 104 Tryz.f104 := ⟨Tryz.func104, enters_of Tryz.func104 (by kernel_rfl) rfl⟩
instance fun105 : Fun Tryz.prog 105 Tryz.f105 := ⟨Tryz.func105, enters_of Tryz.func105 (by kernel_rfl) rfl⟩
instance fun106 : Fun Tryz.prog 106 Tryz.f106 := ⟨Tryz.func106, enters_of Tryz.func106 (by kernel_rfl) rfl⟩
instance fun107 : Fun Tryz.prog 107 Tryz.f107 := ⟨Tryz.func107, enters_of Tryz.func107 (by kernel_rfl) rfl⟩
instance fun108 : Fun Tryz.prog 108 Tryz.f108 := ⟨Tryz.func108, enters_of Tryz.func108 (by kernel_rfl) rfl⟩
instance fun109 : Fun Tryz.prog 109 Tryz.f109 := ⟨Tryz.func109, enters_of Tryz.func109 (by kernel_rfl) rfl⟩
instance fun110 : Fun Tryz.prog 110 Tryz.f110 := ⟨Tryz.func110, enters_of Tryz.func110 (by kernel_rfl) rfl⟩
instance fun111 : Fun Tryz.prog 111 Tryz.f111 := ⟨Tryz.func111, enters_of Tryz.func111 (by kernel_rfl) rfl⟩
instance fun112 : Fun Tryz.prog 112 Tryz.f112 := ⟨Tryz.func112, enters_of Tryz.func112 (by kernel_rfl) rfl⟩
instance fun113 : Fun Tryz.prog 113 Tryz.f113 := ⟨Tryz.func113, enters_of Tryz.func113 (by kernel_rfl) rfl⟩
instance fun114 : Fun Tryz.prog 114 Tryz.f114 := ⟨Tryz.func114, enters_of Tryz.func114 (by kernel_rfl) rfl⟩
instance fun115 : Fun Tryz.prog 115 Tryz.f115 := ⟨Tryz.func115, enters_of Tryz.func115 (by kernel_rfl) rfl⟩
instance fun116 : Fun Tryz.prog 116 Tryz.f116 := ⟨Tryz.func116, enters_of Tryz.func116 (by kernel_rfl) rfl⟩
instance fun117 : Fun Tryz.prog 117 Tryz.f117 := ⟨Tryz.func117, enters_of Tryz.func117 (by kernel_rfl) rfl⟩
instance fun118 : Fun Tryz.prog 118 Tryz.f118 := ⟨Tryz.func118, enters_of Tryz.func118 (by kernel_rfl) rfl⟩
instance fun119 : Fun Tryz.prog 119 Tryz.f119 := ⟨Tryz.func119, enters_of Tryz.func119 (by kernel_rfl) rfl⟩
instance fun120 : Fun Tryz.prog 120 Tryz.f120 := ⟨Tryz.func120, enters_of Tryz.func120 (by kernel_rfl) rfl⟩
instance fun121 : Fun Tryz.prog 121 Tryz.f121 := ⟨Tryz.func121, enters_of Tryz.func121 (by kernel_rfl) rfl⟩
instance fun122 : Fun Tryz.prog 122 Tryz.f122 := ⟨Tryz.func122, enters_of Tryz.func122 (by kernel_rfl) rfl⟩
instance fun123 : Fun Tryz.prog 123 Tryz.f123 := ⟨Tryz.func123, enters_of Tryz.func123 (by kernel_rfl) rfl⟩
instance fun124 : Fun Tryz.prog 124 Tryz.f124 := ⟨Tryz.func124, enters_of Tryz.func124 (by kernel_rfl) rfl⟩
instance fun125 : Fun Tryz.prog 125 Tryz.f125 := ⟨Tryz.func125, enters_of Tryz.func125 (by kernel_rfl) rfl⟩
instance fun126 : Fun Tryz.prog 126 Tryz.f126 := ⟨Tryz.func126, enters_of Tryz.func126 (by kernel_rfl) rfl⟩
instance fun127 : Fun Tryz.prog 127 Tryz.f127 := ⟨Tryz.func127, enters_of Tryz.func127 (by kernel_rfl) rfl⟩
instance fun128 : Fun Tryz.prog 128 Tryz.f128 := ⟨Tryz.func128, enters_of Tryz.func128 (by kernel_rfl) rfl⟩
instance fun130 : Fun Tryz.prog 130 Tryz.f130 := ⟨Tryz.func130, enters_of Tryz.func130 (by kernel_rfl) rfl⟩
instance fun131 : Fun Tryz.prog 131 Tryz.f131 := ⟨Tryz.func131, enters_of Tryz.func131 (by kernel_rfl) rfl⟩
instance fun132 : Fun Tryz.prog 132 Tryz.f132 := ⟨Tryz.func132, enters_of Tryz.func132 (by kernel_rfl) rfl⟩
instance fun133 : Fun Tryz.prog 133 Tryz.f133 := ⟨Tryz.func133, enters_of Tryz.func133 (by kernel_rfl) rfl⟩
instance fun134 : Fun Tryz.prog 134 Tryz.f134 := ⟨Tryz.func134, enters_of Tryz.func134 (by kernel_rfl) rfl⟩
instance fun135 : Fun Tryz.prog 135 Tryz.f135 := ⟨Tryz.func135, enters_of Tryz.func135 (by kernel_rfl) rfl⟩
instance fun136 : Fun Tryz.prog 136 Tryz.f136 := ⟨Tryz.func136, enters_of Tryz.func136 (by kernel_rfl) rfl⟩
instance fun137 : Fun Tryz.prog 137 Tryz.f137 := ⟨Tryz.func137, enters_of Tryz.func137 (by kernel_rfl) rfl⟩
instance fun138 : Fun Tryz.prog 138 Tryz.f138 := ⟨Tryz.func138, enters_of Tryz.func138 (by kernel_rfl) rfl⟩
instance fun139 : Fun Tryz.prog 139 Tryz.f139 := ⟨Tryz.func139, enters_of Tryz.func139 (by kernel_rfl) rfl⟩
instance fun140 : Fun Tryz.prog 140 Tryz.f140 := ⟨Tryz.func140, enters_of Tryz.func140 (by kernel_rfl) rfl⟩
instance fun141 : Fun Tryz.prog 141 Tryz.f141 := ⟨Tryz.func141, enters_of Tryz.func141 (by kernel_rfl) rfl⟩
instance fun142 : Fun Tryz.prog 142 Tryz.f142 := ⟨Tryz.func142, enters_of Tryz.func142 (by kernel_rfl) rfl⟩
instance fun143 : Fun Tryz.prog 143 Tryz.f143 := ⟨Tryz.func143, enters_of Tryz.func143 (by kernel_rfl) rfl⟩
instance fun144 : Fun Tryz.prog 144 Tryz.f144 := ⟨Tryz.func144, enters_of Tryz.func144 (by kernel_rfl) rfl⟩
instance fun145 : Fun Tryz.prog 145 Tryz.f145 := ⟨Tryz.func145, enters_of Tryz.func145 (by kernel_rfl) rfl⟩
instance fun146 : Fun Tryz.prog 146 Tryz.f146 := ⟨Tryz.func146, enters_of Tryz.func146 (by kernel_rfl) rfl⟩
instance fun147 : Fun Tryz.prog 147 Tryz.f147 := ⟨Tryz.func147, enters_of Tryz.func147 (by kernel_rfl) rfl⟩
instance fun148 : Fun Tryz.prog 148 Tryz.f148 := ⟨Tryz.func148, enters_of Tryz.func148 (by kernel_rfl) rfl⟩
instance fun149 : Fun Tryz.prog 149 Tryz.f149 := ⟨Tryz.func149, enters_of Tryz.func149 (by kernel_rfl) rfl⟩
instance fun150 : Fun Tryz.prog 150 Tryz.f150 := ⟨Tryz.func150, enters_of Tryz.func150 (by kernel_rfl) rfl⟩
instance fun151 : Fun Tryz.prog 151 Tryz.f151 := ⟨Tryz.func151, enters_of Tryz.func151 (by kernel_rfl) rfl⟩
instance fun152 : Fun Tryz.prog 152 Tryz.f152 := ⟨Tryz.func152, enters_of Tryz.func152 (by kernel_rfl) rfl⟩
instance fun153 : Fun Tryz.prog 153 Tryz.f153 := ⟨Tryz.func153, enters_of Tryz.func153 (by kernel_rfl) rfl⟩
instance fun154 : Fun Tryz.prog 154 Tryz.f154 := ⟨Tryz.func154, enters_of Tryz.func154 (by kernel_rfl) rfl⟩
instance fun155 : Fun Tryz.prog 155 Tryz.f155 := ⟨Tryz.func155, enters_of Tryz.func155 (by kernel_rfl) rfl⟩
instance fun156 : Fun Tryz.prog 156 Tryz.f156 := ⟨Tryz.func156, enters_of Tryz.func156 (by kernel_rfl) rfl⟩
instance fun157 : Fun Tryz.prog 157 Tryz.f157 := ⟨Tryz.func157, enters_of Tryz.func157 (by kernel_rfl) rfl⟩
instance fun158 : Fun Tryz.prog 158 Tryz.f158 := ⟨Tryz.func158, enters_of Tryz.func158 (by kernel_rfl) rfl⟩
instance fun159 : Fun Tryz.prog 159 Tryz.f159 := ⟨Tryz.func159, enters_of Tryz.func159 (by kernel_rfl) rfl⟩
instance fun160 : Fun Tryz.prog 160 Tryz.f160 := ⟨Tryz.func160, enters_of Tryz.func160 (by kernel_rfl) rfl⟩
instance fun161 : Fun Tryz.prog 161 Tryz.f161 := ⟨Tryz.func161, enters_of Tryz.func161 (by kernel_rfl) rfl⟩
instance fun162 : Fun Tryz.prog 162 Tryz.f162 := ⟨Tryz.func162, enters_of Tryz.func162 (by kernel_rfl) rfl⟩
instance fun163 : Fun Tryz.prog 163 Tryz.f163 := ⟨Tryz.func163, enters_of Tryz.func163 (by kernel_rfl) rfl⟩
instance fun164 : Fun Tryz.prog 164 Tryz.f164 := ⟨Tryz.func164, enters_of Tryz.func164 (by kernel_rfl) rfl⟩
instance fun165 : Fun Tryz.prog 165 Tryz.f165 := ⟨Tryz.func165, enters_of Tryz.func165 (by kernel_rfl) rfl⟩
instance fun166 : Fun Tryz.prog 166 Tryz.f166 := ⟨Tryz.func166, enters_of Tryz.func166 (by kernel_rfl) rfl⟩
instance fun167 : Fun Tryz.prog 167 Tryz.f167 := ⟨Tryz.func167, enters_of Tryz.func167 (by kernel_rfl) rfl⟩
instance fun168 : Fun Tryz.prog 168 Tryz.f168 := ⟨Tryz.func168, enters_of Tryz.func168 (by kernel_rfl) rfl⟩
instance fun169 : Fun Tryz.prog 169 Tryz.f169 := ⟨Tryz.func169, enters_of Tryz.func169 (by kernel_rfl) rfl⟩
instance fun170 : Fun Tryz.prog 170 Tryz.f170 := ⟨Tryz.func170, enters_of Tryz.func170 (by kernel_rfl) rfl⟩
instance fun171 : Fun Tryz.prog 171 Tryz.f171 := ⟨Tryz.func171, enters_of Tryz.func171 (by kernel_rfl) rfl⟩
instance fun172 : Fun Tryz.prog 172 Tryz.f172 := ⟨Tryz.func172, enters_of Tryz.func172 (by kernel_rfl) rfl⟩
instance fun173 : Fun Tryz.prog 173 Tryz.f173 := ⟨Tryz.func173, enters_of Tryz.func173 (by kernel_rfl) rfl⟩
instance fun174 : Fun Tryz.prog 174 Tryz.f174 := ⟨Tryz.func174, enters_of Tryz.func174 (by kernel_rfl) rfl⟩
instance fun175 : Fun Tryz.prog 175 Tryz.f175 := ⟨Tryz.func175, enters_of Tryz.func175 (by kernel_rfl) rfl⟩
instance fun176 : Fun Tryz.prog 176 Tryz.f176 := ⟨Tryz.func176, enters_of Tryz.func176 (by kernel_rfl) rfl⟩
instance fun177 : Fun Tryz.prog 177 Tryz.f177 := ⟨Tryz.func177, enters_of Tryz.func177 (by kernel_rfl) rfl⟩
instance fun178 : Fun Tryz.prog 178 Tryz.f178 := ⟨Tryz.func178, enters_of Tryz.func178 (by kernel_rfl) rfl⟩
instance fun179 : Fun Tryz.prog 179 Tryz.f179 := ⟨Tryz.func179, enters_of Tryz.func179 (by kernel_rfl) rfl⟩
instance fun180 : Fun Tryz.prog 180 Tryz.f180 := ⟨Tryz.func180, enters_of Tryz.func180 (by kernel_rfl) rfl⟩
instance fun181 : Fun Tryz.prog 181 Tryz.f181 := ⟨Tryz.func181, enters_of Tryz.func181 (by kernel_rfl) rfl⟩
instance fun182 : Fun Tryz.prog 182 Tryz.f182 := ⟨Tryz.func182, enters_of Tryz.func182 (by kernel_rfl) rfl⟩
instance fun183 : Fun Tryz.prog 183 Tryz.f183 := ⟨Tryz.func183, enters_of Tryz.func183 (by kernel_rfl) rfl⟩
instance fun184 : Fun Tryz.prog 184 Tryz.f184 := ⟨Tryz.func184, enters_of Tryz.func184 (by kernel_rfl) rfl⟩
instance fun185 : Fun Tryz.prog 185 Tryz.f185 := ⟨Tryz.func185, enters_of Tryz.func185 (by kernel_rfl) rfl⟩
instance fun186 : Fun Tryz.prog 186 Tryz.f186 := ⟨Tryz.func186, enters_of Tryz.func186 (by kernel_rfl) rfl⟩
instance fun187 : Fun Tryz.prog 187 Tryz.f187 := ⟨Tryz.func187, enters_of Tryz.func187 (by kernel_rfl) rfl⟩
instance fun188 : Fun Tryz.prog 188 Tryz.f188 := ⟨Tryz.func188, enters_of Tryz.func188 (by kernel_rfl) rfl⟩
instance fun189 : Fun Tryz.prog 189 Tryz.f189 := ⟨Tryz.func189, enters_of Tryz.func189 (by kernel_rfl) rfl⟩
instance fun190 : Fun Tryz.prog 190 Tryz.f190 := ⟨Tryz.func190, enters_of Tryz.func190 (by kernel_rfl) rfl⟩
instance fun191 : Fun Tryz.prog 191 Tryz.f191 := ⟨Tryz.func191, enters_of Tryz.func191 (by kernel_rfl) rfl⟩
instance fun193 : Fun Tryz.prog 193 Tryz.f193 := ⟨Tryz.func193, enters_of Tryz.func193 (by kernel_rfl) rfl⟩
instance fun194 : Fun Tryz.prog 194 Tryz.f194 := ⟨Tryz.func194, enters_of Tryz.func194 (by kernel_rfl) rfl⟩
instance fun195 : Fun Tryz.prog 195 Tryz.f195 := ⟨Tryz.func195, enters_of Tryz.func195 (by kernel_rfl) rfl⟩
instance fun196 : Fun Tryz.prog 196 Tryz.f196 := ⟨Tryz.func196, enters_of Tryz.func196 (by kernel_rfl) rfl⟩
instance fun197 : Fun Tryz.prog 197 Tryz.f197 := ⟨Tryz.func197, enters_of Tryz.func197 (by kernel_rfl) rfl⟩
instance fun198 : Fun Tryz.prog 198 Tryz.f198 := ⟨Tryz.func198, enters_of Tryz.func198 (by kernel_rfl) rfl⟩
instance fun199 : Fun Tryz.prog 199 Tryz.f199 := ⟨Tryz.func199, enters_of Tryz.func199 (by kernel_rfl) rfl⟩
instance fun200 : Fun Tryz.prog 200 Tryz.f200 := ⟨Tryz.func200, enters_of Tryz.func200 (by kernel_rfl) rfl⟩
instance fun201 : Fun Tryz.prog 201 Tryz.f201 := ⟨Tryz.func201, enters_of Tryz.func201 (by kernel_rfl) rfl⟩
instance fun202 : Fun Tryz.prog 202 Tryz.f202 := ⟨Tryz.func202, enters_of Tryz.func202 (by kernel_rfl) rfl⟩
instance fun203 : Fun Tryz.prog 203 Tryz.f203 := ⟨Tryz.func203, enters_of Tryz.func203 (by kernel_rfl) rfl⟩
instance fun204 : Fun Tryz.prog 204 Tryz.f204 := ⟨Tryz.func204, enters_of Tryz.func204 (by kernel_rfl) rfl⟩
instance fun205 : Fun Tryz.prog 205 Tryz.f205 := ⟨Tryz.func205, enters_of Tryz.func205 (by kernel_rfl) rfl⟩
instance fun206 : Fun Tryz.prog 206 Tryz.f206 := ⟨Tryz.func206, enters_of Tryz.func206 (by kernel_rfl) rfl⟩
instance fun208 : Fun Tryz.prog 208 Tryz.f208 := ⟨Tryz.func208, enters_of Tryz.func208 (by kernel_rfl) rfl⟩
instance fun209 : Fun Tryz.prog 209 Tryz.f209 := ⟨Tryz.func209, enters_of Tryz.func209 (by kernel_rfl) rfl⟩
instance fun211 : Fun Tryz.prog 211 Tryz.f211 := ⟨Tryz.func211, enters_of Tryz.func211 (by kernel_rfl) rfl⟩
instance fun212 : Fun Tryz.prog 212 Tryz.f212 := ⟨Tryz.func212, enters_of Tryz.func212 (by kernel_rfl) rfl⟩
instance fun213 : Fun Tryz.prog 213 Tryz.f213 := ⟨Tryz.func213, enters_of Tryz.func213 (by kernel_rfl) rfl⟩
instance fun214 : Fun Tryz.prog 214 Tryz.f214 := ⟨Tryz.func214, enters_of Tryz.func214 (by kernel_rfl) rfl⟩
instance fun215 : Fun Tryz.prog 215 Tryz.f215 := ⟨Tryz.func215, enters_of Tryz.func215 (by kernel_rfl) rfl⟩
instance fun216 : Fun Tryz.prog 216 Tryz.f216 := ⟨Tryz.func216, enters_of Tryz.func216 (by kernel_rfl) rfl⟩
instance fun217 : Fun Tryz.prog 217 Tryz.f217 := ⟨Tryz.func217, enters_of Tryz.func217 (by kernel_rfl) rfl⟩
instance fun218 : Fun Tryz.prog 218 Tryz.f218 := ⟨Tryz.func218, enters_of Tryz.func218 (by kernel_rfl) rfl⟩
instance fun219 : Fun Tryz.prog 219 Tryz.f219 := ⟨Tryz.func219, enters_of Tryz.func219 (by kernel_rfl) rfl⟩
instance fun220 : Fun Tryz.prog 220 Tryz.f220 := ⟨Tryz.func220, enters_of Tryz.func220 (by kernel_rfl) rfl⟩
instance fun221 : Fun Tryz.prog 221 Tryz.f221 := ⟨Tryz.func221, enters_of Tryz.func221 (by kernel_rfl) rfl⟩
instance fun222 : Fun Tryz.prog 222 Tryz.f222 := ⟨Tryz.func222, enters_of Tryz.func222 (by kernel_rfl) rfl⟩
instance fun223 : Fun Tryz.prog 223 Tryz.f223 := ⟨Tryz.func223, enters_of Tryz.func223 (by kernel_rfl) rfl⟩
instance fun224 : Fun Tryz.prog 224 Tryz.f224 := ⟨Tryz.func224, enters_of Tryz.func224 (by kernel_rfl) rfl⟩
instance fun225 : Fun Tryz.prog 225 Tryz.f225 := ⟨Tryz.func225, enters_of Tryz.func225 (by kernel_rfl) rfl⟩
instance fun226 : Fun Tryz.prog 226 Tryz.f226 := ⟨Tryz.func226, enters_of Tryz.func226 (by kernel_rfl) rfl⟩
instance fun227 : Fun Tryz.prog 227 Tryz.f227 := ⟨Tryz.func227, enters_of Tryz.func227 (by kernel_rfl) rfl⟩
instance fun228 : Fun Tryz.prog 228 Tryz.f228 := ⟨Tryz.func228, enters_of Tryz.func228 (by kernel_rfl) rfl⟩
instance fun229 : Fun Tryz.prog 229 Tryz.f229 := ⟨Tryz.func229, enters_of Tryz.func229 (by kernel_rfl) rfl⟩
instance fun230 : Fun Tryz.prog 230 Tryz.f230 := ⟨Tryz.func230, enters_of Tryz.func230 (by kernel_rfl) rfl⟩
instance fun231 : Fun Tryz.prog 231 Tryz.f231 := ⟨Tryz.func231, enters_of Tryz.func231 (by kernel_rfl) rfl⟩
instance fun232 : Fun Tryz.prog 232 Tryz.f232 := ⟨Tryz.func232, enters_of Tryz.func232 (by kernel_rfl) rfl⟩
instance fun267 : Fun Tryz.prog 267 Tryz.f267 := ⟨Tryz.func267, enters_of Tryz.func267 (by kernel_rfl) rfl⟩
end Go.Proofs.YtgpibcgebpgmiaaGreatDoor


namespace Go.Proofs.YtgpibcgebpgmiaaGreatDoor
open Go Go.Eng Go.RowKit
set_option linter.unusedVariables false

/-- the cells of a node -/
abbrev ndC (x : Nd) (kv : Value) : List Value := [.int .i64 x.kind, .int .i64 x.num, str x.word, kv]
theorem ndC_one {X : List Nat} {w : World} {x : Nd} {kv : Value} {l : List Nd} (h : SlV X w kv l) : ∀ c ∈ ndC x kv, c.oneCell' = true := by
  intro c hc
  simp only [ndC, List.mem_cons, List.not_mem_nil, or_false] at hc
  rcases hc with rfl | rfl | rfl | rfl
  · rfl
  · rfl
  · rfl
  · exact h.one

def nestedN : Nat → Nd → Bool
  | 0, _ => false
  | m + 1, x => x.kids.all (nestedN m)
theorem all_take_succ {α : Type} (p : α → Bool) (l : List α) (k : Nat) (hk : k < l.length) : (l.take (k + 1)).all p = ((l.take k).all p && p l[k]) := by
  rw [List.take_succ_eq_append_getElem hk, List.all_append]
  simp
theorem nested_any (m : Nat) : ∀ (X : List Nat) (v : Value) (x : Nd) (z : Int) (w : World), z = (m : Int) → m ≤ 1000 → NdV X w v x →
    Calls Tryz.prog 55 #[v, .int .i64 z] w (Ret fun r w' => r = .bool (nestedN m x) ∧ Stp [] w w') := by
  induction m with
  | zero =>
    intro X v x z w hz hm hx
    obtain ⟨kv, rfl, hs⟩ := hx
    refine calls_of_WC2 (n := 22) Tryz.func55 rfl rfl rfl ?_
    refine W ?_
    refine WL_eff (OE_box rfl) rfl ?_
    rintro _ w1 ⟨b, rfl, hb, hblk, hS⟩
    repeat' (first | refine W1 ?_ | (exfalso; omega) | refine WL_split rfl rfl (fun hg => ?_) (fun hg => ?_) | refine WL_splitB rfl rfl (fun hg => ?_) (fun hg => ?_) | refine WC_cond rfl (fun hc => ?_) (fun hc => ?_) | refine WC_condB rfl (fun hc => ?_) (fun hc => ?_))
    first | refine WQ_ret1 rfl rfl ?_ | refine WQ_ret2 rfl rfl rfl ?_ | refine WQ_ret3 rfl rfl rfl rfl ?_ | refine WQ_ret0 rfl ?_ | refine WQ_end0 rfl ?_
    exact .mk ⟨rfl, hS⟩
  | succ m ih =>
    intro X v x z w hz hm hx
    obtain ⟨kv, rfl, hs⟩ := hx
    have hmax := hs.max
    refine calls_of_WC2 (n := 22) Tryz.func55 rfl rfl rfl ?_
    refine W ?_
    refine WL_eff (OE_box rfl) rfl ?_
    rintro _ w1 ⟨b, rfl, hb, hblk, hS⟩
    replace hblk : Blk w1 b _ (ndC x kv) := hblk
    replace hs := hs.up hS
    repeat' (first | refine W1 ?_ | (exfalso; omega) | refine WL_split rfl rfl (fun hg => ?_) (fun hg => ?_) | refine WL_splitB rfl rfl (fun hg => ?_) (fun hg => ?_) | refine WC_cond rfl (fun hc => ?_) (fun hc => ?_) | refine WC_condB rfl (fun hc => ?_) (fun hc => ?_))
    have hs0 := hs
    refine WC_loop (σ := Nat) (fun k => [(1, .int .i64 z), (10, kv), (11, .int .i64 (x.kids.length : Int)), (12, .int .i64 k)]) (fun k w' => k ≤ x.kids.length ∧ Stp [] w1 w' ∧ (x.kids.take k).all (nestedN m) = true) (fun k => x.kids.length - k) 0 ⟨rfl, rfl, rfl, rfl, trivial⟩ ⟨Nat.zero_le _, Stp.refl _ _, rfl⟩ ?_
    clear hs
    rintro k w2 ⟨hk, hS2, hall⟩
    have hs := hs0.up hS2
    by_cases hlt : k < x.kids.length
    · have hnx := all_take_succ (nestedN m) x.kids k hlt
      rw [hall, Bool.true_and] at hnx
      obtain ⟨kv2, hs2, hc2⟩ := hs.nd hlt
      repeat' (first | refine W1 ?_ | (exfalso; omega) | refine WL_split rfl rfl (fun hg => ?_) (fun hg => ?_) | refine WL_splitB rfl rfl (fun hg => ?_) (fun hg => ?_) | refine WC_cond rfl (fun hc => ?_) (fun hc => ?_) | refine WC_condB rfl (fun hc => ?_) (fun hc => ?_))
      apply WL_pure (PR_loadNd rfl rfl hs hlt hc2) rfl
      refine WL_eff OE_alloc rfl ?_
      rintro _ w3 ⟨b3, rfl, hb3, hblk3, hS3⟩
      refine WL_eff0 (OE_storeA (us := ndC x.kids[k] kv2) rfl rfl rfl rfl (ndC_one hs2) hblk3 rfl) ?_
      rintro _ w4 ⟨hS4, hblk4⟩
      have hS34 := hS3.own hS4 (fun b hb => .inr (by simp at hb; omega))
      replace hS2 := hS2.trans hS34
      replace hs2 := hs2.up hS34
      refine W ?_
      refine WL_eff (OE_call rfl (evs2 rfl rfl) (ih X _ x.kids[k] _ _ (by omega) (by omega) ⟨kv2, rfl, hs2⟩)) rfl ?_
      rintro _ w5 ⟨rfl, hS5⟩
      replace hS2 := hS2.trans hS5
      cases hq : nestedN m x.kids[k] with
      | true =>
        refine W ?_
        exact WQ_loop (k + 1) ⟨rfl, rfl, rfl, rfl, trivial⟩ ⟨hlt, hS2, by rw [hnx, hq]⟩ (by omega)
      | false =>
        refine W ?_
        first | refine WQ_ret1 rfl rfl ?_ | refine WQ_ret2 rfl rfl rfl ?_ | refine WQ_ret3 rfl rfl rfl rfl ?_ | refine WQ_ret0 rfl ?_ | refine WQ_end0 rfl ?_
        refine .mk ⟨?_, hS.trans hS2⟩
        have : nestedN (m + 1) x = false := by
          show x.kids.all (nestedN m) = false
          rw [List.all_eq_false]
          exact ⟨_, List.getElem_mem hlt, by simp [hq]⟩
        rw [this]
    · have hke : k = x.kids.length := by omega
      subst hke
      rw [List.take_length] at hall
      repeat' (first | refine W1 ?_ | (exfalso; omega) | refine WL_split rfl rfl (fun hg => ?_) (fun hg => ?_) | refine WL_splitB rfl rfl (fun hg => ?_) (fun hg => ?_) | refine WC_cond rfl (fun hc => ?_) (fun hc => ?_) | refine WC_condB rfl (fun hc => ?_) (fun hc => ?_))
      first | refine WQ_ret1 rfl rfl ?_ | refine WQ_ret2 rfl rfl rfl ?_ | refine WQ_ret3 rfl rfl rfl rfl ?_ | refine WQ_ret0 rfl ?_ | refine WQ_end0 rfl ?_
      refine .mk ⟨?_, hS.trans hS2⟩
      show _ = Value.bool (x.kids.all (nestedN m))
      rw [hall]
end Go.Proofs.YtgpibcgebpgmiaaGreatDoor


/-
The walk engine, part 10: maps.
-/
namespace Go.Eng
open Go Go.RowKit Go.Proofs
set_option linter.unusedVariables false

/-- keys of a map, as data: what the model does with them -/
class MKey (P : Program) (kt : Nat) (κ : outParam Type) [DecidableEq κ] where
  enc : κ → Value
  chk : ∀ (em : Bool) (a : κ) (w : World), (Instr.checkKey em 10000 kt (enc a)).run P w = .ok () w
  find : ∀ (a : κ) (es : List MapEntry) (l : List κ) (w : World), es.map (·.key) = l.map enc →
    (Instr.findKey kt (enc a) es).run P w = .ok ((l.findIdx? (fun b => decide (b = a))).bind fun i => (es[i]?).map fun e => (i, e.val)) w

/-- the map lies at r -/
def MapAt {κ : Type} (enc : κ → Value) (w : World) (r : Nat) (l : List (κ × Value)) : Prop :=
  ∃ (es : Array MapEntry) (clock : Nat), w.heap[r]? = some (.map es clock) ∧ es.toList.map (·.key) = l.map (fun p => enc p.1) ∧ es.toList.map (·.val) = l.map (·.2)
theorem MapAt.lt {κ : Type} {enc : κ → Value} {w : World} {r : Nat} {l : List (κ × Value)} (h : MapAt enc w r l) : r < w.heap.size := by
  obtain ⟨es, c, h1, _⟩ := h
  exact (Array.getElem?_eq_some_iff.1 h1).1
theorem MapAt.ext {κ : Type} {enc : κ → Value} {S : List Nat} {w w' : World} {r : Nat} {l : List (κ × Value)} (h : MapAt enc w r l) (hS : Stp S w w') (hr : r ∉ S) : MapAt enc w' r l := by
  have hlt := h.lt
  obtain ⟨es, c, h1, h2⟩ := h
  exact ⟨es, c, by rw [hS.block r hlt hr]; exact h1, h2⟩
theorem MapAt.up {κ : Type} {enc : κ → Value} {w w' : World} {r : Nat} {l : List (κ × Value)} (h : MapAt enc w r l) (hS : Stp [] w w') : MapAt enc w' r l := h.ext hS (by simp)
/-- the value at a key -/
def mget {κ : Type} [DecidableEq κ] (l : List (κ × Value)) (a : κ) (z : Value) : Value := match l.find? (fun p => decide (p.1 = a)) with | some p => p.2 | none => z

theorem findNow_of {d : TypeDesc} {κ : Type} [DecidableEq κ] (enc : κ → Value) (h : ∀ a b : κ, Instr.sameNow d (enc a) (enc b) = some (decide (a = b))) (a : κ) : ∀ (es : List MapEntry) (l : List κ) (i : Nat), es.map (·.key) = l.map enc →
    Instr.findNow d (enc a) es i = some ((l.findIdx? (fun b => decide (b = a))).bind fun j => (es[j]?).map fun e => (i + j, e.val))
  | [], [], i, _ => by simp [Instr.findNow]
  | [], _ :: _, i, h => by simp at h
  | _ :: _, [], i, h => by simp at h
  | e :: es, b :: l, i, hk => by
    simp only [List.map_cons, List.cons.injEq] at hk
    obtain ⟨h1, h2⟩ := hk
    have ih := findNow_of enc h a es l (i + 1) h2
    simp only [Instr.findNow, h1, h]
    by_cases hab : a = b
    · subst hab
      simp [List.findIdx?_cons]
    · have hba : ¬ b = a := fun h => hab h.symm
      simp only [decide_eq_false hab, ih, List.findIdx?_cons, decide_eq_false hba, Bool.false_eq_true, if_false]
      cases l.findIdx? (fun b => decide (b = a)) with
      | none => rfl
      | some j =>
        simp only [Option.bind_some, Option.map_some, List.getElem?_cons_succ]
        rw [show i + 1 + j = i + (j + 1) by omega]
theorem findAsking_of {P : Program} {kt : Nat} {κ : Type} [DecidableEq κ] (enc : κ → Value) (h : ∀ (a b : κ) (w : World), (Op.equal kt (enc a) (enc b)).run P w = .ok (decide (a = b)) w) (a : κ) (w : World) : ∀ (es : List MapEntry) (l : List κ) (i : Nat), es.map (·.key) = l.map enc →
    (Instr.findAsking kt (enc a) es i).run P w = .ok ((l.findIdx? (fun b => decide (b = a))).bind fun j => (es[j]?).map fun e => (i + j, e.val)) w
  | [], [], i, _ => by simp [Instr.findAsking]
  | [], _ :: _, i, h => by simp at h
  | _ :: _, [], i, h => by simp at h
  | e :: es, b :: l, i, hk => by
    simp only [List.map_cons, List.cons.injEq] at hk
    obtain ⟨h1, h2⟩ := hk
    have ih := findAsking_of enc h a w es l (i + 1) h2
    simp only [Instr.findAsking, h1]
    by_cases hab : a = b
    · subst hab
      simp [List.findIdx?_cons, h]
    · have hba : ¬ b = a := fun h => hab h.symm
      simp only [Sem.run_bind, h, decide_eq_false hab, Result.andThen, List.findIdx?_cons, decide_eq_false hba, Bool.false_eq_true, if_false, ih]
      cases l.findIdx? (fun b => decide (b = a)) with
      | none => rfl
      | some j =>
        simp only [Option.bind_some, Option.map_some, List.getElem?_cons_succ]
        rw [show i + 1 + j = i + (j + 1) by omega]

instance {P : Program} {kt : Nat} [hu : Und P kt (.int .i64)] : MKey P kt Int where
  enc := fun z => .int .i64 z
  chk := fun em a w => MapKept.run_checkKey (k := .int .i64 a) hu.h (by simp [MapKept.IsKey]) em 9999
  find := fun a es l w hk => by
    have := findNow_of (d := .int .i64) (fun z : Int => Value.int .i64 z) (fun a b => by simp [Instr.sameNow, Bool.beq_eq_decide_eq]) a es l 0 hk
    simpa using MapKept.run_findKey (w := w) hu.h this
instance instMKeyStr {P : Program} {kt : Nat} [hu : Und P kt .string] : MKey P kt Str where
  enc := str
  chk := fun em a w => MapKept.run_checkKey (k := str a) hu.h (by simp [MapKept.IsKey]) em 9999
  find := fun a es l w hk => by
    have := findNow_of (d := .string) str (fun a b => by
      simp only [Instr.sameNow, Option.some.injEq]
      rw [beq_toListBytes, str_beq]) a es l 0 hk
    simpa using MapKept.run_findKey (w := w) hu.h this

section
variable {P : Program} {n : Nat} {e : Env} {w : World} {d : Option Nat} {ty : TypeId} {pos : String} {af : Array Edge} {g : Option (Nat × Bool)}

theorem OE_makeMap {t : TypeId} {κ : Type} (enc : κ → Value) : OE P n ⟨d, .makeMap t none, ty, pos, af, g⟩ e w (fun v w' => ∃ r, v = .map (some r) ∧ w.heap.size ≤ r ∧ MapAt enc w' r [] ∧ Stp [] w w') :=
  OE_value (v := .map (some w.heap.size)) (w' := w.alloc (.map #[] 0)) (fun a ha => by
    simp [execOp, run_makeMap]) ⟨_, rfl, Nat.le_refl _, ⟨#[], 0, heap_alloc_new w _, rfl, rfl⟩, Stp.alloc _ _ _⟩

theorem find_fresh {κ : Type} [DecidableEq κ] {l : List κ} {a : κ} (h : ∀ b ∈ l, ¬ b = a) : l.findIdx? (fun b => decide (b = a)) = none := by
  rw [List.findIdx?_eq_none_iff]
  intro b hb
  simp [h b hb]
/-- a new key -/
theorem run_mapAdd {mt kt et r : Nat} {κ : Type} [DecidableEq κ] [hm : Und P mt (.map kt et)] [K : MKey P kt κ] {l : List (κ × Value)} {a : κ} {v : Value} (hr : MapAt K.enc w r l) (hn : ∀ p ∈ l, ¬ p.1 = a) :
    ∃ w', (Instr.mapUpdate mt (.map (some r)) (K.enc a) v).run P w = .ok () w' ∧ MapAt K.enc w' r (l ++ [(a, v)]) ∧ Stp [r] w w' := by
  obtain ⟨es, clock, h1, h2, h3⟩ := hr
  have hf : (Instr.findKey kt (K.enc a) es.toList).run P w = .ok none w := by
    have hk : es.toList.map (·.key) = (l.map (·.1)).map K.enc := by rw [h2, List.map_map]; rfl
    rw [K.find a es.toList (l.map (·.1)) w hk, find_fresh (by simpa using hn)]
    rfl
  have hlt : r < w.heap.size := (Array.getElem?_eq_some_iff.1 h1).1
  refine ⟨{ w with heap := w.heap.setIfInBounds r (.map (es.push { key := K.enc a, val := v, born := clock }) (clock + 1)) }, ?_, ?_, ?_⟩
  · simp [Instr.mapUpdate, run_underlying hm.h, MapKept.run_getObj_map h1, K.chk, hf, MapKept.run_setObj_map _ h1, Result.andThen]
  · refine ⟨es.push { key := K.enc a, val := v, born := clock }, clock + 1, by simp [hlt], ?_, ?_⟩
    · simp [h2]
    · simp [h3]
  · refine ⟨rfl, rfl, rfl, by simp, fun b hb hn => ?_⟩
    simp only [List.mem_singleton] at hn
    simp [Array.getElem?_setIfInBounds_ne (fun h => hn h.symm)]
theorem OE_insert {mt kt et r : Nat} {κ : Type} [DecidableEq κ] {x y z : Operand} [hm : Und P mt (.map kt et)] [K : MKey P kt κ] {l : List (κ × Value)} {a : κ} {v : Value} (hx : ev e x = some (.map (some r))) (hy : ev e y = some (K.enc a)) (hz : ev e z = some v) (hr : MapAt K.enc w r l) (hn : ∀ p ∈ l, ¬ p.1 = a) :
    OE P n ⟨d, .insert mt x y z, ty, pos, af, g⟩ e w (fun _ w' => MapAt K.enc w' r (l ++ [(a, v)]) ∧ Stp [r] w w') := by
  obtain ⟨w', h1, h2, h3⟩ := run_mapAdd (mt := mt) (v := v) hr hn
  exact OE_skip (w' := w') (fun c hc => by simp [execOp, hc.ev hx, hc.ev hy, hc.ev hz, h1]) ⟨h2, h3⟩
theorem OE_mapAdd {mt kt et r : Nat} {κ : Type} [DecidableEq κ] {x y z : Operand} [hm : Und P mt (.map kt et)] [K : MKey P kt κ] {l : List (κ × Value)} {a : κ} {v : Value} (hx : ev e x = some (.map (some r))) (hy : ev e y = some (K.enc a)) (hz : ev e z = some v) (hr : MapAt K.enc w r l) (hn : ∀ p ∈ l, ¬ p.1 = a) :
    OE P n ⟨d, .mapUpdate mt x y z, ty, pos, af, g⟩ e w (fun _ w' => MapAt K.enc w' r (l ++ [(a, v)]) ∧ Stp [r] w w') := by
  obtain ⟨w', h1, h2, h3⟩ := run_mapAdd (mt := mt) (v := v) hr hn
  exact OE_skip (w' := w') (fun c hc => by simp [execOp, hc.ev hx, hc.ev hy, hc.ev hz, h1]) ⟨h2, h3⟩
theorem PR_lookup {mt kt et r : Nat} {κ : Type} [DecidableEq κ] {x y : Operand} {z : Value} [hm : Und P mt (.map kt et)] [K : MKey P kt κ] [hz : Zer P et z] {l : List (κ × Value)} {a : κ} (hx : ev e x = some (.map (some r))) (hy : ev e y = some (K.enc a)) (hr : MapAt K.enc w r l) :
    PR P n ⟨d, .lookup mt x y false, ty, pos, af, g⟩ e w (mget l a z) := by
  refine ⟨fun c hc => ?_⟩
  obtain ⟨es, clock, h1, h2, h3⟩ := hr
  have hk : es.toList.map (·.key) = (l.map (·.1)).map K.enc := by rw [h2, List.map_map]; rfl
  have hf := K.find a es.toList (l.map (·.1)) w hk
  have hlen : es.toList.length = l.length := by have := congrArg List.length h3; simpa using this
  have hv : ∀ i : Nat, (es.toList[i]?).map (fun x : MapEntry => x.val) = (l[i]?).map (fun x : κ × Value => x.2) := fun i => by
    have := congrArg (fun x => x[i]?) h3
    simpa using this
  have hfind : mget l a z = match (l.map (·.1)).findIdx? (fun b => decide (b = a)) with | some i => ((es.toList[i]?).map (fun x : MapEntry => x.val)).getD z | none => z := by
    unfold mget
    rw [List.findIdx?_map]
    cases hi : l.findIdx? ((fun b => decide (b = a)) ∘ fun x => x.1) with
    | none =>
      have : l.find? (fun p => decide (p.1 = a)) = none := by
        rw [List.find?_eq_none]
        intro p hp
        have := (List.findIdx?_eq_none_iff.1 hi) p hp
        simpa using this
      rw [this]
    | some i =>
      obtain ⟨hlt, hp, hb⟩ := List.findIdx?_eq_some_iff_getElem.1 hi
      have : l.find? (fun p => decide (p.1 = a)) = some l[i] := by
        rw [List.find?_eq_some_iff_getElem]
        exact ⟨by simpa using hp, i, hlt, rfl, fun j hj => by simpa using hb j hj⟩
      rw [this]
      simp only [hv, List.getElem?_eq_getElem hlt, Option.map_some, Option.getD_some]
  rw [hfind]
  simp only [execOp, hc.ev hx, hc.ev hy]
  cases hi : (l.map (·.1)).findIdx? (fun b => decide (b = a)) with
  | none =>
    rw [hi] at hf
    simp [Instr.lookup, run_underlying hm.h, MapKept.run_getObj_map h1, K.chk, hf, Result.andThen, Zer.run]
  | some i =>
    obtain ⟨hlt, _⟩ := List.findIdx?_eq_some_iff_getElem.1 hi
    have hlt' : i < es.toList.length := by rw [hlen]; simpa using hlt
    rw [hi] at hf
    simp only [Option.bind_some, List.getElem?_eq_getElem hlt', Option.map_some] at hf
    simp [Instr.lookup, run_underlying hm.h, MapKept.run_getObj_map h1, K.chk, hf, Result.andThen, List.getElem?_eq_getElem hlt']
end
end Go.Eng


namespace Go.Proofs.YtgpibcgebpgmiaaGreatDoor
open Go Go.Eng Go.RowKit
set_option linter.unusedVariables false

/-- the first index at which a predicate holds, or -1 -/
def idx {α : Type} (p : α → Bool) (xs : List α) : Int := match xs.findIdx? p with | some i => (i : Int) | none => -1
theorem idx_of_at {α : Type} {p : α → Bool} {xs : List α} {k : Nat} (hk : k < xs.length) (hp : p xs[k] = true) (hb : ∀ j (h : j < xs.length), j < k → p xs[j] = false) : idx p xs = k := by
  have : xs.findIdx? p = some k := List.findIdx?_eq_some_iff_getElem.2 ⟨hk, hp, fun j hj => by simp [hb j (by omega) hj]⟩
  simp [idx, this]
theorem idx_of_none {α : Type} {p : α → Bool} {xs : List α} (hb : ∀ j (h : j < xs.length), p xs[j] = false) : idx p xs = -1 := by
  have : xs.findIdx? p = none := by
    rw [List.findIdx?_eq_none_iff]
    intro x hx
    obtain ⟨j, hj, rfl⟩ := List.getElem_of_mem hx
    simp [hb j hj]
  simp [idx, this]
abbrev isS (a : Str) : Str → Bool := fun x => decide (x = a)

theorem index_any (X : List Nat) (v : Value) (l : List Str) (a : Str) (w : World) (hs : SlV X w v l) : Calls Tryz.prog 105 #[v, str a] w (Ret fun r w' => r = .int .i64 (idx (isS a) l) ∧ Stp [] w w') := by
  have hmax := hs.max
  refine calls_of_WC2 (n := 19) Tryz.func105 rfl rfl rfl ?_
  refine W ?_
  refine WC_loop (σ := Nat) (fun k => [(0, v), (1, str a), (8, .int .i64 k), (7, .int .i64 (l.length : Int))]) (fun k w' => k ≤ l.length ∧ Stp [] w w' ∧ ∀ j (h : j < l.length), j < k → isS a l[j] = false) (fun k => l.length - k) 0 ⟨rfl, rfl, rfl, rfl, trivial⟩ ⟨Nat.zero_le _, Stp.refl _ _, fun j _ h => absurd h (Nat.not_lt_zero _)⟩ ?_
  have hs0 := hs
  clear hs
  rintro k w1 ⟨hk, hS, hno⟩
  have hs := hs0.up hS
  by_cases hlt : k < l.length
  · repeat' (first | refine W1 ?_ | (exfalso; omega) | refine WL_split rfl rfl (fun hg => ?_) (fun hg => ?_) | refine WL_splitB rfl rfl (fun hg => ?_) (fun hg => ?_) | refine WC_cond rfl (fun hc => ?_) (fun hc => ?_) | refine WC_condB rfl (fun hc => ?_) (fun hc => ?_))
    · first | refine WQ_ret1 rfl rfl ?_ | refine WQ_ret2 rfl rfl rfl ?_ | refine WQ_ret3 rfl rfl rfl rfl ?_ | refine WQ_ret0 rfl ?_ | refine WQ_end0 rfl ?_
      have he' : isS a l[k] = true := by simpa [isS, eq_comm] using hc
      exact .mk ⟨by rw [idx_of_at hlt he' hno], hS⟩
    · refine WQ_loop (k + 1) ⟨rfl, rfl, rfl, rfl, trivial⟩ ⟨hlt, hS, fun j h hj => ?_⟩ (by omega)
      by_cases e : j = k
      · subst e; simpa [isS, eq_comm] using hc
      · exact hno j h (by omega)
  · have hke : k = l.length := by omega
    subst hke
    repeat' (first | refine W1 ?_ | (exfalso; omega) | refine WL_split rfl rfl (fun hg => ?_) (fun hg => ?_) | refine WL_splitB rfl rfl (fun hg => ?_) (fun hg => ?_) | refine WC_cond rfl (fun hc => ?_) (fun hc => ?_) | refine WC_condB rfl (fun hc => ?_) (fun hc => ?_))
    first | refine WQ_ret1 rfl rfl ?_ | refine WQ_ret2 rfl rfl rfl ?_ | refine WQ_ret3 rfl rfl rfl rfl ?_ | refine WQ_ret0 rfl ?_ | refine WQ_end0 rfl ?_
    exact .mk ⟨by rw [idx_of_none (fun j h => hno j h h)], hS⟩
def fieldNames : List Str := [[100, 97, 121], [115, 101, 114, 118, 101, 100], [101, 120, 116, 114, 97], [98, 121], [116, 111], [99, 111, 117, 114, 116], [97, 109, 111, 117, 110, 116]]
/-- the table of the fields, as a slice of the whole -/
abbrev flds : Value := .slice (some ⟨0, 0, none⟩) 7 7
def fieldF (a : Str) : Int × Int × Bool :=
  let i := idx (isS a) fieldNames
  if i < 0 then (0, 0, false) else if i ≤ 1 then (i, 3, true) else (i, 1, true)
abbrev tup3 (x : Int × Int × Bool) : Value := .tuple #[.int .i64 x.1, .int .i64 x.2.1, .bool x.2.2]
theorem Field_any (a : Str) (w : World) (hF : SlV [] w flds fieldNames) : Calls Tryz.prog 59 #[str a] w (Ret fun r w' => r = tup3 (fieldF a) ∧ Stp [] w w') := by
  refine calls_of_WC1 (n := 17) Tryz.func59 rfl rfl rfl ?_
  refine W ?_
  apply WL_pure (PR_sliceA rfl) rfl
  refine W ?_
  refine WL_eff (OE_call rfl (evs2 rfl rfl) (index_any [] _ _ a _ hF)) rfl ?_
  rintro _ w1 ⟨rfl, hS⟩
  unfold fieldF
  generalize idx (isS a) fieldNames = i
  repeat' (first | refine W1 ?_ | refine WL_split rfl rfl (fun hg => ?_) (fun hg => ?_) | refine WL_splitB rfl rfl (fun hg => ?_) (fun hg => ?_) | refine WC_cond rfl (fun hc => ?_) (fun hc => ?_) | refine WC_condB rfl (fun hc => ?_) (fun hc => ?_))
  all_goals (first | refine WQ_ret1 rfl rfl ?_ | refine WQ_ret2 rfl rfl rfl ?_ | refine WQ_ret3 rfl rfl rfl rfl ?_ | refine WQ_ret0 rfl ?_ | refine WQ_end0 rfl ?_)
  · exact .mk ⟨by simp only [if_pos hc], hS⟩
  · rename_i h1
    exact .mk ⟨by simp only [if_neg h1, if_pos hc], hS⟩
  · rename_i h1
    exact .mk ⟨by simp only [if_neg h1, if_neg hc], hS⟩

/-! ### words -/
/-- what the loop of 'words' has found in the first k bytes: the words, and where the next one begins -/
def wst (s : Str) : Nat → List Str × Nat
  | 0 => ([], 0)
  | k + 1 => if k = s.length ∨ byte s k = 32 then ((wst s k).1 ++ [(s.take k).drop (wst s k).2], k + 1) else wst s k
def wordsOf (s : Str) : List Str := (wst s (s.length + 1)).1
theorem wst_le (s : Str) : ∀ k, (wst s k).2 ≤ k ∧ (wst s k).1.length ≤ k
  | 0 => by simp [wst]
  | k + 1 => by
    have := wst_le s k
    simp only [wst]
    split
    · simp; omega
    · omega
theorem buildSS1 (a : Str) (w : World) : (Instr.buildSlice 56 1 #[(0, str a)]).run Tryz.prog w = .ok (.slice (some ⟨w.heap.size, 0, none⟩) 1 1) (w.alloc (.cells #[str a] 9)) := by kernel_rfl
theorem words_any (X : List Nat) (s : Str) (w : World) (hX : ∀ b ∈ X, b < w.heap.size) (hl : s.length ≤ 1000) :
    Calls Tryz.prog 51 #[str s] w (Ret fun r w' => Row X w' w.heap.size 9 r (wordsOf s) ∧ Stp [] w w') := by
  refine calls_of_WC1 (n := 32) Tryz.func51 rfl rfl rfl ?_
  refine W ?_
  refine WC_loop (σ := Nat × Value) (fun q => [(0, str s), (3, q.2), (4, .int .i64 ((wst s q.1).2 : Int)), (5, .int .i64 (q.1 : Int))]) (fun q w' => q.1 ≤ s.length + 1 ∧ Row X w' w.heap.size 9 q.2 (wst s q.1).1 ∧ Stp [] w w') (fun q => s.length + 1 - q.1) (0, .slice none 0 0) ⟨rfl, rfl, rfl, rfl, trivial⟩ ⟨by simp, Row.nil, Stp.refl _ _⟩ ?_
  rintro ⟨k, v⟩ w1 ⟨hk, hrow, hS⟩
  dsimp only at hk hrow ⊢
  obtain ⟨hw1, hw2⟩ := wst_le s k
  by_cases hlt : k ≤ s.length
  · have nxt : wst s (k + 1) = if k = s.length ∨ byte s k = 32 then ((wst s k).1 ++ [(s.take k).drop (wst s k).2], k + 1) else wst s k := rfl
    have hbase := hS.size
    repeat' (first | refine W1 ?_ | (exfalso; omega) | refine WL_split rfl rfl (fun hg => ?_) (fun hg => ?_) | refine WL_splitB rfl rfl (fun hg => ?_) (fun hg => ?_) | refine WC_cond rfl (fun hc => ?_) (fun hc => ?_) | refine WC_condB rfl (fun hc => ?_) (fun hc => ?_))
    rotate_right
    · have hno : ¬ (k = s.length ∨ byte s k = 32) := by rintro (h | h) <;> omega
      rw [if_neg hno] at nxt
      refine WQ_loop (k + 1, v) ⟨rfl, rfl, by rw [nxt]; rfl, rfl, trivial⟩ ⟨by dsimp only; omega, by dsimp only; rw [nxt]; exact hrow, hS⟩ (by dsimp only; omega)
    all_goals
      have hyes : k = s.length ∨ byte s k = 32 := by omega
      rw [if_pos hyes] at nxt
      apply WL_pure (PR_sliceT_lh rfl rfl rfl rfl rfl (by omega) (by omega)) rfl
      refine WL_eff (OE_buildSlice (vs := [(0, str _)]) rfl (buildSS1 _)) rfl ?_
      rintro bv w2 hN
      have hSb := hN.choose_spec.2.2.2
      have hbv : SlV (ob v ++ X) w2 bv [(s.take k).drop (wst s k).2] := hN.slv (fun b hb => (List.mem_append.1 hb).elim (fun h => (hrow.ob_le b h).2) (fun h => Nat.lt_of_lt_of_le (hX b h) hbase)) rfl rfl (by simp [maxLen])
      clear hN
      replace hrow := hrow.up hSb
      replace hS := hS.trans hSb
      have hbase := hS.size
      refine WL_eff (OE_append (X := X) (base := w.heap.size) rfl (by decide) rfl rfl hrow hbv (by simp only [List.length_cons, List.length_nil]; omega) (by simp only [List.length_cons, List.length_nil, maxLen]; omega) hbase) rfl ?_
      rintro v' w3 ⟨hrow', hS', _⟩
      refine W ?_
      refine WQ_loop (k + 1, v') ⟨rfl, rfl, by rw [nxt]; rfl, rfl, trivial⟩ ⟨by dsimp only; omega, by dsimp only; rw [nxt]; exact hrow', hS.own hS' (fun b hb => .inr (hrow.ob_le b hb).1)⟩ (by dsimp only; omega)
  · have hke : k = s.length + 1 := by omega
    subst hke
    repeat' (first | refine W1 ?_ | (exfalso; omega) | refine WL_split rfl rfl (fun hg => ?_) (fun hg => ?_) | refine WL_splitB rfl rfl (fun hg => ?_) (fun hg => ?_) | refine WC_cond rfl (fun hc => ?_) (fun hc => ?_) | refine WC_condB rfl (fun hc => ?_) (fun hc => ?_))
    first | refine WQ_ret1 rfl rfl ?_ | refine WQ_ret2 rfl rfl rfl ?_ | refine WQ_ret3 rfl rfl rfl rfl ?_ | refine WQ_ret0 rfl ?_ | refine WQ_end0 rfl ?_
    exact .mk ⟨hrow, hS⟩
end Go.Proofs.YtgpibcgebpgmiaaGreatDoor


namespace Go.Proofs.YtgpibcgebpgmiaaGreatDoor
open Go Go.Eng Go.RowKit
set_option linter.unusedVariables false

theorem _root_.Go.Eng.Row.slv0 {α : Type} [GoRep α] {w : World} {base T : Nat} {v : Value} {xs : List α} (h : Row [] w base T v xs) : SlV [] w v xs := h.slv (by simp)
theorem fields_words : wordsOf [100, 97, 121, 32, 115, 101, 114, 118, 101, 100, 32, 101, 120, 116, 114, 97, 32, 98, 121, 32, 116, 111, 32, 99, 111, 117, 114, 116, 32, 97, 109, 111, 117, 110, 116] = fieldNames := by decide
theorem Fields_any (X : List Nat) (w : World) (hX : ∀ b ∈ X, b < w.heap.size) : Calls Tryz.prog 99 #[] w (Ret fun r w' => Row X w' w.heap.size 9 r fieldNames ∧ Stp [] w w') := by
  refine calls_of_WC0 (n := 2) Tryz.func99 rfl rfl ?_
  refine W ?_
  refine WL_eff (OE_call rfl (evs1 rfl) (words_any X [100, 97, 121, 32, 115, 101, 114, 118, 101, 100, 32, 101, 120, 116, 114, 97, 32, 98, 121, 32, 116, 111, 32, 99, 111, 117, 114, 116, 32, 97, 109, 111, 117, 110, 116] _ hX (by decide))) rfl ?_
  rintro v w1 ⟨hr, hS⟩
  rw [fields_words] at hr
  refine W ?_
  first | refine WQ_ret1 rfl rfl ?_ | refine WQ_ret2 rfl rfl rfl ?_ | refine WQ_ret3 rfl rfl rfl rfl ?_ | refine WQ_ret0 rfl ?_ | refine WQ_end0 rfl ?_
  exact .mk ⟨hr, hS⟩
/-- the type of a node without kids -/
def leafN (k n : Int) (s : Str) : Int :=
  if k = 4 then (if n = 0 then (fieldF s).2.1 else 0) else if ¬ s = [] then 0
  else if k = 1 then (if 0 ≤ n ∧ n ≤ 2147483647 then 1 else 0) else if k = 2 then (if 0 ≤ n ∧ n ≤ 1 then 2 else 0) else if k = 3 then (if 0 ≤ n ∧ n ≤ 3652058 then 3 else 0) else 0
theorem leaf_any (X : List Nat) (v : Value) (x : Nd) (w : World) (hx : NdV X w v x) (hF : SlV [] w flds fieldNames) :
    Calls Tryz.prog 100 #[v] w (Ret fun r w' => r = .int .i64 (leafN x.kind x.num x.word) ∧ Stp [] w w') := by
  obtain ⟨kv, rfl, hs⟩ := hx
  refine calls_of_WC1 (n := 50) Tryz.func100 rfl rfl rfl ?_
  refine W ?_
  refine WL_eff (OE_box rfl) rfl ?_
  rintro _ w1 ⟨b, rfl, hb, hblk, hS⟩
  replace hblk : Blk w1 b _ (ndC x kv) := hblk
  replace hF := hF.up hS
  repeat' (first | refine W1 ?_ | (exfalso; omega) | refine WL_split rfl rfl (fun hg => ?_) (fun hg => ?_) | refine WL_splitB rfl rfl (fun hg => ?_) (fun hg => ?_) | refine WC_cond rfl (fun hc => ?_) (fun hc => ?_) | refine WC_condB rfl (fun hc => ?_) (fun hc => ?_))
  · refine WL_eff (OE_call rfl (evs1 rfl) (Field_any x.word _ hF)) rfl ?_
    rintro _ w2 ⟨rfl, hS2⟩
    replace hS := hS.trans hS2
    repeat' (first | refine W1 ?_ | (exfalso; omega) | refine WL_split rfl rfl (fun hg => ?_) (fun hg => ?_) | refine WL_splitB rfl rfl (fun hg => ?_) (fun hg => ?_) | refine WC_cond rfl (fun hc => ?_) (fun hc => ?_) | refine WC_condB rfl (fun hc => ?_) (fun hc => ?_))
    first | refine WQ_ret1 rfl rfl ?_ | refine WQ_ret2 rfl rfl rfl ?_ | refine WQ_ret3 rfl rfl rfl rfl ?_ | refine WQ_ret0 rfl ?_ | refine WQ_end0 rfl ?_
    refine .mk ⟨?_, hS⟩
    simp only [leafN]
    rw [if_pos (by assumption), if_pos (by assumption)]
    rfl
  all_goals first
    | (refine WL_eff (OE_makeMap (fun z : Int => Value.int .i64 z)) rfl ?_
       rintro _ w2 ⟨r, rfl, hr, hm, hS2⟩
       have hbl := hblk.lt
       have hsz := hS.size
       replace hblk := hblk.up hS2
       replace hS := hS.trans hS2
       refine WL_eff0 (OE_insert (a := (1 : Int)) (v := .int .i64 1) rfl rfl rfl hm (by simp)) ?_
       rintro _ w3 ⟨hm, hS3⟩
       replace hblk := hblk.ext hS3 (by simp; omega)
       replace hS := hS.own hS3 (fun b hb => .inr (by simp at hb; omega))
       refine WL_eff0 (OE_insert (a := (2 : Int)) (v := .int .i64 2) rfl rfl rfl hm (by simp)) ?_
       rintro _ w4 ⟨hm, hS4⟩
       replace hblk := hblk.ext hS4 (by simp; omega)
       replace hS := hS.own hS4 (fun b hb => .inr (by simp at hb; omega))
       refine WL_eff0 (OE_insert (a := (3 : Int)) (v := .int .i64 3) rfl rfl rfl hm (by simp)) ?_
       rintro _ w5 ⟨hm, hS5⟩
       replace hblk := hblk.ext hS5 (by simp; omega)
       replace hS := hS.own hS5 (fun b hb => .inr (by simp at hb; omega))
       refine W ?_
       apply WL_pure (PR_lookup (a := x.kind) rfl rfl hm) rfl
       refine W ?_
       first | refine WQ_ret1 rfl rfl ?_ | refine WQ_ret2 rfl rfl rfl ?_ | refine WQ_ret3 rfl rfl rfl rfl ?_ | refine WQ_ret0 rfl ?_ | refine WQ_end0 rfl ?_
       refine .mk ⟨?_, hS⟩
       have hw : x.word = [] := by first | assumption | exact Decidable.not_not.1 (by assumption)
       simp only [leafN, hw, not_true_eq_false, if_false]
       first
         | (have hk : x.kind = 1 := by assumption
            rw [hk, if_neg (by decide), if_pos rfl, if_pos (by omega)]; rfl)
         | (have hk : x.kind = 2 := by assumption
            rw [hk, if_neg (by decide), if_neg (by decide), if_pos rfl, if_pos (by omega)]; rfl)
         | (have hk : x.kind = 3 := by assumption
            rw [hk, if_neg (by decide), if_neg (by decide), if_neg (by decide), if_pos rfl, if_pos (by omega)]; rfl))
    | skip
  all_goals (first | refine WQ_ret1 rfl rfl ?_ | refine WQ_ret2 rfl rfl rfl ?_ | refine WQ_ret3 rfl rfl rfl rfl ?_ | refine WQ_ret0 rfl ?_ | refine WQ_end0 rfl ?_)
  all_goals
    refine .mk ⟨?_, hS⟩
    simp only [leafN]
    repeat' split
    all_goals first | rfl | (exfalso; omega) | (exfalso; simp_all; done) | (exfalso; simp_all; omega)
end Go.Proofs.YtgpibcgebpgmiaaGreatDoor


namespace Go.Proofs.YtgpibcgebpgmiaaGreatDoor
open Go Go.Eng Go.RowKit
set_option linter.unusedVariables false

theorem buildSI1 (a : Int) (w : World) : (Instr.buildSlice 22 1 #[(0, .int .i64 a)]).run Tryz.prog w = .ok (.slice (some ⟨w.heap.size, 0, none⟩) 1 1) (w.alloc (.cells #[.int .i64 a] 3)) := by kernel_rfl
theorem buildSI3 (a b c : Int) (w : World) : (Instr.buildSlice 22 3 #[(0, .int .i64 a), (1, .int .i64 b), (2, .int .i64 c)]).run Tryz.prog w = .ok (.slice (some ⟨w.heap.size, 0, none⟩) 3 3) (w.alloc (.cells #[.int .i64 a, .int .i64 b, .int .i64 c] 3)) := by kernel_rfl
theorem NewSl.stp {w w' : World} {T len : Nat} {cs : List Value} {v : Value} (h : NewSl w T len cs v w') : Stp [] w w' := h.choose_spec.2.2.2

def opsA : List Str := [[43], [45], [42]]
def opsC : List Str := [[60], [60, 61], [61], [33, 61], [62], [62, 61]]
def opsL : List Str := [[97, 110, 100], [111, 114]]
end Go.Proofs.YtgpibcgebpgmiaaGreatDoor


namespace Go.Proofs.YtgpibcgebpgmiaaGreatDoor
open Go Go.Eng Go.RowKit
set_option linter.unusedVariables false

/-! ### signatures: a map keyed by structs -/
structure Sig where
  kind : Int
  s : Str
  a : Int
  b : Int
  c : Int
  deriving DecidableEq
abbrev sigV (x : Sig) : Value := .agg #[.int .i64 x.kind, str x.s, .int .i64 x.a, .int .i64 x.b, .int .i64 x.c]
theorem sig_eq (x y : Sig) (w : World) : (Op.equal 163 (sigV x) (sigV y)).run Tryz.prog w = .ok (decide (x = y)) w := by
  have h1 : Program.stoodInHeld Tryz.prog 163 = false := by kernel_rfl
  obtain ⟨i, hi⟩ : ∃ i, Tryz.prog.info? 3 = some i := by
    have := (inferInstance : Siz Tryz.prog 3 1).h
    cases h : Tryz.prog.info? 3 with
    | none => rw [h] at this; cases this
    | some i => exact ⟨i, rfl⟩
  have hc : Tryz.prog.cellsOf 3 = 1 := by kernel_rfl
  obtain ⟨k, s, a, b, c⟩ := x
  obtain ⟨k', s', a', b', c'⟩ := y
  simp [sigV, Op.equal, Op.maxDepth, run_equalIn_struct, h1, Program.fieldsOf, Tryz.underlying163, Op.eqFields, part, Und.isAgg, Siz.run, aggB, run_equalIn_int w _ _ .i64 .i64 _ _ Tryz.underlying3, run_equalIn_string w _ _ _ _ Tryz.underlying9, run_equalIn_array w _ _ _ Tryz.underlying158 hi, hc, Op.eqItems, List.range_succ_eq_map]
  repeat' split
  all_goals simp_all
theorem sig_chk (em : Bool) (x : Sig) (w : World) : (Instr.checkKey em 10000 163 (sigV x)).run Tryz.prog w = .ok () w := by kernel_rfl
instance : MKey Tryz.prog 163 Sig where
  enc := sigV
  chk := sig_chk
  find := fun a es l w hk => by
    have h2 := run_findKey_eq (P := Tryz.prog) (k := 163) w (by kernel_rfl) (sigV a) es
    have h3 := findAsking_of sigV sig_eq a w es l 0 hk
    simp only [Nat.zero_add] at h3
    exact h2.trans h3
end Go.Proofs.YtgpibcgebpgmiaaGreatDoor


namespace Go.Proofs.YtgpibcgebpgmiaaGreatDoor
open Go Go.Eng Go.RowKit
set_option linter.unusedVariables false

abbrev arr3 (a b c : Int) : Value := .agg #[.int .i64 a, .int .i64 b, .int .i64 c]
theorem buildA1 (a : Int) (w : World) : (Instr.build 158 #[(0, .int .i64 a)]).run Tryz.prog w = .ok (arr3 a 0 0) w := by kernel_rfl
theorem buildA2 (a b : Int) (w : World) : (Instr.build 158 #[(0, .int .i64 a), (1, .int .i64 b)]).run Tryz.prog w = .ok (arr3 a b 0) w := by kernel_rfl
theorem buildSg (k a b c : Int) (s : Str) (w : World) : (Instr.build 163 #[(0, .int .i64 k), (1, str s), (2, arr3 a b c)]).run Tryz.prog w = .ok (sigV ⟨k, s, a, b, c⟩) w := by kernel_rfl
theorem buildSS4 (a b c d : Str) (w : World) : (Instr.buildSlice 56 4 #[(0, str a), (1, str b), (2, str c), (3, str d)]).run Tryz.prog w = .ok (.slice (some ⟨w.heap.size, 0, none⟩) 4 4) (w.alloc (.cells #[str a, str b, str c, str d] 9)) := by kernel_rfl

abbrev SigE := Sig × Value
/-- the entries of the literal, by the number of the operation that inserts them -/
def ent : Nat → SigE
  | 5 => (⟨5, [45], 1, 0, 0⟩, .int .i64 1)
  | 10 => (⟨5, [110, 111, 116], 2, 0, 0⟩, .int .i64 2)
  | 15 => (⟨10, [110, 101, 120, 116], 3, 0, 0⟩, .int .i64 3)
  | 20 => (⟨10, [112, 114, 101, 118], 3, 0, 0⟩, .int .i64 3)
  | 26 => (⟨10, [108, 97, 116, 101, 114], 3, 3, 0⟩, .int .i64 3)
  | 32 => (⟨10, [101, 97, 114, 108, 105, 101, 114], 3, 3, 0⟩, .int .i64 3)
  | _ => (⟨10, [98, 101, 116, 119, 101, 101, 110], 3, 3, 0⟩, .int .i64 1)
def ents : List Nat := [5, 10, 15, 20, 26, 32, 38]
def units : List Str := [[100, 97, 121, 115], [119, 101, 101, 107, 115], [109, 111, 110, 116, 104, 115], [99, 111, 117, 114, 116, 100, 97, 121, 115]]
def unitE (u : Str) : List SigE := [(⟨7, u, 3, 1, 0⟩, .int .i64 3), (⟨8, u, 3, 1, 0⟩, .int .i64 3)]
def sigs : List SigE := ents.map ent ++ units.flatMap unitE
theorem sigs_nodup : (sigs.map (·.1)).Nodup := by decide
theorem mget_perm {κ : Type} [DecidableEq κ] {l m : List (κ × Value)} (hp : l.Perm m) (hn : (m.map (·.1)).Nodup) (a : κ) (z : Value) : mget l a z = mget m a z := by
  have hn' : (l.map (·.1)).Nodup := (hp.map _).nodup_iff.2 hn
  have key : ∀ (l m : List (κ × Value)), (∀ p, p ∈ l → p ∈ m) → (m.map (·.1)).Nodup → ∀ p, l.find? (fun p => decide (p.1 = a)) = some p → m.find? (fun p => decide (p.1 = a)) = some p := by
    intro l m hs hm p hf
    have hpm := hs p (List.mem_of_find?_eq_some hf)
    have hpa : p.1 = a := by simpa using List.find?_some hf
    cases hq : m.find? (fun p => decide (p.1 = a)) with
    | none => exact absurd (List.find?_eq_none.1 hq p hpm) (by simp [hpa])
    | some q =>
      have hqm := List.mem_of_find?_eq_some hq
      have hqa : q.1 = a := by simpa using List.find?_some hq
      obtain ⟨i, hi, rfl⟩ := List.getElem_of_mem hpm
      obtain ⟨j, hj, rfl⟩ := List.getElem_of_mem hqm
      have : i = j := by
        have h1 := (List.getElem_inj (xs := m.map (·.1)) (i := i) (j := j) (h₀ := by simpa using hi) (h₁ := by simpa using hj) hm).1 (by simp [hpa, hqa])
        exact h1
      subst this
      rfl
  unfold mget
  cases h1 : l.find? (fun p => decide (p.1 = a)) with
  | some p => rw [key l m (fun p h => hp.mem_iff.1 h) hn p h1]
  | none =>
    cases h2 : m.find? (fun p => decide (p.1 = a)) with
    | none => rfl
    | some p => rw [key m l (fun p h => hp.mem_iff.2 h) hn' p h2] at h1; cases h1

theorem signatures_any (w : World) : Calls Tryz.prog 102 #[] w (Ret fun r w' => ∃ (m : Nat) (l : List SigE), r = .map (some m) ∧ MapAt sigV w' m l ∧ l.Perm sigs ∧ Stp [] w w') := by
  refine calls_of_WC0 (n := 62) Tryz.func102 rfl rfl ?_
  refine W ?_
  refine WC_drawn 41 [] [5, 10, 15, 20, 26, 32, 38] [(1, 0), (2, 0), (3, 0), (4, 0), (6, 0), (7, 0), (8, 0), (9, 0), (11, 0), (12, 0), (13, 0), (14, 0), (16, 0), (17, 0), (18, 0), (19, 0), (21, 0), (22, 0), (23, 0), (24, 0), (25, 0), (27, 0), (28, 0), (29, 0), (30, 0), (31, 0), (33, 0), (34, 0), (35, 0), (36, 0), (37, 0), (0, 2), (5, 279241165504), (39, 0), (40, 0)] rfl mixed (by kernel_rfl) (by kernel_rfl) (by kernel_rfl) (fun w1 hS1 => ?_)
  repeat' (first | refine D1 ?_ | (apply WD_op; exact rfl; first | (apply WO_build (vs := [(0, .int .i64 _)]); exact trivial; exact rfl; exact buildA1 _; exact rfl) | (apply WO_build (vs := [(0, .int .i64 _), (1, .int .i64 _)]); exact trivial; exact rfl; exact buildA2 _ _; exact rfl) | (apply WO_build (vs := [(0, .int .i64 _), (1, str _), (2, arr3 _ _ _)]); exact trivial; exact rfl; exact buildSg _ _ _ _ _; exact rfl)))
  refine WD_eff rfl trivial (OE_makeMap sigV) (fun _ _ h => h.choose_spec.2.2.2) rfl ?_
  rintro _ w2 ⟨m, rfl, hm, hmap, hS2⟩
  have hw1 := hS1.size
  refine WD_set ents (fun rem w' => ∃ l, MapAt sigV w' m l ∧ (l ++ rem.map ent).Perm (ents.map ent) ∧ Stp [m] w2 w') rfl (by decide) (by decide) ⟨[], hmap, by simp, Stp.refl _ _⟩ ?_ ?_
  · rintro rem j w' hsub hj ⟨l, hl, hp, hS⟩
    have hkeys : ((l ++ rem.map ent).map (·.1)).Nodup := (hp.map (·.1)).nodup_iff.2 (by decide)
    have hfresh : ∀ p ∈ l, ¬ p.1 = (ent j).1 := by
      intro p hp e
      rw [List.map_append, List.nodup_append] at hkeys
      exact hkeys.2.2 p.1 (List.mem_map_of_mem hp) (ent j).1 (by rw [List.map_map]; exact List.mem_map.2 ⟨j, hj, rfl⟩) e
    have gen : ∀ w'', MapAt sigV w'' m (l ++ [ent j]) → Stp [m] w' w'' → ∃ l, MapAt sigV w'' m l ∧ (l ++ (rem.erase j).map ent).Perm (ents.map ent) ∧ Stp [m] w2 w'' := by
      intro w'' h1 h2
      refine ⟨_, h1, ?_, hS.trans h2⟩
      refine List.Perm.trans ?_ hp
      rw [List.append_assoc]
      exact List.Perm.append_left l (((List.perm_cons_erase hj).map ent).symm)
    have hjis := hsub.subset hj
    simp only [ents, List.mem_cons, List.not_mem_nil, or_false] at hjis
    rcases hjis with rfl | rfl | rfl | rfl | rfl | rfl | rfl
    all_goals exact ⟨_, rfl, rfl, trivial, (OE_insert (v := .int .i64 _) rfl rfl rfl hl hfresh).mono (fun _ w'' ⟨h1, h2⟩ => ⟨.inr rfl, gen w'' h1 h2⟩)⟩
  rintro w3 ⟨l, hl, hp, hS3⟩
  rw [List.map_nil, List.append_nil] at hp
  have hS : Stp [] w w3 := (hS1.trans hS2).own hS3 (fun b hb => .inr (by simp at hb; omega))
  have hmw : w.heap.size ≤ m := by omega
  clear hmap hS2 hS3
  repeat' (first | refine D1 ?_ | refine WD_splitN rfl rfl rfl rfl (fun hg => ?_) (fun hg => ?_) | (refine WD_splitBN rfl rfl rfl rfl (fun hg => ?_) (fun hg => ?_) <;> refine D1 ?_) | fail)
  refine W ?_
  refine WL_eff (OE_buildSlice (vs := [(0, str [100, 97, 121, 115]), (1, str [119, 101, 101, 107, 115]), (2, str [109, 111, 110, 116, 104, 115]), (3, str [99, 111, 117, 114, 116, 100, 97, 121, 115])]) rfl (buildSS4 _ _ _ _)) rfl ?_
  rintro uv w4 hN
  have hu : SlV [m] w4 uv units := hN.slv (fun b hb => by simp at hb; subst hb; exact hl.lt) rfl rfl (by simp [units, maxLen])
  have hS4 := NewSl.stp hN
  clear hN
  replace hl := hl.up hS4
  replace hS := hS.trans hS4
  have hkind : ∀ p ∈ l, p.1.kind = 5 ∨ p.1.kind = 10 := fun p hpl => by
    have hpe := hp.mem_iff.1 hpl
    simp only [ents, List.map_cons, List.map_nil, List.mem_cons, List.not_mem_nil, or_false] at hpe
    rcases hpe with rfl | rfl | rfl | rfl | rfl | rfl | rfl <;> decide
  have hseen : ∀ k (h : k < units.length), ∀ p ∈ (units.take k).flatMap unitE, ¬ p.1.s = units[k] := by
    intro k h
    match k, h with
    | 0, _ => (show ∀ p ∈ (units.take 0).flatMap unitE, ¬ p.1.s = units[0]'(by decide)); decide
    | 1, _ => (show ∀ p ∈ (units.take 1).flatMap unitE, ¬ p.1.s = units[1]'(by decide)); decide
    | 2, _ => (show ∀ p ∈ (units.take 2).flatMap unitE, ¬ p.1.s = units[2]'(by decide)); decide
    | 3, _ => (show ∀ p ∈ (units.take 3).flatMap unitE, ¬ p.1.s = units[3]'(by decide)); decide
  refine W ?_
  refine WC_loop (σ := Nat) (fun k => [(1, .int .i64 1), (3, .int .i64 3), (4, .map (some m)), (40, uv), (41, .int .i64 4), (42, .int .i64 k)]) (fun k w' => k ≤ 4 ∧ MapAt sigV w' m (l ++ (units.take k).flatMap unitE) ∧ Stp [m] w4 w') (fun k => 4 - k) 0 ⟨rfl, rfl, rfl, rfl, rfl, rfl, trivial⟩ ⟨by omega, by simpa using hl, Stp.refl _ _⟩ ?_
  rintro k w5 ⟨hk, hmk, hS5⟩
  have hu5 : SlV [m] w5 uv units := hu.ext hS5 (by simp) (fun b hb => .inl hb)
  by_cases hlt : k < 4
  · have hlt2 : k < units.length := hlt
    have hfr : ∀ (t : Int), ¬ t = 5 → ¬ t = 10 → ∀ p ∈ l ++ (units.take k).flatMap unitE, ¬ p.1 = ⟨t, units[k], 3, 1, 0⟩ := by
      intro t h5 h10 p hpm e
      rcases List.mem_append.1 hpm with h | h
      · have := hkind p h
        rw [e] at this
        rcases this with h | h
        · exact h5 h
        · exact h10 h
      · exact hseen k hlt2 p h (by rw [e])
    repeat' (first | refine W1 ?_ | (exfalso; omega) | refine WL_split rfl rfl (fun hg => ?_) (fun hg => ?_) | refine WL_splitB rfl rfl (fun hg => ?_) (fun hg => ?_) | refine WC_cond rfl (fun hc => ?_) (fun hc => ?_) | refine WC_condB rfl (fun hc => ?_) (fun hc => ?_))
    apply WL_build (vs := [(0, .int .i64 3), (1, .int .i64 1)]) rfl (buildA2 _ _) rfl
    apply WL_build (vs := [(0, .int .i64 7), (1, str _), (2, arr3 _ _ _)]) rfl (buildSg _ _ _ _ _) rfl
    refine W ?_
    refine WL_eff0 (OE_mapAdd (a := (⟨7, units[k], 3, 1, 0⟩ : Sig)) (v := .int .i64 3) rfl rfl rfl hmk (hfr 7 (by decide) (by decide))) ?_
    rintro _ w6 ⟨hm6, hS6⟩
    refine W ?_
    apply WL_build (vs := [(0, .int .i64 3), (1, .int .i64 1)]) rfl (buildA2 _ _) rfl
    apply WL_build (vs := [(0, .int .i64 8), (1, str _), (2, arr3 _ _ _)]) rfl (buildSg _ _ _ _ _) rfl
    refine W ?_
    refine WL_eff0 (OE_mapAdd (a := (⟨8, units[k], 3, 1, 0⟩ : Sig)) (v := .int .i64 3) rfl rfl rfl hm6 (fun p hpm e => by
      rcases List.mem_append.1 hpm with h | h
      · exact hfr 8 (by decide) (by decide) p h e
      · simp only [List.mem_singleton] at h
        subst h
        simp at e)) ?_
    rintro _ w7 ⟨hm7, hS7⟩
    refine W ?_
    refine WQ_loop (k + 1) ⟨rfl, rfl, rfl, rfl, rfl, rfl, trivial⟩ ⟨by omega, ?_, (hS5.trans hS6).trans hS7⟩ (by omega)
    rw [List.take_succ_eq_append_getElem hlt2, List.flatMap_append]
    have e : l ++ ((units.take k).flatMap unitE ++ [units[k]].flatMap unitE) = (l ++ (units.take k).flatMap unitE ++ [((⟨7, units[k], 3, 1, 0⟩ : Sig), Value.int .i64 3)]) ++ [((⟨8, units[k], 3, 1, 0⟩ : Sig), Value.int .i64 3)] := by simp [unitE]
    rw [e]
    exact hm7
  · have hke : k = 4 := by omega
    subst hke
    repeat' (first | refine W1 ?_ | (exfalso; omega) | refine WL_split rfl rfl (fun hg => ?_) (fun hg => ?_) | refine WL_splitB rfl rfl (fun hg => ?_) (fun hg => ?_) | refine WC_cond rfl (fun hc => ?_) (fun hc => ?_) | refine WC_condB rfl (fun hc => ?_) (fun hc => ?_))
    first | refine WQ_ret1 rfl rfl ?_ | refine WQ_ret2 rfl rfl rfl ?_ | refine WQ_ret3 rfl rfl rfl rfl ?_ | refine WQ_ret0 rfl ?_ | refine WQ_end0 rfl ?_
    exact .mk ⟨m, _, rfl, hmk, hp.append_right _, hS.own hS5 (fun b hb => .inr (by simp at hb; omega))⟩
/-- the value at a signature -/
def sigF (x : Sig) : Value := mget sigs x (.int .i64 0)
end Go.Proofs.YtgpibcgebpgmiaaGreatDoor


namespace Go.Proofs.YtgpibcgebpgmiaaGreatDoor
open Go Go.Eng Go.RowKit
set_option linter.unusedVariables false

def binT (s : Str) (a b : Int) : Int :=
  if s ∈ opsA then (if a = b ∧ a = 1 then 1 else 0) else if s ∈ opsC then (if a = b ∧ ¬ a = 2 then 2 else 0) else if s ∈ opsL then (if a = b ∧ a = 2 then 2 else 0) else 0
theorem binary_any (s : Str) (a b c : Int) (w : World) : Calls Tryz.prog 101 #[str s, arr3 a b c] w (Ret fun r w' => r = .int .i64 (binT s a b) ∧ Stp [] w w') := by
  refine calls_of_WC2 (n := 46) Tryz.func101 rfl rfl rfl ?_
  refine W ?_
  refine WL_eff (OE_box rfl) rfl ?_
  rintro _ w1 ⟨q, rfl, hq, hblk, hS⟩
  replace hblk : Blk w1 q _ [.int .i64 a, .int .i64 b, .int .i64 c] := hblk
  refine W ?_
  by_cases hA : s ∈ opsA
  · unfold binT
    rw [if_pos hA]
    simp only [opsA, List.mem_cons, List.not_mem_nil, or_false] at hA
    rcases hA with rfl | rfl | rfl
    all_goals (repeat' (first | refine W1 ?_ | (exfalso; omega) | refine WL_split rfl rfl (fun hg => ?_) (fun hg => ?_) | refine WL_splitB rfl rfl (fun hg => ?_) (fun hg => ?_) | refine WC_cond rfl (fun hc => ?_) (fun hc => ?_) | refine WC_condB rfl (fun hc => ?_) (fun hc => ?_)))
    all_goals (first | refine WQ_ret1 rfl rfl ?_ | refine WQ_ret2 rfl rfl rfl ?_ | refine WQ_ret3 rfl rfl rfl rfl ?_ | refine WQ_ret0 rfl ?_ | refine WQ_end0 rfl ?_)
    all_goals refine .mk ⟨?_, hS⟩
    all_goals first
      | rw [if_pos ⟨by assumption, by assumption⟩]
      | rw [if_neg (fun h => by omega)]
  by_cases hC : s ∈ opsC
  · unfold binT
    rw [if_neg hA, if_pos hC]
    simp only [opsC, List.mem_cons, List.not_mem_nil, or_false] at hC
    rcases hC with rfl | rfl | rfl | rfl | rfl | rfl
    all_goals (repeat' (first | refine W1 ?_ | (exfalso; omega) | refine WL_split rfl rfl (fun hg => ?_) (fun hg => ?_) | refine WL_splitB rfl rfl (fun hg => ?_) (fun hg => ?_) | refine WC_cond rfl (fun hc => ?_) (fun hc => ?_) | refine WC_condB rfl (fun hc => ?_) (fun hc => ?_)))
    all_goals (first | refine WQ_ret1 rfl rfl ?_ | refine WQ_ret2 rfl rfl rfl ?_ | refine WQ_ret3 rfl rfl rfl rfl ?_ | refine WQ_ret0 rfl ?_ | refine WQ_end0 rfl ?_)
    all_goals refine .mk ⟨?_, hS⟩
    all_goals first
      | rw [show (if a = b ∧ ¬ a = 2 then (2 : Int) else 0) = 2 from if_pos (by omega)]
      | rw [show (if a = b ∧ ¬ a = 2 then (2 : Int) else 0) = 0 from if_neg (by omega)]
  by_cases hL : s ∈ opsL
  · unfold binT
    rw [if_neg hA, if_neg hC, if_pos hL]
    simp only [opsL, List.mem_cons, List.not_mem_nil, or_false] at hL
    rcases hL with rfl | rfl
    all_goals (repeat' (first | refine W1 ?_ | (exfalso; omega) | refine WL_split rfl rfl (fun hg => ?_) (fun hg => ?_) | refine WL_splitB rfl rfl (fun hg => ?_) (fun hg => ?_) | refine WC_cond rfl (fun hc => ?_) (fun hc => ?_) | refine WC_condB rfl (fun hc => ?_) (fun hc => ?_)))
    all_goals (first | refine WQ_ret1 rfl rfl ?_ | refine WQ_ret2 rfl rfl rfl ?_ | refine WQ_ret3 rfl rfl rfl rfl ?_ | refine WQ_ret0 rfl ?_ | refine WQ_end0 rfl ?_)
    all_goals refine .mk ⟨?_, hS⟩
    all_goals first
      | rw [if_pos ⟨by assumption, by assumption⟩]
      | rw [if_neg (fun h => by omega)]
  unfold binT
  rw [if_neg hA, if_neg hC, if_neg hL]
  simp only [opsA, opsC, opsL, List.mem_cons, List.not_mem_nil, or_false, not_or] at hA hC hL
  obtain ⟨a1, a2, a3⟩ := hA
  obtain ⟨b1, b2, b3, b4, b5, b6⟩ := hC
  obtain ⟨c1, c2⟩ := hL
  repeat' (first | refine W1 ?_ | refine WC_cond rfl (fun hc => absurd hc (by assumption)) (fun hc => ?_))
  first | refine WQ_ret1 rfl rfl ?_ | refine WQ_ret2 rfl rfl rfl ?_ | refine WQ_ret3 rfl rfl rfl rfl ?_ | refine WQ_ret0 rfl ?_ | refine WQ_end0 rfl ?_
  exact .mk ⟨rfl, hS⟩
end Go.Proofs.YtgpibcgebpgmiaaGreatDoor


namespace Go.Proofs.YtgpibcgebpgmiaaGreatDoor
open Go Go.Eng Go.RowKit
set_option linter.unusedVariables false

theorem _root_.Go.Eng.SlV.any {α : Type} [GoRep α] {X : List Nat} {w : World} {v : Value} {xs : List α} (h : SlV X w v xs) : SlV [] w v xs := h.ext (Stp.refl [] w) (by simp) (by simp)
/-- behind a new block, which may be written -/
theorem _root_.Go.Eng.SlV.new {α : Type} [GoRep α] {X : List Nat} {w w' : World} {v : Value} {xs : List α} (h : SlV X w v xs) (hS : Stp [] w w') (b : Nat) (hb : w.heap.size ≤ b) : SlV [b] w' v xs :=
  h.ext hS (by simp) (fun c hc => .inr (by simp at hc; omega))
theorem _root_.Go.Eng.SlV.on {α : Type} [GoRep α] {X S : List Nat} {w w' : World} {v : Value} {xs : List α} (h : SlV X w v xs) (hS : Stp S w w') (hs : ∀ b ∈ S, b ∈ X) : SlV X w' v xs := h.ext hS hs (fun _ h => .inl h)
def sigI (x : Sig) : Int := match sigF x with | .int _ z => z | _ => 0
theorem sigF_int (x : Sig) : sigF x = .int .i64 (sigI x) := by
  have : ∀ p ∈ sigs, ∃ z, p.2 = Value.int .i64 z := by
    intro p hp
    simp only [sigs, ents, units, List.map_cons, List.map_nil, List.flatMap_cons, List.flatMap_nil, unitE, List.cons_append, List.nil_append, List.append_nil, List.mem_cons, List.not_mem_nil, or_false, ent] at hp
    rcases hp with rfl | rfl | rfl | rfl | rfl | rfl | rfl | rfl | rfl | rfl | rfl | rfl | rfl | rfl | rfl <;> exact ⟨_, rfl⟩
  unfold sigI sigF mget
  cases h : sigs.find? (fun p => decide (p.1 = x)) with
  | none => rfl
  | some p =>
    obtain ⟨z, hz⟩ := this p (List.mem_of_find?_eq_some h)
    simp only [hz]
/-- the type of a node for those of its kids -/
def combT (k n : Int) (s : Str) (ts : List Int) : Int :=
  if ts.length > 3 then 0 else if (0 : Int) ∈ ts then 0 else if ts = [] then leafN k n s else if ¬ n = 0 then 0
  else if k = 9 ∧ s = [] ∧ ts.getD 0 0 = 2 ∧ ts.getD 1 0 = ts.getD 2 0 then ts.getD 1 0
  else if k = 6 ∧ ts.getD 2 0 = 0 then binT s (ts.getD 0 0) (ts.getD 1 0) else sigI ⟨k, s, ts.getD 0 0, ts.getD 1 0, ts.getD 2 0⟩
def typeT : Nd → Int
  | .mk k n s l => combT k n s (l.map typeT)
theorem typeT_eq (x : Nd) : typeT x = combT x.kind x.num x.word (x.kids.map typeT) := by
  cases x
  rw [typeT]
  rfl
def arrC (ts : List Int) (k : Nat) : List Value := [.int .i64 (if 0 < k then ts.getD 0 0 else 0), .int .i64 (if 1 < k then ts.getD 1 0 else 0), .int .i64 (if 2 < k then ts.getD 2 0 else 0)]
theorem arrC_set (ts : List Int) (k : Nat) (hk : k < 3) : (arrC ts k).set (0 + k * 1) (.int .i64 (ts.getD k 0)) = arrC ts (k + 1) := by
  match k, hk with
  | 0, _ => rfl
  | 1, _ => rfl
  | 2, _ => rfl
theorem arrC_get (ts : List Int) (k : Nat) (hk : k < 3) : (arrC ts (k + 1))[0 + k * 1]? = some (.int .i64 (ts.getD k 0)) := by
  match k, hk with
  | 0, _ => rfl
  | 1, _ => rfl
  | 2, _ => rfl
theorem arrC_end (ts : List Int) (h : ts.length ≤ 3) : arrC ts ts.length = [.int .i64 (ts.getD 0 0), .int .i64 (ts.getD 1 0), .int .i64 (ts.getD 2 0)] := by
  match ts, h with
  | [], _ => rfl
  | [a], _ => rfl
  | [a, b], _ => rfl
  | [a, b, c], _ => rfl
theorem of_any (x : Nd) : ∀ (X XF : List Nat) (v : Value) (w : World), NdV X w v x → SlV XF w flds fieldNames →
    Calls Tryz.prog 56 #[v] w (Ret fun r w' => r = .int .i64 (typeT x) ∧ Stp [] w w') := by
  induction x using Nd.ind with
  | h k n s l ih =>
  intro X XF v w hx hF
  generalize hxe : Nd.mk k n s l = x at *
  have ih' : ∀ y ∈ x.kids, ∀ (X XF : List Nat) (v : Value) (w : World), NdV X w v y → SlV XF w flds fieldNames → Calls Tryz.prog 56 #[v] w (Ret fun r w' => r = .int .i64 (typeT y) ∧ Stp [] w w') := by
    subst hxe; exact ih
  clear ih hxe k n s l
  have hx0 := hx
  obtain ⟨kv, rfl, hs⟩ := hx
  have hmax := hs.max
  rw [typeT_eq]
  have hlen : (x.kids.map typeT).length = x.kids.length := by simp
  have hget : ∀ k (h : k < x.kids.length), (x.kids.map typeT).getD k 0 = typeT x.kids[k] := fun k h => by simp [List.getD, h]
  generalize hts : x.kids.map typeT = ts at *
  refine calls_of_WC1 (n := 80) Tryz.func56 rfl rfl rfl ?_
  refine W ?_
  refine WL_eff (OE_box rfl) rfl ?_
  rintro _ w1 ⟨b, rfl, hb, hblk, hS⟩
  replace hblk : Blk w1 b _ (ndC x kv) := hblk
  replace hs := hs.up hS
  replace hF := hF.up hS
  have hlt := hblk.lt
  refine W ?_
  refine WL_eff OE_alloc rfl ?_
  rintro _ w2 ⟨q, rfl, hq, harr, hS2⟩
  replace harr : Blk w2 q _ (arrC ts 0) := harr
  replace hblk := hblk.up hS2
  replace hs := hs.new hS2 q hq
  replace hF := hF.new hS2 q hq
  replace hS := hS.trans hS2
  have hwq : w.heap.size ≤ q := Nat.le_trans (Nat.le_trans hb (Nat.le_of_lt hlt)) hq
  have hbq : ¬ b = q := by omega
  repeat' (first | refine W1 ?_ | (exfalso; omega) | refine WL_split rfl rfl (fun hg => ?_) (fun hg => ?_) | refine WL_splitB rfl rfl (fun hg => ?_) (fun hg => ?_) | refine WC_cond rfl (fun hc => ?_) (fun hc => ?_) | refine WC_condB rfl (fun hc => ?_) (fun hc => ?_))
  · first | refine WQ_ret1 rfl rfl ?_ | refine WQ_ret2 rfl rfl rfl ?_ | refine WQ_ret3 rfl rfl rfl rfl ?_ | refine WQ_ret0 rfl ?_ | refine WQ_end0 rfl ?_
    refine .mk ⟨?_, hS⟩
    unfold combT
    rw [if_pos (by omega)]
  have hl3 : x.kids.length ≤ 3 := by omega
  refine WC_cutB (σ := Unit) (fun _ => [(1, .pointer (some ⟨b, 0, none⟩)), (3, .pointer (some ⟨q, 0, none⟩))]) (fun _ w' => Stp [q] w2 w' ∧ Blk w' q 158 [.int .i64 (ts.getD 0 0), .int .i64 (ts.getD 1 0), .int .i64 (ts.getD 2 0)] ∧ ¬ (0 : Int) ∈ ts) ?_ ?_
  · have hs0 := hs
    have hF0 := hF
    refine WC_loop (σ := Nat) (fun k => [(1, .pointer (some ⟨b, 0, none⟩)), (3, .pointer (some ⟨q, 0, none⟩)), (11, kv), (12, .int .i64 (x.kids.length : Int)), (13, .int .i64 k)]) (fun k w' => k ≤ x.kids.length ∧ Stp [q] w2 w' ∧ Blk w' q 158 (arrC ts k) ∧ ¬ (0 : Int) ∈ ts.take k) (fun k => x.kids.length - k) 0 ⟨rfl, rfl, rfl, rfl, rfl, trivial⟩ ⟨Nat.zero_le _, Stp.refl _ _, harr, by simp⟩ ?_
    clear hs hF harr
    rintro k w3 ⟨hk, hS3, harr, hno⟩
    have hs := hs0.on hS3 (by simp)
    have hF := hF0.on hS3 (by simp)
    by_cases hlt : k < x.kids.length
    · have hk3 : k < 3 := by omega
      have hg := hget k hlt
      have hset := arrC_set ts k hk3
      have hgt := arrC_get ts k hk3
      rw [hg] at hset hgt
      obtain ⟨kv2, hs2, hc2⟩ := hs.nd hlt
      repeat' (first | refine W1 ?_ | (exfalso; omega) | refine WL_split rfl rfl (fun hg => ?_) (fun hg => ?_) | refine WL_splitB rfl rfl (fun hg => ?_) (fun hg => ?_) | refine WC_cond rfl (fun hc => ?_) (fun hc => ?_) | refine WC_condB rfl (fun hc => ?_) (fun hc => ?_))
      apply WL_pure (PR_loadNd rfl rfl hs hlt hc2) rfl
      refine WL_eff OE_alloc rfl ?_
      rintro _ w4 ⟨b4, rfl, hb4, hblk4, hS4⟩
      have harl := harr.lt
      replace harr := harr.up hS4
      refine W ?_
      refine WL_eff0 (OE_storeA (us := ndC x.kids[k] kv2) rfl rfl rfl rfl (ndC_one hs2) hblk4 rfl) ?_
      rintro _ w5 ⟨hS5, hblk5⟩
      have h4q : ¬ b4 = q := by omega
      replace harr := harr.ext hS5 (by simp; omega)
      have hS45 := hS4.own hS5 (fun c hc => .inr (by simp at hc; omega))
      replace hs2 := hs2.up hS45
      replace hF := hF.up hS45
      refine W ?_
      refine WL_eff (OE_call rfl (evs1 rfl) (ih' x.kids[k] (List.getElem_mem hlt) _ _ _ _ ⟨kv2, rfl, hs2⟩ hF)) rfl ?_
      rintro _ w6 ⟨rfl, hS6⟩
      replace harr := harr.up hS6
      refine W ?_
      refine WL_eff0 (OE_store1 (u := .int .i64 (typeT x.kids[k])) rfl rfl rfl rfl harr (by simp [arrC]; omega)) ?_
      rintro _ w7 ⟨hS7, harr⟩
      rw [hset] at harr
      have hS37 := ((hS3.trans (hS45.mono (by simp))).trans (hS6.mono (by simp))).trans hS7
      have hnx : ts.take (k + 1) = ts.take k ++ [typeT x.kids[k]] := by
        rw [List.take_succ_eq_append_getElem (by omega)]
        congr 2
        subst hts
        simp
      repeat' (first | refine W1 ?_ | (exfalso; omega) | refine WL_split rfl rfl (fun hg => ?_) (fun hg => ?_) | refine WL_splitB rfl rfl (fun hg => ?_) (fun hg => ?_) | refine WC_cond rfl (fun hc => ?_) (fun hc => ?_) | refine WC_condB rfl (fun hc => ?_) (fun hc => ?_))
      apply WL_load1 rfl rfl (harr.cell hgt) rfl
      repeat' (first | refine W1 ?_ | (exfalso; omega) | refine WL_split rfl rfl (fun hg => ?_) (fun hg => ?_) | refine WL_splitB rfl rfl (fun hg => ?_) (fun hg => ?_) | refine WC_cond rfl (fun hc => ?_) (fun hc => ?_) | refine WC_condB rfl (fun hc => ?_) (fun hc => ?_))
      · first | refine WQ_ret1 rfl rfl ?_ | refine WQ_ret2 rfl rfl rfl ?_ | refine WQ_ret3 rfl rfl rfl rfl ?_ | refine WQ_ret0 rfl ?_ | refine WQ_end0 rfl ?_
        have h0' : typeT x.kids[k] = 0 := hc
        refine .mk ⟨?_, hS.own hS37 (fun c hc => .inr (by simp at hc; omega))⟩
        unfold combT
        rw [if_neg (by omega), if_pos]
        have : typeT x.kids[k] ∈ ts := by
          subst hts
          exact List.mem_map_of_mem (List.getElem_mem hlt)
        rwa [h0'] at this
      · refine WQ_loop (k + 1) ⟨rfl, rfl, rfl, rfl, rfl, trivial⟩ ⟨hlt, hS37, harr, ?_⟩ (by omega)
        rw [hnx, List.mem_append]
        rintro (h | h)
        · exact hno h
        · simp only [List.mem_singleton] at h
          exact hc h.symm
    · have hke : k = x.kids.length := by omega
      subst hke
      repeat' (first | refine W1 ?_ | (exfalso; omega) | refine WL_split rfl rfl (fun hg => ?_) (fun hg => ?_) | refine WL_splitB rfl rfl (fun hg => ?_) (fun hg => ?_) | refine WC_cond rfl (fun hc => ?_) (fun hc => ?_) | refine WC_condB rfl (fun hc => ?_) (fun hc => ?_))
      rw [← hlen, arrC_end ts (by omega)] at harr
      rw [← hlen, List.take_length] at hno
      exact WQ_cut () ⟨rfl, rfl, trivial⟩ ⟨hS3, harr, hno⟩
  rintro _ w3 ⟨hS3, harr, hno⟩
  replace hblk := hblk.ext hS3 (by simpa using hbq)
  replace hF := hF.on hS3 (by simp)
  replace hs := hs.on hS3 (by simp)
  replace hS := hS.own hS3 (fun c hc => .inr (by simp at hc; omega))
  unfold combT
  rw [if_neg (by omega), if_neg hno]
  by_cases h0 : x.kids.length = 0
  · rw [if_pos (List.length_eq_zero_iff.1 (by omega))]
    repeat' (first | refine W1 ?_ | (exfalso; omega) | refine WL_split rfl rfl (fun hg => ?_) (fun hg => ?_) | refine WL_splitB rfl rfl (fun hg => ?_) (fun hg => ?_) | refine WC_cond rfl (fun hc => ?_) (fun hc => ?_) | refine WC_condB rfl (fun hc => ?_) (fun hc => ?_))
    refine WL_eff (OE_call rfl (evs1 rfl) (leaf_any [q] _ x _ ⟨kv, rfl, hs⟩ hF.any)) rfl ?_
    rintro _ w4 ⟨rfl, hS4⟩
    refine W ?_
    first | refine WQ_ret1 rfl rfl ?_ | refine WQ_ret2 rfl rfl rfl ?_ | refine WQ_ret3 rfl rfl rfl rfl ?_ | refine WQ_ret0 rfl ?_ | refine WQ_end0 rfl ?_
    exact .mk ⟨rfl, hS.trans hS4⟩
  rw [if_neg (fun h => h0 (by rw [← hlen, h]; rfl))]
  clear hget hts
  generalize ts.getD 0 0 = a at *
  generalize ts.getD 1 0 = bb at *
  generalize ts.getD 2 0 = c at *
  repeat' (first | refine W1 ?_ | (exfalso; omega) | refine WL_split rfl rfl (fun hg => ?_) (fun hg => ?_) | refine WL_splitB rfl rfl (fun hg => ?_) (fun hg => ?_) | refine WC_cond rfl (fun hc => ?_) (fun hc => ?_) | refine WC_condB rfl (fun hc => ?_) (fun hc => ?_))
  · first | refine WQ_ret1 rfl rfl ?_ | refine WQ_ret2 rfl rfl rfl ?_ | refine WQ_ret3 rfl rfl rfl rfl ?_ | refine WQ_ret0 rfl ?_ | refine WQ_end0 rfl ?_
    exact .mk ⟨by rw [if_pos (by assumption)], hS⟩
  all_goals rw [if_neg (by assumption)]
  all_goals first
    | (have h9 : x.kind = 9 ∧ x.word = [] ∧ a = 2 ∧ bb = c := ⟨by assumption, by assumption, by assumption, by assumption⟩
       rw [if_pos h9]
       first | refine WQ_ret1 rfl rfl ?_ | refine WQ_ret2 rfl rfl rfl ?_ | refine WQ_ret3 rfl rfl rfl rfl ?_ | refine WQ_ret0 rfl ?_ | refine WQ_end0 rfl ?_
       exact .mk ⟨rfl, hS⟩)
    | rw [show (if x.kind = 9 ∧ x.word = [] ∧ a = 2 ∧ bb = c then bb else if x.kind = 6 ∧ c = 0 then binT x.word a bb else sigI ⟨x.kind, x.word, a, bb, c⟩) = if x.kind = 6 ∧ c = 0 then binT x.word a bb else sigI ⟨x.kind, x.word, a, bb, c⟩ from if_neg (fun h => by
        obtain ⟨h1, h2, h3, h4⟩ := h
        first | (exfalso; omega) | contradiction)]
  all_goals first
    | (have h6 : x.kind = 6 ∧ c = 0 := ⟨by assumption, by assumption⟩
       rw [if_pos h6]
       refine WL_eff (OE_call rfl (evs2 rfl rfl) (binary_any x.word a bb c _)) rfl ?_
       rintro _ w4 ⟨rfl, hS4⟩
       refine W ?_
       first | refine WQ_ret1 rfl rfl ?_ | refine WQ_ret2 rfl rfl rfl ?_ | refine WQ_ret3 rfl rfl rfl rfl ?_ | refine WQ_ret0 rfl ?_ | refine WQ_end0 rfl ?_
       exact .mk ⟨rfl, hS.trans hS4⟩)
    | rw [show (if x.kind = 6 ∧ c = 0 then binT x.word a bb else sigI ⟨x.kind, x.word, a, bb, c⟩) = sigI ⟨x.kind, x.word, a, bb, c⟩ from if_neg (fun h => by omega)]
  all_goals
    refine WC_drawn 9 [] [] [(1, 0), (2, 1), (3, 0), (4, 1), (5, 1), (6, 0), (0, 2), (7, 2), (8, 0)] rfl mixed (by kernel_rfl) (by kernel_rfl) (by kernel_rfl) (fun w1 hS1 => ?_)
    replace hblk := hblk.up hS1
    replace harr := harr.up hS1
    replace hS := hS.trans hS1
    refine D ?_
    apply WD_op
    exact rfl
    apply WO_build (vs := [(0, .int .i64 _), (1, str _), (2, arr3 _ _ _)])
    exact trivial
    exact rfl
    exact buildSg _ _ _ _ _
    exact rfl
    refine WD_eff rfl trivial (OE_call rfl evs0 (signatures_any _)) (fun _ _ h => h.choose_spec.choose_spec.2.2.2) rfl ?_
    rintro _ w5 ⟨m, ll, rfl, hm, hp, hS5⟩
    have hmg := sigF_int ⟨x.kind, x.word, a, bb, c⟩
    unfold sigF at hmg
    rw [← mget_perm hp sigs_nodup] at hmg
    refine WD_eff rfl trivial (OE_pr (PR_lookup (a := (⟨x.kind, x.word, a, bb, c⟩ : Sig)) rfl rfl hm)) (fun _ _ h => h.2 ▸ Stp.refl _ _) rfl ?_
    rintro _ _ ⟨rfl, rfl⟩
    rw [hmg]
    refine D ?_
    refine W ?_
    first | refine WQ_ret1 rfl rfl ?_ | refine WQ_ret2 rfl rfl rfl ?_ | refine WQ_ret3 rfl rfl rfl rfl ?_ | refine WQ_ret0 rfl ?_ | refine WQ_end0 rfl ?_
    exact .mk ⟨rfl, hS.trans hS5⟩
end Go.Proofs.YtgpibcgebpgmiaaGreatDoor


namespace Go.Proofs.YtgpibcgebpgmiaaGreatDoor
open Go Go.Eng Go.RowKit
set_option linter.unusedVariables false

def opsN : List Str := [[110, 101, 120, 116], [112, 114, 101, 118]]
def opsE : List Str := [[108, 97, 116, 101, 114], [101, 97, 114, 108, 105, 101, 114]]
end Go.Proofs.YtgpibcgebpgmiaaGreatDoor


namespace Go.Proofs.YtgpibcgebpgmiaaGreatDoor
open Go Go.Eng Go.RowKit
set_option linter.unusedVariables false

/-! ### nesting -/
def nestN : Nd → Nat
  | .mk k n s l => 1 + (l.map nestN).foldl max 0
theorem nestN_eq (x : Nd) : nestN x = 1 + (x.kids.map nestN).foldl max 0 := by
  cases x
  rw [nestN]
  rfl
theorem foldl_max_le (l : List Nat) : ∀ (m b : Nat), l.foldl max m ≤ b ↔ m ≤ b ∧ ∀ x ∈ l, x ≤ b := by
  induction l with
  | nil => intro m b; simp
  | cons y r ih =>
    intro m b
    rw [List.foldl_cons, ih]
    simp only [List.mem_cons, forall_eq_or_imp]
    constructor
    · rintro ⟨h1, h2⟩
      exact ⟨by omega, by omega, h2⟩
    · rintro ⟨h1, h2, h3⟩
      exact ⟨by omega, h3⟩
theorem nestedN_eq (m : Nat) : ∀ x : Nd, nestedN m x = decide (nestN x ≤ m) := by
  induction m with
  | zero =>
    intro x
    rw [nestN_eq]
    simp [nestedN]
  | succ m ih =>
    intro x
    rw [nestN_eq]
    have e : (1 + (x.kids.map nestN).foldl max 0 ≤ m + 1) ↔ ∀ y ∈ x.kids, nestN y ≤ m := by
      rw [show (1 + (x.kids.map nestN).foldl max 0 ≤ m + 1) ↔ (x.kids.map nestN).foldl max 0 ≤ m by omega, foldl_max_le]
      simp
    rw [Bool.eq_iff_iff, decide_eq_true_iff, e]
    simp only [nestedN, List.all_eq_true]
    exact ⟨fun h y hy => by have := h y hy; rw [ih] at this; simpa using this, fun h y hy => by rw [ih]; simpa using h y hy⟩
/-! ### types of nodes -/
theorem Of_any (X XF : List Nat) (v : Value) (x : Nd) (w : World) (hx : NdV X w v x) (hF : SlV XF w flds fieldNames) :
    Calls Tryz.prog 17 #[v] w (Ret fun r w' => r = .tuple #[.int .i64 (if nestN x ≤ 12 then typeT x else 0), .int .i64 (if nestN x ≤ 12 then (if typeT x = 0 then 21 else 0) else 2)] ∧ Stp [] w w') := by
  obtain ⟨kv, rfl, hs⟩ := hx
  refine calls_of_WC1 (n := 13) Tryz.func17 rfl rfl rfl ?_
  refine W ?_
  refine WL_eff (OE_box rfl) rfl ?_
  rintro _ w1 ⟨b, rfl, hbb, hblk, hS⟩
  replace hblk : Blk w1 b _ (ndC x kv) := hblk
  replace hs := hs.up hS; replace hF := hF.up hS
  refine W ?_
  refine WL_eff (OE_call rfl (evs2 rfl rfl) (nested_any 12 X _ x 12 _ rfl (by omega) ⟨kv, rfl, hs⟩)) rfl ?_
  rintro _ w2 ⟨rfl, hS2⟩
  replace hs := hs.up hS2; replace hF := hF.up hS2; replace hblk := hblk.up hS2
  replace hS := hS.trans hS2
  rw [nestedN_eq]
  by_cases hn : nestN x ≤ 12
  · rw [decide_eq_true hn, if_pos hn, if_pos hn]
    refine W ?_
    refine WL_eff (OE_call rfl (evs1 rfl) (of_any x X XF _ _ ⟨kv, rfl, hs⟩ hF)) rfl ?_
    rintro _ w3 ⟨rfl, hS3⟩
    replace hS := hS.trans hS3
    repeat' (first | refine W1 ?_ | (exfalso; omega) | refine WL_split rfl rfl (fun hg => ?_) (fun hg => ?_) | refine WL_splitB rfl rfl (fun hg => ?_) (fun hg => ?_) | refine WC_cond rfl (fun hc => ?_) (fun hc => ?_) | refine WC_condB rfl (fun hc => ?_) (fun hc => ?_))
    · first | refine WQ_ret1 rfl rfl ?_ | refine WQ_ret2 rfl rfl rfl ?_ | refine WQ_ret3 rfl rfl rfl rfl ?_ | refine WQ_ret0 rfl ?_ | refine WQ_end0 rfl ?_
      exact .mk ⟨by rw [if_neg hc], hS⟩
    · first | refine WQ_ret1 rfl rfl ?_ | refine WQ_ret2 rfl rfl rfl ?_ | refine WQ_ret3 rfl rfl rfl rfl ?_ | refine WQ_ret0 rfl ?_ | refine WQ_end0 rfl ?_
      have h0 : typeT x = 0 := by omega
      exact .mk ⟨by rw [if_pos h0, h0], hS⟩
  · rw [decide_eq_false hn, if_neg hn, if_neg hn]
    refine W ?_
    first | refine WQ_ret1 rfl rfl ?_ | refine WQ_ret2 rfl rfl rfl ?_ | refine WQ_ret3 rfl rfl rfl rfl ?_ | refine WQ_ret0 rfl ?_ | refine WQ_end0 rfl ?_
    exact .mk ⟨rfl, hS⟩
end Go.Proofs.YtgpibcgebpgmiaaGreatDoor


namespace Go.Proofs.YtgpibcgebpgmiaaGreatDoor
open Go Go.Eng Go.RowKit
set_option linter.unusedVariables false

def okN : Nd → Bool
  | .mk k n s l => decide (l.length ≤ 1000) && (l.map okN).all id
theorem okN_iff (x : Nd) : okN x = true ↔ x.kids.length ≤ 1000 ∧ ∀ y ∈ x.kids, okN y = true := by
  cases x
  rw [okN]
  simp [Nd.kids]
end Go.Proofs.YtgpibcgebpgmiaaGreatDoor


namespace Go.Proofs.YtgpibcgebpgmiaaGreatDoor
open Go Go.Eng Go.RowKit
set_option linter.unusedVariables false

abbrev ndL (k n : Int) (s : Str) (kv : Value) : List Value := [.int .i64 k, .int .i64 n, str s, kv]
end Go.Proofs.YtgpibcgebpgmiaaGreatDoor


namespace Go.Proofs.YtgpibcgebpgmiaaGreatDoor
open Go Go.Eng Go.RowKit
set_option linter.unusedVariables false

/-- the number of nodes -/
def sizeN : Nd → Nat
  | .mk k n s l => 1 + (l.map sizeN).sum
theorem sizeN_eq (x : Nd) : sizeN x = 1 + (x.kids.map sizeN).sum := by
  cases x
  rw [sizeN]
  rfl
theorem sum_le_of_mem {l : List Nat} {a : Nat} (h : a ∈ l) : a ≤ l.sum := by
  induction l with
  | nil => cases h
  | cons x r ih =>
    rw [List.sum_cons]
    rcases List.mem_cons.1 h with rfl | h
    · omega
    · have := ih h; omega
theorem size_kid {x y : Nd} (h : y ∈ x.kids) : sizeN y < sizeN x := by
  rw [sizeN_eq x]
  have := sum_le_of_mem (List.mem_map_of_mem (f := sizeN) h)
  omega
theorem size_pos (x : Nd) : 1 ≤ sizeN x := by rw [sizeN_eq]; omega
theorem len_le_sum (l : List Nd) : l.length ≤ (l.map sizeN).sum := by
  induction l with
  | nil => simp
  | cons x r ih =>
    have := size_pos x
    simp
    omega
theorem okN_of_size (x : Nd) : sizeN x ≤ 1000 → okN x = true := by
  induction x using Nd.ind with
  | h k n s l ih =>
  intro h
  rw [okN_iff]
  have h1 := sizeN_eq (.mk k n s l)
  have h2 := len_le_sum l
  refine ⟨?_, fun y hy => ih y hy ?_⟩
  · show l.length ≤ 1000
    have : sizeN (.mk k n s l) = 1 + (l.map sizeN).sum := h1
    omega
  · have := size_kid (x := .mk k n s l) (y := y) hy
    omega
/-! ### what a node with a type looks like -/
def opsF : List Str := [[110, 101, 120, 116], [112, 114, 101, 118], [108, 97, 116, 101, 114], [101, 97, 114, 108, 105, 101, 114], [98, 101, 116, 119, 101, 101, 110]]
/-- the shapes of a node with kids -/
inductive Shape (k : Int) (s : Str) (m : Nat) : Prop
  | neg (h : k = 5) (hs : s = [45] ∨ s = [110, 111, 116]) (hm : m = 1)
  | bin (h : k = 6) (hs : s ∈ opsA ∨ s ∈ opsC ∨ s ∈ opsL) (hm : m = 2)
  | unit (h : k = 7 ∨ k = 8) (hs : s ∈ units) (hm : m = 2)
  | cond (h : k = 9) (hm : m = 3)
  | call (h : k = 10) (hs : s ∈ opsF) (hm : 1 ≤ m ∧ m ≤ 2)
end Go.Proofs.YtgpibcgebpgmiaaGreatDoor


namespace Go.Eng
open Go
structure Ins where
  op : Int
  n : Int
  deriving DecidableEq, Inhabited
instance : Flat Ins where
  k := 2
  enc := fun x => [.int .i64 x.op, .int .i64 x.n]
  len := fun _ => rfl
  one := by intro x u hu; simp at hu; rcases hu with rfl | rfl <;> rfl
/-- the value of a struct -/
def agg {α : Type} [Flat α] (x : α) : Value := .agg (Flat.enc x).toArray
theorem Row.keep {β : Type} [Flat β] {X S : List Nat} {w w' : World} {base T : Nat} {v : Value} {xs : List β} (h : Row X w base T v xs) (hS : Stp S w w') (hd : ∀ b ∈ S, b ∉ ob v) : Row X w' base T v xs := by
  have h' : Row S w base T v xs := h
  have := h'.ext (X' := X) hS (fun b hb => ⟨hb, hd b hb⟩)
  obtain ⟨css, h1, h2, h3⟩ := h
  refine ⟨css, h1, h2, ?_⟩
  have h4 : Row S w base T v xs := ⟨css, h1, h2, h3⟩
  obtain ⟨ho, hr⟩ := h3
  refine ⟨ho, ?_⟩
  rcases hr with hn | ⟨q, cap, cur, rfl, hb, hg, rest⟩
  · exact .inl hn
  · refine .inr ⟨q, cap, cur, rfl, hb, ?_, rest⟩
    rw [hS.block q (Array.getElem?_eq_some_iff.1 hg).1 (fun hq => hd q hq (by simp [ob]))]
    exact hg
end Go.Eng
namespace Go.Proofs.YtgpibcgebpgmiaaGreatDoor
open Go Go.Eng Go.RowKit
set_option linter.unusedVariables false

/-- a coder: its block, its row of code -/
structure Cod (w : World) (bc base : Nat) (v : Value) (xs : List Ins) : Prop where
  blk : Blk w bc 144 [v]
  row : Row [] w base 105 v xs
  apart : bc ∉ ob v
  low : bc < base
  top : base ≤ w.heap.size
/-- what a method of the coder leaves -/
def Cods (w : World) (bc base : Nat) (v : Value) (ys : List Ins) (w' : World) : Prop :=
  ∃ v', Cod w' bc base v' ys ∧ Stp (bc :: ob v) w w' ∧ ∀ b ∈ ob v', b ∈ ob v ∨ w.heap.size ≤ b
theorem Cod.up {w w' : World} {bc base : Nat} {v : Value} {xs : List Ins} (h : Cod w bc base v xs) (hS : Stp [] w w') : Cod w' bc base v xs :=
  ⟨h.blk.up hS, h.row.up hS, h.apart, h.low, Nat.le_trans h.top hS.size⟩
theorem Cods.pre {w0 w w' : World} {bc base : Nat} {v : Value} {ys : List Ins} (hS : Stp [] w0 w) (h : Cods w bc base v ys w') : Cods w0 bc base v ys w' := by
  obtain ⟨v', h1, h2, h3⟩ := h
  exact ⟨v', h1, (hS.mono (by simp)).trans h2, fun b hb => (h3 b hb).imp id (fun h => Nat.le_trans hS.size h)⟩
theorem Cods.post {w w1 w' : World} {bc base : Nat} {v : Value} {ys : List Ins} (h : Cods w bc base v ys w1) (hS : Stp [] w1 w') : Cods w bc base v ys w' := by
  obtain ⟨v', h1, h2, h3⟩ := h
  exact ⟨v', h1.up hS, h2.trans (hS.mono (by simp)), h3⟩
/-- one after another -/
theorem Cods.next {w w1 w2 : World} {bc base : Nat} {v v1 : Value} {zs : List Ins} (hS : Stp (bc :: ob v) w w1) (hb : ∀ b ∈ ob v1, b ∈ ob v ∨ w.heap.size ≤ b) (h : Cods w1 bc base v1 zs w2) : Cods w bc base v zs w2 := by
  obtain ⟨v', h1, h2, h3⟩ := h
  refine ⟨v', h1, ?_, fun b hb' => ?_⟩
  · exact hS.own h2 (fun b hb' => by
      rcases List.mem_cons.1 hb' with rfl | h
      · exact .inl (by simp)
      · exact (hb b h).imp (fun h => List.mem_cons_of_mem _ h) id)
  · rcases h3 b hb' with h | h
    · exact hb b h
    · exact .inr (Nat.le_trans hS.size h)
/-- what is not the coder's stays -/
theorem keepX {w w' : World} {bc : Nat} {v v' : Value} {α : Type} [GoRep α] {u : Value} {xs : List α} (h : SlV (bc :: ob v) w u xs) (hS : Stp (bc :: ob v) w w') (hb : ∀ b ∈ ob v', b ∈ ob v ∨ w.heap.size ≤ b) : SlV (bc :: ob v') w' u xs :=
  h.ext hS (fun _ h => h) (fun b hb' => by
    rcases List.mem_cons.1 hb' with rfl | h
    · exact .inl (by simp)
    · exact (hb b h).imp (fun h => List.mem_cons_of_mem _ h) id)
end Go.Proofs.YtgpibcgebpgmiaaGreatDoor


namespace Go.Proofs.YtgpibcgebpgmiaaGreatDoor
open Go Go.Eng Go.RowKit
set_option linter.unusedVariables false

/-- the coder on its way from w0 -/
structure Fr (w0 w : World) (bc base : Nat) (v0 v : Value) (xs : List Ins) : Prop where
  cod : Cod w bc base v xs
  stp : Stp (bc :: ob v0) w0 w
  sub : ∀ b ∈ ob v, b ∈ ob v0 ∨ w0.heap.size ≤ b
theorem Fr.step {w0 w w' : World} {bc base : Nat} {v0 v : Value} {xs ys : List Ins} (h : Fr w0 w bc base v0 v xs) (k : Cods w bc base v ys w') : ∃ v', Fr w0 w' bc base v0 v' ys := by
  obtain ⟨v', h1, h2, h3⟩ := Cods.next h.stp h.sub k
  exact ⟨v', h1, h2, h3⟩
theorem Fr.up {w0 w w' : World} {bc base : Nat} {v0 v : Value} {xs : List Ins} (h : Fr w0 w bc base v0 v xs) (hS : Stp [] w w') : Fr w0 w' bc base v0 v xs := ⟨h.cod.up hS, h.stp.trans (hS.mono (by simp)), h.sub⟩
theorem Fr.fin {w0 w : World} {bc base : Nat} {v0 v : Value} {xs : List Ins} (h : Fr w0 w bc base v0 v xs) : Cods w0 bc base v0 xs w := ⟨v, h.cod, h.stp, h.sub⟩
theorem Fr.sl {w0 w : World} {bc base : Nat} {v0 v : Value} {xs : List Ins} {α : Type} [GoRep α] {u : Value} {ys : List α} (h : Fr w0 w bc base v0 v xs) (hs : SlV (bc :: ob v0) w0 u ys) : SlV (bc :: ob v) w u ys := keepX hs h.stp h.sub
theorem Fr.bk {w0 w : World} {bc base b T : Nat} {v0 v : Value} {xs : List Ins} {cs : List Value} (h : Fr w0 w bc base v0 v xs) (hb : Blk w0 b T cs) (hn : b ∉ bc :: ob v0) : Blk w b T cs := hb.ext h.stp hn
end Go.Proofs.YtgpibcgebpgmiaaGreatDoor


namespace Go.Proofs.YtgpibcgebpgmiaaGreatDoor
open Go Go.Eng Go.RowKit
set_option linter.unusedVariables false

/-- a map from strings to slices of numbers -/
def MapS (X : List Nat) (w : World) (r : Nat) (es : List (Str × List Int)) : Prop :=
  ∃ l : List (Str × Value), MapAt str w r l ∧ l.length = es.length ∧ ∀ i (h : i < l.length) (h' : i < es.length), l[i].1 = es[i].1 ∧ SlV (r :: X) w l[i].2 es[i].2
theorem MapS.up {X : List Nat} {w w' : World} {r : Nat} {es : List (Str × List Int)} (h : MapS X w r es) (hS : Stp [] w w') : MapS X w' r es := by
  obtain ⟨l, h1, h2, h3⟩ := h
  exact ⟨l, h1.up hS, h2, fun i h h' => ⟨(h3 i h h').1, (h3 i h h').2.up hS⟩⟩
def opEs : List (Str × List Int) := [([43], [5]), ([42], [7]), ([110, 111, 116], [12]), ([60], [9]), ([60, 61], [10]), ([61], [11]), ([62], [10, 12]), ([62, 61], [9, 12]), ([33, 61], [11, 12]), ([100, 97, 121, 115], [15]), ([119, 101, 101, 107, 115], [16]), ([109, 111, 110, 116, 104, 115], [17]), ([99, 111, 117, 114, 116, 100, 97, 121, 115], [18]), ([110, 101, 120, 116], [19]), ([112, 114, 101, 118], [20]), ([108, 97, 116, 101, 114], [21]), ([101, 97, 114, 108, 105, 101, 114], [22]), ([98, 101, 116, 119, 101, 101, 110], [23])]
/-- the instructions of a word -/
def opF (s : Str) : List Int := match opEs.find? (fun p => decide (p.1 = s)) with | some p => p.2 | none => []
end Go.Proofs.YtgpibcgebpgmiaaGreatDoor


namespace Go.Proofs.YtgpibcgebpgmiaaGreatDoor
open Go Go.Eng Go.RowKit
set_option linter.unusedVariables false

end Go.Proofs.YtgpibcgebpgmiaaGreatDoor


namespace Go.Proofs.YtgpibcgebpgmiaaGreatDoor
open Go Go.Eng Go.RowKit
set_option linter.unusedVariables false

theorem nilSlv {α : Type} [GoRep α] (X : List Nat) (w : World) : SlV (α := α) X w (.slice none 0 0) [] := ⟨none, 0, rfl, Nat.le_refl _, by simp [maxLen], fun _ => rfl, fun i h => absurd h (Nat.not_lt_zero _)⟩
end Go.Proofs.YtgpibcgebpgmiaaGreatDoor


namespace Go.Proofs.YtgpibcgebpgmiaaGreatDoor
open Go Go.Eng Go.RowKit
set_option linter.unusedVariables false

theorem cell_on {α : Type} [GoRep α] {X : List Nat} {w w' : World} {v u : Value} {l : List α} {i k j : Nat} (hs : SlV X w v l) (hi : i < l.length) (hS : Stp X w w') (h : w.cell? (elAddr v i k j) = some u) : w'.cell? (elAddr v i k j) = some u := by
  obtain ⟨p, c, rfl, _, _, _, hc⟩ := hs
  obtain ⟨b, o, cs, rfl, _, hx, _⟩ := hc i hi
  exact hS.cell hx h
end Go.Proofs.YtgpibcgebpgmiaaGreatDoor


namespace Go.Proofs.YtgpibcgebpgmiaaGreatDoor
open Go Go.Eng Go.RowKit
set_option linter.unusedVariables false

/-- the operations that follow the kids of a node -/
def plainO (k : Int) (s : Str) : List Int := (if k = 8 ∨ k = 5 ∧ s = [45] then [8] else []) ++ opF s ++ (if k = 6 ∧ s = [45] then [6] else [])
def names9 : List Str := [[43], [45], [42], [60], [60, 61], [61], [62], [62, 61], [33, 61]]
def codes9 : List (Sl Int) := [⟨[5]⟩, ⟨[6]⟩, ⟨[7]⟩, ⟨[9]⟩, ⟨[10]⟩, ⟨[11]⟩, ⟨[10, 12]⟩, ⟨[9, 12]⟩, ⟨[11, 12]⟩]
theorem o6 {s : Str} (h : s ∈ opsA ∨ s ∈ opsC ∨ s ∈ opsL) (ha : ¬ s = [97, 110, 100]) (ho : ¬ s = [111, 114]) : ∃ i, ∃ h : i < codes9.length, idx (isS s) names9 = (i : Int) ∧ codes9[i].l = plainO 6 s := by
  simp only [opsA, opsC, opsL, List.mem_cons, List.not_mem_nil, or_false] at h
  rcases h with (h | h | h) | (h | h | h | h | h | h) | (h | h) <;> subst h
  · exact ⟨0, by decide, by decide, by decide⟩
  · exact ⟨1, by decide, by decide, by decide⟩
  · exact ⟨2, by decide, by decide, by decide⟩
  · exact ⟨3, by decide, by decide, by decide⟩
  · exact ⟨4, by decide, by decide, by decide⟩
  · exact ⟨5, by decide, by decide, by decide⟩
  · exact ⟨8, by decide, by decide, by decide⟩
  · exact ⟨6, by decide, by decide, by decide⟩
  · exact ⟨7, by decide, by decide, by decide⟩
  · exact absurd rfl ha
  · exact absurd rfl ho
theorem oC {s : Str} (h : s ∈ opsF) : ∃ i, ∃ h : i < [(19 : Int), 20, 21, 22, 23].length, idx (isS s) opsF = (i : Int) ∧ plainO 10 s = [[(19 : Int), 20, 21, 22, 23][i]] := by
  simp only [opsF, List.mem_cons, List.not_mem_nil, or_false] at h
  rcases h with h | h | h | h | h <;> subst h
  · exact ⟨0, by decide, by decide, by decide⟩
  · exact ⟨1, by decide, by decide, by decide⟩
  · exact ⟨2, by decide, by decide, by decide⟩
  · exact ⟨3, by decide, by decide, by decide⟩
  · exact ⟨4, by decide, by decide, by decide⟩
end Go.Proofs.YtgpibcgebpgmiaaGreatDoor


namespace Go.Eng
open Go Go.RowKit Go.Proofs
set_option linter.unusedVariables false
theorem NewSl.slvG {α : Type} [GoRep α] {w w' : World} {X : List Nat} {T len : Nat} {cs : List Value} {v : Value} {ys : List α} {css : List (List Value)} (h : NewSl w T len cs v w') (hX : ∀ b ∈ X, b < w.heap.size) (hl : len = ys.length) (hcl : css.length = ys.length)
    (hc : cs = css.flatten) (hr : ∀ i (hi : i < ys.length) (hi' : i < css.length), GoRep.rep X w ys[i] css[i]) (hm : ys.length ≤ maxLen) : SlV X w' v ys := by
  obtain ⟨b, rfl, hb, hblk, hS⟩ := h
  subst hl
  subst hc
  have hk : ∀ c ∈ css, c.length = GoRep.k α := by
    intro c hc
    obtain ⟨i, hi, rfl⟩ := List.getElem_of_mem hc
    exact GoRep.len (hr i (by omega) hi)
  refine ⟨some ⟨b, 0, none⟩, ys.length, rfl, Nat.le_refl _, hm, fun h => by simp at h, fun i hi => ⟨b, 0, css[i]'(by omega), rfl, hblk.lt, fun hx => by have := hX b hx; omega, GoRep.ext (hr i hi (by omega)) hS (by simp) (fun b hb => .inl hb), fun j u hu => ?_⟩⟩
  refine hblk.cell ?_
  have := flatten_at css hk i (by omega) j u hu
  rw [Nat.zero_add]
  exact this
theorem SlV.wk {α : Type} [GoRep α] {X X' : List Nat} {w : World} {v : Value} {l : List α} (h : SlV X w v l) (hs : ∀ b ∈ X', b ∈ X) : SlV X' w v l := h.ext (Stp.refl [] w) (by simp) (fun b hb => .inl (hs b hb))
end Go.Eng
namespace Go.Proofs.YtgpibcgebpgmiaaGreatDoor
open Go Go.Eng Go.RowKit
set_option linter.unusedVariables false

theorem buildSN1 (k n : Int) (s : Str) (p : Option Addr) (l c : Nat) (w : World) : (Instr.buildSlice 34 1 #[(0, .agg #[.int .i64 k, .int .i64 n, str s, .slice p l c])]).run Tryz.prog w = .ok (.slice (some ⟨w.heap.size, 0, none⟩) 1 1) (w.alloc (.cells #[.int .i64 k, .int .i64 n, str s, .slice p l c] 36)) := by kernel_rfl
end Go.Proofs.YtgpibcgebpgmiaaGreatDoor

