/-
Arguments opened: a slice of plain data reads as a list ('SlV').
-/
import Derived.Test.YtddopcmemiheaaaEng6
import Derived.Deep.Slices
import Derived.Deep.Fields
import Derived.ChangeSame
import Derived.Below
namespace Go.Eng
open Go Go.RowKit Go.Proofs Go.ChangeShapes Go.WideShapes Go.Deep
set_option linter.unusedVariables false
section
variable {H : Type} {enc : TypeId × Value → H} {P : Program} {w : World} {base : Nat} {spare : Nat → Bool} {held : Bool}
theorem addr_add (b o n : Nat) : (⟨b, o, none⟩ : Addr).add n = ⟨b, o + n, none⟩ := by
  unfold Addr.add
  split
  · rename_i h; subst h; rfl
  · rfl
/-- how many elements a datum lists -/
def dlen : DataW H → Nat
  | .slice els _ => els.length
  | _ => 0
theorem slv_of_trod {α : Type} [Flat α] {ok : α → Prop} {t e : TypeId} {fuel : Nat} {cs : List Value} {x : DataW H × List MemPlace} (ht : P.underlying t = some (.slice e)) (hC : P.cellsOf e = Flat.k α) (hpos : 0 < Flat.k α)
    (hread : ∀ n cs' y, cs'.length = Flat.k α → DataW.trod enc P w base spare held n e cs' = some y → ∃ a : α, cs' = Flat.enc a ∧ ok a)
    (h : DataW.trod enc P w base spare held fuel t cs = some x) : ∃ (v : Value) (xs : List α), cs = [v] ∧ SlV [] w v xs ∧ (∀ a ∈ xs, ok a) ∧ dlen x.1 = xs.length := by
  rcases open_slice ht h with ⟨rfl, rfl⟩ | ⟨a, len, cap, m, n, D, Pl, rfl, hb, hl, hm, hmm, hx, hi⟩
  · exact ⟨_, [], rfl, ⟨none, 0, rfl, Nat.le_refl _, by simp [maxLen], fun _ => rfl, fun i h => absurd h (Nat.not_lt_zero _)⟩, by simp, rfl⟩
  · have hlm : len ≤ m := by rw [hmm]; split <;> omega
    have hne : ∀ y : α, ∃ u, (Flat.enc y)[0]? = some u := fun y => ⟨_, List.getElem?_eq_getElem (by rw [Flat.len y]; exact hpos)⟩
    have hall : ∀ i : Fin len, ∃ y : α, ok y ∧ ∀ j u, (Flat.enc y)[j]? = some u → w.cell? (a.add (i * Flat.k α + j)) = some u := by
      intro i
      obtain ⟨cs', hc, htr⟩ := hi i (by omega)
      rw [hC] at hc
      obtain ⟨_, hcl, hat⟩ := World.cells?_some hc
      obtain ⟨y, rfl, hok⟩ := hread n cs' _ hcl htr
      refine ⟨y, hok, fun j u hu => ?_⟩
      have hj : j < Flat.k α := by
        have := (List.getElem?_eq_some_iff.1 hu).1
        rw [Flat.len] at this; exact this
      have := hat j hj
      rw [hu] at this
      rw [← this, Go.Deep.add_add]
    let f : Fin len → α := fun i => (hall i).choose
    have hf : ∀ i : Fin len, ok (f i) ∧ ∀ j u, (Flat.enc (f i))[j]? = some u → w.cell? (a.add (i * Flat.k α + j)) = some u := fun i => (hall i).choose_spec
    refine ⟨_, List.ofFn f, rfl, ⟨some a, cap, by simp, by simpa using hl, hm, by simp, fun i hi' => ?_⟩, fun y hy => ?_, by rw [hx]; simp [dlen]⟩
    · have hi'' : i < len := by simpa using hi'
      have hfi := (hf ⟨i, hi''⟩).2
      obtain ⟨u1, hu1⟩ : ∃ u, (Flat.enc (f ⟨0, by omega⟩))[0]? = some u := hne _
      have hc1 := (hf ⟨0, by omega⟩).2 0 u1 hu1
      obtain ⟨u0, hu0⟩ : ∃ u, (Flat.enc (f ⟨i, hi''⟩))[0]? = some u := hne _
      have hc0 := hfi 0 u0 hu0
      have hsp : a.spot = none := by
        have e0 : a.add ((⟨0, by omega⟩ : Fin len).val * Flat.k α + 0) = a := by simp [Addr.add]
        rw [e0] at hc1
        unfold World.cell? at hc1
        split at hc1
        · cases hs : a.spot with
          | none => rfl
          | some s => simp [hs] at hc1
        · cases hc1
      obtain ⟨b, o, sp⟩ := a
      cases hsp
      refine ⟨b, o, Flat.enc (f ⟨i, hi''⟩), rfl, ?_, by simp, ?_, fun j u hu => ?_⟩
      · have := block_lt_of_cell (a := (⟨b, o, none⟩ : Addr).add (i * Flat.k α + 0)) hc0
        simpa [addr_add] using this
      · simp; rfl
      · have := hfi j u hu
        rw [addr_add] at this
        rw [show o + i * GoRep.k α + j = o + (i * Flat.k α + j) from Nat.add_assoc _ _ _]
        exact this
    · obtain ⟨i, rfl⟩ := List.mem_ofFn.1 hy
      exact (hf i).1

/-- a struct of integers: its cells -/
theorem ints_of_struct {e : TypeId} {fs : Array Field} {fuel : Nat} {cs : List Value} {x : DataW H × List MemPlace} (he : P.underlying e = some (.struct fs)) (hone : oneCellFields P fs = true) (hcl : cs.length = fs.size)
    (hint : ∀ (j : Nat) (f : Field), fs[j]? = some f → P.underlying f.type = some (.int .i64)) (h : DataW.trod enc P w base spare held fuel e cs = some x) : ∀ j (hj : j < cs.length), ∃ z : Int, cs[j] = .int .i64 z ∧ I64 z := by
  intro j hj
  obtain ⟨ys, n', hn', hy, hlen, hyl, hf⟩ := DataW.trod_struct he h
  have hjf : j < fs.size := by omega
  have hfj : fs[j]? = some fs[j] := Array.getElem?_eq_getElem hjf
  obtain ⟨ho, hk⟩ := hone_of hone j fs[j] hfj
  have h1 := hf j fs[j] hfj
  rw [ho, hk] at h1
  have hone' : (cs.drop j).take 1 = [cs[j]] := by
    rw [List.drop_eq_getElem_cons hj]; rfl
  rw [hone'] at h1
  have hys : ys[j]? = some (ys[j]'(by omega)) := List.getElem?_eq_getElem (by omega)
  rw [hys] at h1
  obtain ⟨z, hz, _, hw⟩ := DataW.trod_int (hint j _ hfj) h1
  refine ⟨z, by simpa using hz, ?_⟩
  simpa [I64, Lit.wf, IntKind.min, IntKind.max, IntKind.signed, IntKind.bits] using hw

def i64D : Option TypeDesc → Bool
  | some (.int .i64) => true
  | _ => false
theorem i64D_spec {d : Option TypeDesc} (h : i64D d = true) : d = some (.int .i64) := by
  unfold i64D at h
  split at h
  · rfl
  · cases h
/-- a struct of k integers -/
def intStruct (P : Program) (e k : Nat) : Bool :=
  match P.underlying e with
  | some (.struct fs) => oneCellFields P fs && fs.size == k && fs.all (fun f => i64D (P.underlying f.type))
  | _ => false
theorem intStruct_spec {e k : Nat} {fuel : Nat} {cs : List Value} {x : DataW H × List MemPlace} (hs : intStruct P e k = true) (hcl : cs.length = k) (h : DataW.trod enc P w base spare held fuel e cs = some x) :
    ∃ zs : List Int, zs.length = k ∧ cs = zs.map (Value.int .i64) ∧ ∀ z ∈ zs, I64 z := by
  unfold intStruct at hs
  split at hs
  · rename_i fs he
    simp only [Bool.and_eq_true, beq_iff_eq] at hs
    obtain ⟨⟨hone, hk⟩, hall⟩ := hs
    have hint : ∀ (j : Nat) (f : Field), fs[j]? = some f → P.underlying f.type = some (.int .i64) := by
      intro j f hj
      obtain ⟨hlt, rfl⟩ := Array.getElem?_eq_some_iff.1 hj
      exact i64D_spec (Array.all_eq_true.1 hall j hlt)
    have hz := ints_of_struct he hone (by omega) hint h
    clear h he hone hint hall
    refine (?_ : ∀ (cs : List Value), (∀ j (hj : j < cs.length), ∃ z : Int, cs[j] = .int .i64 z ∧ I64 z) → ∃ zs : List Int, zs.length = cs.length ∧ cs = zs.map (Value.int .i64) ∧ ∀ z ∈ zs, I64 z) cs hz |> fun ⟨zs, h1, h2, h3⟩ => ⟨zs, by omega, h2, h3⟩
    intro cs
    induction cs with
    | nil => intro _; exact ⟨[], rfl, rfl, by simp⟩
    | cons c r ih =>
      intro hz
      obtain ⟨z, e1, e2⟩ := hz 0 (by simp)
      obtain ⟨zs, h1, h2, h3⟩ := ih (fun j hj => by
        have := hz (j + 1) (by simpa using hj)
        simpa using this)
      exact ⟨z :: zs, by simp [h1], by simp at e1; simp [e1, ← h2], by
        intro y hy
        rcases List.mem_cons.1 hy with rfl | hy
        · exact e2
        · exact h3 y hy⟩
  · cases hs
theorem slv_ints {t e : TypeId} {fuel : Nat} {cs : List Value} {x : DataW H × List MemPlace} (ht : P.underlying t = some (.slice e)) (hC : P.cellsOf e = 1) (he : P.underlying e = some (.int .i64))
    (h : DataW.trod enc P w base spare held fuel t cs = some x) : ∃ (v : Value) (xs : List Int), cs = [v] ∧ SlV [] w v xs ∧ (∀ a ∈ xs, I64 a) ∧ dlen x.1 = xs.length :=
  slv_of_trod (α := Int) ht hC (by decide) (fun n cs' y hl hy => by
    obtain ⟨z, rfl, _, hw⟩ := DataW.trod_int he hy
    exact ⟨z, rfl, by simpa [I64, Lit.wf, IntKind.min, IntKind.max, IntKind.signed, IntKind.bits] using hw⟩) h
end
end Go.Eng
