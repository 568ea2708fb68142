/-
The arguments of the carrier's laws, opened.
-/
import Derived.Test.YtddopcmemiheaaaCar19
import Derived.Test.YtddopcmemiheaaaEng8
import Derived.Test.YtddopcmemiheaaaRows
import Derived.Lib.SmallJoins
namespace Go.Proofs.Ytddopcmemiheaaa
open Go Go.Eng Go.RowKit Go.Proofs Go.ChangeShapes Go.WideShapes Go.Deep Go.Joins
set_option linter.unusedVariables false

theorem law_own : ownKnob Try.prog.godebug = none := by kernel_rfl
theorem law_laid : laidOutB Try.prog = true := by kernel_rfl
section
variable {H : Type} {enc : TypeId × Value → H} {w : World} {base : Nat} {spare : Nat → Bool} {held : Bool}
theorem open_i64 {r : Reach} {b0 : Nat} {v : Value} {d : DataW H} {p : List MemPlace} (hv : Value.okWide Try.prog w r b0 3 v) (h : DataW.Trod enc Try.prog w base spare held 3 v d p) : ∃ z : Int, v = .int .i64 z ∧ I64 z := by
  obtain ⟨z, rfl, _, _, hw⟩ := open_int Try.underlying3 hv h
  exact ⟨z, rfl, by simpa [I64, Lit.wf, IntKind.min, IntKind.max, IntKind.signed, IntKind.bits] using hw⟩
theorem case_read {r : Reach} {b0 : Nat} {v : Value} {d : DataW H} {p : List MemPlace} (hv : Value.okWide Try.prog w r b0 26 v) (h : DataW.Trod enc Try.prog w base spare held 26 v d p) :
    ∃ (va vb : Value) (a b : List Int) (n : Int), v = .agg #[va, vb, .int .i64 n] ∧ SlV [] w va a ∧ SlV [] w vb b ∧ (∀ x ∈ a, I64 x) ∧ (∀ x ∈ b, I64 x) ∧ I64 n := by
  obtain ⟨v0, v1, v2, y0, y1, y2, m, rfl, rfl, rfl, h0, h1, h2⟩ := open_agg3 Try.underlying26 (by kernel_rfl) (by kernel_rfl) hv h
  obtain ⟨va, a, ha, hsa, hia, _⟩ := slv_ints Try.underlying24 (by kernel_rfl) Try.underlying3 h0
  obtain ⟨vb, b, hb, hsb, hib, _⟩ := slv_ints Try.underlying24 (by kernel_rfl) Try.underlying3 h1
  obtain ⟨z, hz, _, hw⟩ := DataW.trod_int Try.underlying3 h2
  simp only [List.cons.injEq, and_true] at ha hb hz
  subst ha hb hz
  exact ⟨_, _, a, b, z, rfl, hsa, hsb, hia, hib, by simpa [I64, Lit.wf, IntKind.min, IntKind.max, IntKind.signed, IntKind.bits] using hw⟩
theorem dlvs_read {r : Reach} {b0 : Nat} {v : Value} {d : DataW H} {p : List MemPlace} (hv : Value.okWide Try.prog w r b0 33 v) (h : DataW.Trod enc Try.prog w base spare held 33 v d p) :
    ∃ l : List Dlv, SlV [] w v l ∧ (∀ x ∈ l, I64 x.attempt ∧ I64 x.party ∧ I64 x.day) ∧ dlen d = l.length := by
  obtain ⟨fuel, h⟩ := h
  obtain ⟨u, l, hu, hs, hok, hln⟩ := slv_of_trod (α := Dlv) (ok := fun x => I64 x.attempt ∧ I64 x.party ∧ I64 x.day) Try.underlying33 (by kernel_rfl) (by decide) (fun n cs y hl hy => by
    obtain ⟨zs, h1, rfl, h2⟩ := intStruct_spec (k := 3) (by kernel_rfl) hl hy
    match zs, h1 with
    | [a, b, c], _ => exact ⟨⟨a, b, c⟩, rfl, by simpa using h2⟩) h
  obtain ⟨a, m, c, rfl⟩ := okWide_slice Try.underlying33 hv
  have hu' : Value.slice a m c = u := by simpa [Value.cells] using hu
  subst hu'
  exact ⟨l, hs, hok, hln⟩
theorem paps_read {r : Reach} {b0 : Nat} {v : Value} {d : DataW H} {p : List MemPlace} (hv : Value.okWide Try.prog w r b0 22 v) (h : DataW.Trod enc Try.prog w base spare held 22 v d p) :
    ∃ l : List Pap, SlV [] w v l ∧ (∀ x ∈ l, I64 x.attempt ∧ I64 x.party ∧ I64 x.carrier ∧ I64 x.sent) ∧ dlen d = l.length := by
  obtain ⟨fuel, h⟩ := h
  obtain ⟨u, l, hu, hs, hok, hln⟩ := slv_of_trod (α := Pap) (ok := fun x => I64 x.attempt ∧ I64 x.party ∧ I64 x.carrier ∧ I64 x.sent) Try.underlying22 (by kernel_rfl) (by decide) (fun n cs y hl hy => by
    obtain ⟨zs, h1, rfl, h2⟩ := intStruct_spec (k := 4) (by kernel_rfl) hl hy
    match zs, h1 with
    | [a, b, c, d], _ => exact ⟨⟨a, b, c, d⟩, rfl, by simpa using h2⟩) h
  obtain ⟨a, m, c, rfl⟩ := okWide_slice Try.underlying22 hv
  have hu' : Value.slice a m c = u := by simpa [Value.cells] using hu
  subst hu'
  exact ⟨l, hs, hok, hln⟩
theorem wys_read {r : Reach} {b0 : Nat} {v : Value} {d : DataW H} {p : List MemPlace} (hv : Value.okWide Try.prog w r b0 23 v) (h : DataW.Trod enc Try.prog w base spare held 23 v d p) :
    ∃ l : List Wy, SlV [] w v l ∧ (∀ x ∈ l, I64 x.attempt ∧ I64 x.kind ∧ I64 x.days ∧ I64 x.party) ∧ dlen d = l.length := by
  obtain ⟨fuel, h⟩ := h
  obtain ⟨u, l, hu, hs, hok, hln⟩ := slv_of_trod (α := Wy) (ok := fun x => I64 x.attempt ∧ I64 x.kind ∧ I64 x.days ∧ I64 x.party) Try.underlying23 (by kernel_rfl) (by decide) (fun n cs y hl hy => by
    obtain ⟨zs, h1, rfl, h2⟩ := intStruct_spec (k := 4) (by kernel_rfl) hl hy
    match zs, h1 with
    | [a, b, c, d], _ => exact ⟨⟨a, b, c, d⟩, rfl, by simpa using h2⟩) h
  obtain ⟨a, m, c, rfl⟩ := okWide_slice Try.underlying23 hv
  have hu' : Value.slice a m c = u := by simpa [Value.cells] using hu
  subst hu'
  exact ⟨l, hs, hok, hln⟩
end
end Go.Proofs.Ytddopcmemiheaaa
