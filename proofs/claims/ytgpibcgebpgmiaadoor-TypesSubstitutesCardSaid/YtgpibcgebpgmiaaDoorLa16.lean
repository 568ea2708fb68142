
/-
TypesSubstitutes: for all lists, kinds and places, the part of an expression at a place can be exchanged for an expression of its type: the whole keeps its type, and uses no field that neither of them uses. Condition: the variable types.fields reads as the program's text lays it (the card ties it).
-/
import Derived.Test.YtgpibcgebpgmiaaDoorM6
namespace Go.Proofs.YtgpibcgebpgmiaaDoor
open Go Go.Eng Go.RowKit Go.Proofs Go.ChangeShapes Go.WideShapes Go.Deep
set_option linter.unusedVariables false
theorem typesSubstitutes_spec : LawSpec Rows.typesSubstitutesSpec 5 := ⟨rfl, fun H ds hl => by
  match ds, hl with
  | [d0, d1, d2, d3, d4], _ => exact ⟨rfl, rfl, rfl⟩⟩
theorem typesSubstitutes_met (os : Os) (args : Array Value) : laidMetH Tryd.prog Rows.typesSubstitutesRow.laid ((World.doorLaid Tryd.prog 14 os).forCall (fun _ _ => 0) ⟨#[], args, []⟩).memory :=
  laidMetH_of_parts3 (fuel := 8) (laidMet_of_run' 8 (by kernel_rfl) (by kernel_rfl)) (by kernel_rfl) (by kernel_rfl)
set_option maxRecDepth 100000 in
theorem typesSubstitutes_lifted (os : Os) (started : os.Started) (H : Type) (enc : TypeId × Value → H) :
    ReturnsInHanded {} Tryd.checked os 3 .any (fun w args => (Rows.typesSubstitutesSpec.pre enc Tryd.prog Tryd.f3 [] false w args ∧ laidMetH Tryd.prog Rows.typesSubstitutesRow.laid w) ∧ sizedMet enc Tryd.prog Tryd.f3 (OpenSpec.ofChange Rows.typesSubstitutesSpec) false w args) (Rows.typesSubstitutesSpec.post enc Tryd.prog Tryd.f3 false true false false) := by
  refine ret_and_shaped (C := Tryd.checked) (X := fun w _ => laidMetH Tryd.prog Rows.typesSubstitutesRow.laid w) (fun _ _ _ hh h => h.of_heap hh) law_own started (by kernel_rfl) Tryd.func3
    (ChangeSpec.witness_shaped (enc := enc) (C := Tryd.checked) (os := os) (X := fun w _ => laidMetH Tryd.prog Rows.typesSubstitutesRow.laid w) false (World.doorLaid Tryd.prog 14 os) #[.slice none 0 0, .slice none 0 0, .int .i64 0, .int .i64 0, .int .i64 0] 8 rfl (World.shaped_of_RefB (by kernel_rfl) (by kernel_rfl)) (by kernel_rfl) (by kernel_rfl) (by kernel_rfl) (typesSubstitutes_met os _)) ?_
  intro W base args ds gs before hval0 hW hsz0 hL hsh
  have hval : ∀ (j : Nat) t v, Tryd.f3.params[j]? = some t → args[j]? = some v → Value.okWide Tryd.prog W .any base t v := hval0
  refine law_post law_laid (by kernel_rfl) (tb := 4) rfl Tryd.underlying4 typesSubstitutes_spec hW ?_
  obtain ⟨p, q, hA0, hV, _⟩ := hW
  obtain ⟨rfl, rfl⟩ := trodVars_none hV
  have hA : DataW.TrodAll enc Tryd.prog W 0 (fun _ => true) true Tryd.f3.params.toList args.toList ds p := hA0
  have hF : SlV [] W flds fieldNames := flds_of_laid hL
  rw [Tryd.params3] at hA hval
  obtain ⟨v0, v1, v2, v3, v4, d0, d1, d2, d3, d4, p0, p1, p2, p3, p4, rfl, rfl, rfl, h0, h1, h2, h3, h4⟩ := trodAll_five hA
  obtain ⟨l, hs, hl, -⟩ := ints_read (hval 0 _ v0 rfl rfl) h0
  obtain ⟨lb, hsb, hlb, -⟩ := ints_read (hval 1 _ v1 rfl rfl) h1
  obtain ⟨k, rfl, hk⟩ := open_i64 (hval 2 _ v2 rfl rfl) h2
  obtain ⟨a, rfl, ha⟩ := open_i64 (hval 3 _ v3 rfl rfl) h3
  obtain ⟨o, rfl, ho⟩ := open_i64 (hval 4 _ v4 rfl rfl) h4
  obtain ⟨m, hm⟩ := Tryd.laysM144.s1_3 W hsh
  exact substLaw v0 v1 l lb k a o m W hF hm hs hl hsb hlb hk ha ho
theorem typesSubstitutes_holds : Rows.TypesSubstitutesSaid :=
  OpenClaim.holds_of_wide 3 Tryd.f3 rfl rfl rfl rfl rfl rfl rfl ⟨rfl, rfl, rfl, rfl, rfl⟩ rfl rfl rfl rfl rfl (by kernel_rfl) Tryd.func3 (by kernel_rfl)
    (of_decide_eq_true (by kernel_rfl)) (by unfold Func.isWrapper; first | (rw [if_pos (by decide +kernel)]; kernel_rfl) | (rw [if_neg (by decide +kernel)]; exact ⟨rfl, rfl⟩))
    (fun os started H enc _ => typesSubstitutes_lifted os started H enc)
theorem typesSubstitutes_card_holds : Rows.TypesSubstitutesCardSaid :=
  Claim7.holds_tied_plain_at .later [] [.widerDeep] true Rows.typesSubstitutesCard.stood.harness false
    typesSubstitutes_holds (fun _ h => by cases h) (by kernel_rfl) (fun _ h => by cases h) typesSubstitutes_row_tie rfl ⟨rfl, rfl⟩ (by kernel_rfl) rfl
    (fun f fn hf hfn => by
      obtain rfl : f = 3 := Option.some.inj ((show Tryd.prog.funcNamed Rows.typesSubstitutesRow.func = some 3 by kernel_rfl).symm.trans hf) |>.symm
      obtain rfl : fn = Tryd.f3 := (Option.some.inj (Tryd.func3.symm.trans hfn)).symm
      exact ⟨by kernel_rfl, fun j t ht => by
        rw [Tryd.params3] at ht
        have hm : t ∈ Tryd.f3.params.toList := by rw [Tryd.params3]; simpa using Array.mem_of_getElem? ht
        have hall : (Tryd.f3.params.toList.all fun u => !Tryd.prog.wantsStandIn u) = true := by kernel_rfl
        exact (show Tryd.prog.wantsStandIn t = false by simpa using List.all_eq_true.1 hall t hm)⟩)
    (by kernel_rfl)
end Go.Proofs.YtgpibcgebpgmiaaDoor
