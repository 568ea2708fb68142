/-
TypesParts: for all expressions of a nesting of up to 14 and up to 400 nodes, and generated ones of which a part was replaced, if the whole has a type, each of its kids has one. Condition: the variable types.fields reads as the program's text lays it (the card ties it).
-/
import Derived.Test.YtfjmlobgjdmecaaDoorM5
namespace Go.Proofs.YtfjmlobgjdmecaaDoor
open Go Go.Eng Go.RowKit Go.Proofs Go.ChangeShapes Go.WideShapes Go.Deep
set_option linter.unusedVariables false
theorem typesParts_spec : LawSpec Rows.typesPartsSpec 4 := ⟨rfl, fun H ds hl => by
  match ds, hl with
  | [d0, d1, d2, d3], _ => exact ⟨rfl, rfl, rfl⟩⟩
theorem typesParts_met (os : Os) (args : Array Value) : laidMetH Tryd.prog Rows.typesPartsRow.laid ((World.doorLaid Tryd.prog 14 os).forCall (fun _ _ => 0) ⟨#[], args, []⟩).memory :=
  laidMetH_of_parts3 (fuel := 8) (laidMet_of_run' 8 (by kernel_rfl) (by kernel_rfl)) (by kernel_rfl) (by kernel_rfl)
set_option maxRecDepth 100000 in
theorem typesParts_lifted (os : Os) (started : os.Started) (H : Type) (enc : TypeId × Value → H) :
    ReturnsInHanded {} Tryd.checked os 14 .any (fun w args => (Rows.typesPartsSpec.pre enc Tryd.prog Tryd.f14 [] false w args ∧ laidMetH Tryd.prog Rows.typesPartsRow.laid w) ∧ sizedMet enc Tryd.prog Tryd.f14 (OpenSpec.ofChange Rows.typesPartsSpec) false w args) (Rows.typesPartsSpec.post enc Tryd.prog Tryd.f14 false true false false) := by
  refine ret_and_shaped (C := Tryd.checked) (X := fun w _ => laidMetH Tryd.prog Rows.typesPartsRow.laid w) (fun _ _ _ hh h => h.of_heap hh) law_own started (by kernel_rfl) Tryd.func14
    (ChangeSpec.witness_shaped (enc := enc) (C := Tryd.checked) (os := os) (X := fun w _ => laidMetH Tryd.prog Rows.typesPartsRow.laid w) false (World.doorLaid Tryd.prog 14 os) #[.agg #[.int .i64 0, .int .i64 0, .string ⟨#[]⟩, .slice none 0 0], .slice none 0 0, .slice none 0 0, .int .i64 0] 8 rfl (World.shaped_of_RefB (by kernel_rfl) (by kernel_rfl)) (by kernel_rfl) (by kernel_rfl) (by kernel_rfl) (typesParts_met os _)) ?_
  intro W base args ds gs before hval0 hW hsz0 hL hsh
  have hval : ∀ (j : Nat) t v, Tryd.f14.params[j]? = some t → args[j]? = some v → Value.okWide Tryd.prog W .any base t v := hval0
  refine law_post law_laid (by kernel_rfl) (tb := 4) rfl Tryd.underlying4 typesParts_spec hW ?_
  obtain ⟨p, q, hA0, hV, _⟩ := hW
  obtain ⟨rfl, rfl⟩ := trodVars_none hV
  have hA : DataW.TrodAll enc Tryd.prog W 0 (fun _ => true) true Tryd.f14.params.toList args.toList ds p := hA0
  have hF : SlV [] W flds fieldNames := flds_of_laid hL
  rw [Tryd.params14] at hA hval
  obtain ⟨v0, v1, v2, v3, d0, d1, d2, d3, p0, p1, p2, p3, rfl, rfl, rfl, h0, h1, h2, h3⟩ := trodAll_four hA
  obtain ⟨x, hx⟩ := nd_read (hval 0 _ v0 rfl rfl) h0
  obtain ⟨l, hs, hl, -⟩ := ints_read (hval 1 _ v1 rfl rfl) h1
  obtain ⟨lb, hsb, hlb, -⟩ := ints_read (hval 2 _ v2 rfl rfl) h2
  obtain ⟨z, rfl, hz⟩ := open_i64 (hval 3 _ v3 rfl rfl) h3
  obtain ⟨m, hm⟩ := Tryd.laysM144.s1_3 W hsh
  exact parts14Law v0 v1 v2 x l lb z m W hF hm hx hs hl hsb hlb hz
theorem typesParts_holds : Rows.TypesPartsSaid :=
  OpenClaim.holds_of_wide 14 Tryd.f14 rfl rfl rfl rfl rfl rfl rfl ⟨rfl, rfl, rfl, rfl, rfl⟩ rfl rfl rfl rfl rfl (by kernel_rfl) Tryd.func14 (by kernel_rfl)
    (of_decide_eq_true (by kernel_rfl)) (by unfold Func.isWrapper; first | (rw [if_pos (by decide +kernel)]; kernel_rfl) | (rw [if_neg (by decide +kernel)]; exact ⟨rfl, rfl⟩))
    (fun os started H enc _ => typesParts_lifted os started H enc)
theorem typesParts_card_holds : Rows.TypesPartsCardSaid :=
  Claim7.holds_tied_plain_at .later [] [.widerDeep] true Rows.typesPartsCard.stood.harness false
    typesParts_holds (fun _ h => by cases h) (by kernel_rfl) (fun _ h => by cases h) typesParts_row_tie rfl ⟨rfl, rfl⟩ (by kernel_rfl) rfl
    (fun f fn hf hfn => by
      obtain rfl : f = 14 := Option.some.inj ((show Tryd.prog.funcNamed Rows.typesPartsRow.func = some 14 by kernel_rfl).symm.trans hf) |>.symm
      obtain rfl : fn = Tryd.f14 := (Option.some.inj (Tryd.func14.symm.trans hfn)).symm
      exact ⟨by kernel_rfl, fun j t ht => by
        rw [Tryd.params14] at ht
        have hm : t ∈ Tryd.f14.params.toList := by rw [Tryd.params14]; simpa using Array.mem_of_getElem? ht
        have hall : (Tryd.f14.params.toList.all fun u => !Tryd.prog.wantsStandIn u) = true := by kernel_rfl
        exact (show Tryd.prog.wantsStandIn t = false by simpa using List.all_eq_true.1 hall t hm)⟩)
    (by kernel_rfl)
end Go.Proofs.YtfjmlobgjdmecaaDoor
