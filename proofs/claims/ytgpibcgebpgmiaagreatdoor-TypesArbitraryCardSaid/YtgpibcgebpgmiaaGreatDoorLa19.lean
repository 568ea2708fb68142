
/-
TypesArbitrary: for all texts, lists, places and bytes, parsing a text or a source with one byte changed ends with an error or with rules whose check has one of the specified results. Condition: the listed variables read as the program's text lays them (the card ties them).
-/
import Derived.Test.YtgpibcgebpgmiaaGreatDoorM6
import Derived.Deep.DeepLaidRun
namespace Go.Proofs.YtgpibcgebpgmiaaGreatDoor
open Go Go.Eng Go.RowKit Go.Proofs Go.ChangeShapes Go.WideShapes Go.Deep
set_option linter.unusedVariables false
theorem typesArbitrary_spec : LawSpec Rows.typesArbitrarySpec 4 := ⟨rfl, fun H ds hl => by
  match ds, hl with
  | [d0, d1, d2, d3], _ => exact ⟨rfl, rfl, rfl⟩⟩
theorem typesArbitrary_met (os : Os) (args : Array Value) : laidMetH Tryz.prog Rows.typesArbitraryRow.laid ((World.doorLaid Tryz.prog 300 os).forCall (fun _ _ => 0) ⟨#[], args, []⟩).memory :=
  laidMetH_of_parts3 (fuel := 8) (laidMet_of_run3 8 (by kernel_rfl) (by kernel_rfl) (by kernel_rfl)) (by kernel_rfl) (by kernel_rfl)
set_option maxRecDepth 100000 in
theorem typesArbitrary_lifted (os : Os) (started : os.Started) (H : Type) (enc : TypeId × Value → H) :
    ReturnsInHanded {} Tryz.checked os 5 .any (fun w args => (Rows.typesArbitrarySpec.pre enc Tryz.prog Tryz.f5 [] false w args ∧ laidMetH Tryz.prog Rows.typesArbitraryRow.laid w) ∧ sizedMet enc Tryz.prog Tryz.f5 (OpenSpec.ofChange Rows.typesArbitrarySpec) false w args) (Rows.typesArbitrarySpec.post enc Tryz.prog Tryz.f5 false true false false) := by
  refine ret_and_shaped (C := Tryz.checked) (X := fun w _ => laidMetH Tryz.prog Rows.typesArbitraryRow.laid w) (fun _ _ _ hh h => h.of_heap hh) law_own started (by kernel_rfl) Tryz.func5
    (ChangeSpec.witness_shaped (enc := enc) (C := Tryz.checked) (os := os) (X := fun w _ => laidMetH Tryz.prog Rows.typesArbitraryRow.laid w) false (World.doorLaid Tryz.prog 300 os) #[.string ⟨#[]⟩, .slice none 0 0, .int .i64 0, .int .u8 0] 8 rfl (World.shaped_of_RefB (by kernel_rfl) (by kernel_rfl)) (by kernel_rfl) (by kernel_rfl) (by kernel_rfl) (typesArbitrary_met os _)) ?_
  intro W base args ds gs before hval0 hW hsz0 hL hsh
  have hval : ∀ (j : Nat) t v, Tryz.f5.params[j]? = some t → args[j]? = some v → Value.okWide Tryz.prog W .any base t v := hval0
  refine law_post law_laid (by kernel_rfl) (tb := 4) rfl Tryz.underlying4 typesArbitrary_spec hW ?_
  obtain ⟨p, q, hA0, hV, _⟩ := hW
  obtain ⟨rfl, rfl⟩ := trodVars_none hV
  have hA : DataW.TrodAll enc Tryz.prog W 0 (fun _ => true) true Tryz.f5.params.toList args.toList ds p := hA0
  have hF : SlV [] W flds fieldNames := laid7_fields hL
  rw [Tryz.params5] at hA hval
  obtain ⟨v0, v1, v2, v3, d0, d1, d2, d3, p0, p1, p2, p3, rfl, rfl, rfl, h0, h1, h2, h3⟩ := trodAll_four hA
  obtain ⟨s1, rfl⟩ := okWide_string Tryz.underlying9 (hval 0 _ v0 rfl rfl)
  obtain ⟨l, hs, hl, -⟩ := ints_read (hval 1 _ v1 rfl rfl) h1
  obtain ⟨z, rfl, hz⟩ := open_i64 (hval 2 _ v2 rfl rfl) h2
  obtain ⟨c, rfl⟩ := open_u8 (hval 3 _ v3 rfl rfl) h3
  obtain ⟨m, hm⟩ := Tryz.laysM144.s1_3 W hsh
  obtain ⟨er, h4, hev⟩ := laid7_err hL
  exact arbLaw s1.data.toList v1 l z c er m W hF hm (laid7_lengths hL) (laid7_tab hL) h4 hev hs hl hz
theorem typesArbitrary_holds : Rows.TypesArbitrarySaid :=
  OpenClaim.holds_of_wide 5 Tryz.f5 rfl rfl rfl rfl rfl rfl rfl ⟨rfl, rfl, rfl, rfl, rfl⟩ rfl rfl rfl rfl rfl (by kernel_rfl) Tryz.func5 (by kernel_rfl)
    (of_decide_eq_true (by kernel_rfl)) (by unfold Func.isWrapper; first | (rw [if_pos (by decide +kernel)]; kernel_rfl) | (rw [if_neg (by decide +kernel)]; exact ⟨rfl, rfl⟩))
    (fun os started H enc _ => typesArbitrary_lifted os started H enc)
theorem typesArbitrary_card_holds : Rows.TypesArbitraryCardSaid :=
  Claim7.holds_tied_plain_at .later [] [.data, .data, .data, .sentinel, .sentinel, .data, .widerDeep] true Rows.typesArbitraryCard.stood.harness true
    typesArbitrary_holds (fun _ h => by cases h) (by kernel_rfl) (fun _ h => by cases h) typesArbitrary_row_tie rfl ⟨rfl, rfl⟩ (by kernel_rfl) rfl
    (fun f fn hf hfn => by
      obtain rfl : f = 5 := Option.some.inj ((show Tryz.prog.funcNamed Rows.typesArbitraryRow.func = some 5 by kernel_rfl).symm.trans hf) |>.symm
      obtain rfl : fn = Tryz.f5 := (Option.some.inj (Tryz.func5.symm.trans hfn)).symm
      exact ⟨by kernel_rfl, fun j t ht => by
        rw [Tryz.params5] at ht
        have hm : t ∈ Tryz.f5.params.toList := by rw [Tryz.params5]; simpa using Array.mem_of_getElem? ht
        have hall : (Tryz.f5.params.toList.all fun u => !Tryz.prog.wantsStandIn u) = true := by kernel_rfl
        exact (show Tryz.prog.wantsStandIn t = false by simpa using List.all_eq_true.1 hall t hm)⟩)
    (by kernel_rfl)
end Go.Proofs.YtgpibcgebpgmiaaGreatDoor
