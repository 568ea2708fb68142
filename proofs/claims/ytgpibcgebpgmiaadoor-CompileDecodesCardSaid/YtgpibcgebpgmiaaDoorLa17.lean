
/-
CompileDecodes: for all bytes, of which the first 3000 are read, Decode gives what the specification says, and what it accepts is the encoding of what it gives. Condition: the variable types.fields reads as the program's text lays it (the card ties it).
-/
import Derived.Test.YtgpibcgebpgmiaaDoorM5
namespace Go.Proofs.YtgpibcgebpgmiaaDoor
open Go Go.Eng Go.RowKit Go.Proofs Go.ChangeShapes Go.WideShapes Go.Deep
set_option linter.unusedVariables false
theorem compileDecodes_spec : LawSpec Rows.compileDecodesSpec 1 := ⟨rfl, fun H ds hl => by
  match ds, hl with
  | [d0], _ => exact ⟨rfl, rfl, rfl⟩⟩
theorem compileDecodes_met (os : Os) (args : Array Value) : laidMetH Tryd.prog Rows.compileDecodesRow.laid ((World.doorLaid Tryd.prog 14 os).forCall (fun _ _ => 0) ⟨#[], args, []⟩).memory :=
  laidMetH_of_parts3 (fuel := 8) (laidMet_of_run' 8 (by kernel_rfl) (by kernel_rfl)) (by kernel_rfl) (by kernel_rfl)
set_option maxRecDepth 100000 in
theorem compileDecodes_lifted (os : Os) (started : os.Started) (H : Type) (enc : TypeId × Value → H) :
    ReturnsInHanded {} Tryd.checked os 4 .any (fun w args => (Rows.compileDecodesSpec.pre enc Tryd.prog Tryd.f4 [] false w args ∧ laidMetH Tryd.prog Rows.compileDecodesRow.laid w) ∧ sizedMet enc Tryd.prog Tryd.f4 (OpenSpec.ofChange Rows.compileDecodesSpec) false w args) (Rows.compileDecodesSpec.post enc Tryd.prog Tryd.f4 false true false false) := by
  refine ret_and_shaped (C := Tryd.checked) (X := fun w _ => laidMetH Tryd.prog Rows.compileDecodesRow.laid w) (fun _ _ _ hh h => h.of_heap hh) law_own started (by kernel_rfl) Tryd.func4
    (ChangeSpec.witness_shaped (enc := enc) (C := Tryd.checked) (os := os) (X := fun w _ => laidMetH Tryd.prog Rows.compileDecodesRow.laid w) false (World.doorLaid Tryd.prog 14 os) #[.slice none 0 0] 8 rfl (World.shaped_of_RefB (by kernel_rfl) (by kernel_rfl)) (by kernel_rfl) (by kernel_rfl) (by kernel_rfl) (compileDecodes_met os _)) ?_
  intro W base args ds gs before hval0 hW hsz0 hL hsh
  have hval : ∀ (j : Nat) t v, Tryd.f4.params[j]? = some t → args[j]? = some v → Value.okWide Tryd.prog W .any base t v := hval0
  refine law_post law_laid (by kernel_rfl) (tb := 4) rfl Tryd.underlying4 compileDecodes_spec hW ?_
  obtain ⟨p, q, hA0, hV, _⟩ := hW
  obtain ⟨rfl, rfl⟩ := trodVars_none hV
  have hA : DataW.TrodAll enc Tryd.prog W 0 (fun _ => true) true Tryd.f4.params.toList args.toList ds p := hA0
  have hF : SlV [] W flds fieldNames := flds_of_laid hL
  rw [Tryd.params4] at hA hval
  obtain ⟨v0, d0, rfl, rfl, h0⟩ := trodAll_one hA
  obtain ⟨bs, hs⟩ := bytes_read (hval 0 _ v0 rfl rfl) h0
  obtain ⟨m, hm⟩ := Tryd.laysM144.s1_3 W hsh
  exact decodesLaw v0 bs m W hF hm hs
theorem compileDecodes_holds : Rows.CompileDecodesSaid :=
  OpenClaim.holds_of_wide 4 Tryd.f4 rfl rfl rfl rfl rfl rfl rfl ⟨rfl, rfl, rfl, rfl, rfl⟩ rfl rfl rfl rfl rfl (by kernel_rfl) Tryd.func4 (by kernel_rfl)
    (of_decide_eq_true (by kernel_rfl)) (by unfold Func.isWrapper; first | (rw [if_pos (by decide +kernel)]; kernel_rfl) | (rw [if_neg (by decide +kernel)]; exact ⟨rfl, rfl⟩))
    (fun os started H enc _ => compileDecodes_lifted os started H enc)
theorem compileDecodes_card_holds : Rows.CompileDecodesCardSaid :=
  Claim7.holds_tied_plain_at .later [] [.widerDeep] true Rows.compileDecodesCard.stood.harness false
    compileDecodes_holds (fun _ h => by cases h) (by kernel_rfl) (fun _ h => by cases h) compileDecodes_row_tie rfl ⟨rfl, rfl⟩ (by kernel_rfl) rfl
    (fun f fn hf hfn => by
      obtain rfl : f = 4 := Option.some.inj ((show Tryd.prog.funcNamed Rows.compileDecodesRow.func = some 4 by kernel_rfl).symm.trans hf) |>.symm
      obtain rfl : fn = Tryd.f4 := (Option.some.inj (Tryd.func4.symm.trans hfn)).symm
      exact ⟨by kernel_rfl, fun j t ht => by
        rw [Tryd.params4] at ht
        have hm : t ∈ Tryd.f4.params.toList := by rw [Tryd.params4]; simpa using Array.mem_of_getElem? ht
        have hall : (Tryd.f4.params.toList.all fun u => !Tryd.prog.wantsStandIn u) = true := by kernel_rfl
        exact (show Tryd.prog.wantsStandIn t = false by simpa using List.all_eq_true.1 hall t hm)⟩)
    (by kernel_rfl)
end Go.Proofs.YtgpibcgebpgmiaaDoor
