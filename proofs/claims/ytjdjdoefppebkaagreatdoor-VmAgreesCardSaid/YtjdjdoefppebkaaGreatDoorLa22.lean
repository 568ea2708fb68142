
/-
VmAgrees: for all cases made from numbers, the run of the compiled expression has the value or the error of its evaluation. Condition: the listed variables read as the program's text lays them (the card ties them).
-/
import Derived.Test.YtjdjdoefppebkaaGreatDoorM6
import Derived.Deep.DeepLaidRun
namespace Go.Proofs.YtjdjdoefppebkaaGreatDoor
open Go Go.Eng Go.RowKit Go.Proofs Go.ChangeShapes Go.WideShapes Go.Deep
set_option linter.unusedVariables false
theorem vmAgrees_spec : LawSpec Rows.vmAgreesSpec 1 := ⟨rfl, fun H ds hl => by
  match ds, hl with
  | [d0], _ => exact ⟨rfl, rfl, rfl⟩⟩
theorem vmAgrees_met (os : Os) (args : Array Value) : laidMetH Tryz.prog Rows.vmAgreesRow.laid ((World.doorLaid Tryz.prog 300 os).forCall (fun _ _ => 0) ⟨#[], args, []⟩).memory :=
  laidMetH_of_parts3 (fuel := 8) (laidMet_of_run3 8 (by kernel_rfl) (by kernel_rfl) (by kernel_rfl)) (by kernel_rfl) (by kernel_rfl)
set_option maxRecDepth 100000 in
theorem vmAgrees_lifted (os : Os) (started : os.Started) (H : Type) (enc : TypeId × Value → H) :
    ReturnsInHanded {} Tryz.checked os 11 .any (fun w args => (Rows.vmAgreesSpec.pre enc Tryz.prog Tryz.f11 [] false w args ∧ laidMetH Tryz.prog Rows.vmAgreesRow.laid w) ∧ sizedMet enc Tryz.prog Tryz.f11 (OpenSpec.ofChange Rows.vmAgreesSpec) false w args) (Rows.vmAgreesSpec.post enc Tryz.prog Tryz.f11 false true false false) := by
  refine ret_and_shaped (C := Tryz.checked) (X := fun w _ => laidMetH Tryz.prog Rows.vmAgreesRow.laid w) (fun _ _ _ hh h => h.of_heap hh) law_own started (by kernel_rfl) Tryz.func11
    (ChangeSpec.witness_shaped (enc := enc) (C := Tryz.checked) (os := os) (X := fun w _ => laidMetH Tryz.prog Rows.vmAgreesRow.laid w) false (World.doorLaid Tryz.prog 300 os) #[.agg #[.slice none 0 0, .slice none 0 0, .slice none 0 0, .int .i64 0, .int .i64 0]] 8 rfl (World.shaped_of_RefB (by kernel_rfl) (by kernel_rfl)) (by kernel_rfl) (by kernel_rfl) (by kernel_rfl) (vmAgrees_met os _)) ?_
  intro W base args ds gs before hval0 hW hsz0 hL hsh
  have hval : ∀ (j : Nat) t v, Tryz.f11.params[j]? = some t → args[j]? = some v → Value.okWide Tryz.prog W .any base t v := hval0
  refine law_post law_laid (by kernel_rfl) (tb := 4) rfl Tryz.underlying4 vmAgrees_spec hW ?_
  obtain ⟨p, q, hA0, hV, _⟩ := hW
  obtain ⟨rfl, rfl⟩ := trodVars_none hV
  have hA : DataW.TrodAll enc Tryz.prog W 0 (fun _ => true) true Tryz.f11.params.toList args.toList ds p := hA0
  have hF : SlV [] W flds fieldNames := (laid8_vars hL).2
  rw [Tryz.params11] at hA hval
  obtain ⟨v0, d0, rfl, rfl, h0⟩ := trodAll_one hA
  obtain ⟨a0, a1, a2, kd, kz, l0, l1, l2, rfl, hs0, hs1, hs2, hl0, hl1, hl2, hkd, hkz⟩ := case_read (hval 0 _ v0 rfl rfl) h0
  obtain ⟨m, hm⟩ := Tryz.laysM144.s1_3 W hsh
  obtain ⟨⟨hLn, hMv, er, h4, hev⟩, -⟩ := laid8_vars hL
  exact vmAgreesLaw a0 a1 a2 l0 l1 l2 kd kz er m W hs0 hs1 hs2 hl0 hl1 hl2 hkd hkz hF hLn hMv hm h4 hev
theorem vmAgrees_j1 : Rows.vmAgreesRow.wf (OpenSpec.ofChange Rows.vmAgreesSpec) = true := by kernel_rfl
theorem vmAgrees_j2 : (Rows.vmAgreesRow.inPlace == Tryz.prog.inPlace 11) = true := by kernel_rfl
theorem vmAgrees_j3 : (Rows.vmAgreesRow.unfollowed == Tryz.prog.unfollowed 11) = true := by kernel_rfl
theorem vmAgrees_j4 : (Rows.vmAgreesRow.recurses == Tryz.prog.recurses 11) = true := by kernel_rfl
theorem vmAgrees_j5 : (Rows.vmAgreesRow.named == Tryz.prog.varsNamed 11) = true := by kernel_rfl
theorem vmAgrees_joined : joinedFacts Tryz.prog 11 Tryz.f11 Rows.vmAgreesSpec Rows.vmAgreesRow = true :=
  joined_parts vmAgrees_j1 law_laid law_maps (by kernel_rfl) (by kernel_rfl) (by kernel_rfl) vmAgrees_j2 vmAgrees_j3 vmAgrees_j4 vmAgrees_j5 (by kernel_rfl)
theorem vmAgrees_holds : Rows.VmAgreesSaid :=
  OpenClaim.holds_of_wide 11 Tryz.f11 rfl rfl rfl rfl rfl rfl rfl ⟨rfl, rfl, rfl, rfl, rfl⟩ rfl rfl rfl rfl rfl (by kernel_rfl) Tryz.func11 vmAgrees_joined
    (of_decide_eq_true (by kernel_rfl)) (by unfold Func.isWrapper; first | (rw [if_pos (by decide +kernel)]; kernel_rfl) | (rw [if_neg (by decide +kernel)]; exact ⟨rfl, rfl⟩))
    (fun os started H enc _ => vmAgrees_lifted os started H enc)
theorem vmAgrees_card_holds : Rows.VmAgreesCardSaid :=
  Claim7.holds_tied_plain_at .later [] [.data, .data, .data, .sentinel, .sentinel, .data, .data, .widerDeep] true Rows.vmAgreesCard.stood.harness true
    vmAgrees_holds (fun _ h => by cases h) (by kernel_rfl) (fun _ h => by cases h) vmAgrees_row_tie rfl ⟨rfl, rfl⟩ (by kernel_rfl) rfl
    (fun f fn hf hfn => by
      obtain rfl : f = 11 := Option.some.inj ((show Tryz.prog.funcNamed Rows.vmAgreesRow.func = some 11 by kernel_rfl).symm.trans hf) |>.symm
      obtain rfl : fn = Tryz.f11 := (Option.some.inj (Tryz.func11.symm.trans hfn)).symm
      exact ⟨by kernel_rfl, fun j t ht => by
        rw [Tryz.params11] at ht
        have hm : t ∈ Tryz.f11.params.toList := by rw [Tryz.params11]; simpa using Array.mem_of_getElem? ht
        have hall : (Tryz.f11.params.toList.all fun u => !Tryz.prog.wantsStandIn u) = true := by kernel_rfl
        exact (show Tryz.prog.wantsStandIn t = false by simpa using List.all_eq_true.1 hall t hm)⟩)
    (goes_of law_goes rfl)
end Go.Proofs.YtjdjdoefppebkaaGreatDoor
