
/-
VmEvals: for all cases made from numbers, Eval gives what the reference gives. Condition: the listed variables read as the program's text lays them (the card ties them).
-/
import Derived.Test.YtjdjdoefppebkaaGreatDoorM7
import Derived.Deep.DeepLaidRun
namespace Go.Proofs.YtjdjdoefppebkaaGreatDoor
open Go Go.Eng Go.RowKit Go.Proofs Go.ChangeShapes Go.WideShapes Go.Deep
set_option linter.unusedVariables false
theorem vmEvals_spec : LawSpec Rows.vmEvalsSpec 1 := ⟨rfl, fun H ds hl => by
  match ds, hl with
  | [d0], _ => exact ⟨rfl, rfl, rfl⟩⟩
theorem vmEvals_met (os : Os) (args : Array Value) : laidMetH Tryz.prog Rows.vmEvalsRow.laid ((World.doorLaid Tryz.prog 300 os).forCall (fun _ _ => 0) ⟨#[], args, []⟩).memory :=
  laidMetH_of_parts3 (fuel := 8) (laidMet_of_run3 8 (by kernel_rfl) (by kernel_rfl) (by kernel_rfl)) (by kernel_rfl) (by kernel_rfl)
set_option maxRecDepth 100000 in
theorem vmEvals_lifted (os : Os) (started : os.Started) (H : Type) (enc : TypeId × Value → H) :
    ReturnsInHanded {} Tryz.checked os 5 .any (fun w args => (Rows.vmEvalsSpec.pre enc Tryz.prog Tryz.f5 [] false w args ∧ laidMetH Tryz.prog Rows.vmEvalsRow.laid w) ∧ sizedMet enc Tryz.prog Tryz.f5 (OpenSpec.ofChange Rows.vmEvalsSpec) false w args) (Rows.vmEvalsSpec.post enc Tryz.prog Tryz.f5 false true false false) := by
  refine ret_and_shaped (C := Tryz.checked) (X := fun w _ => laidMetH Tryz.prog Rows.vmEvalsRow.laid w) (fun _ _ _ hh h => h.of_heap hh) law_own started (by kernel_rfl) Tryz.func5
    (ChangeSpec.witness_shaped (enc := enc) (C := Tryz.checked) (os := os) (X := fun w _ => laidMetH Tryz.prog Rows.vmEvalsRow.laid w) false (World.doorLaid Tryz.prog 300 os) #[.agg #[.slice none 0 0, .slice none 0 0, .slice none 0 0, .int .i64 0, .int .i64 0]] 8 rfl (World.shaped_of_RefB (by kernel_rfl) (by kernel_rfl)) (by kernel_rfl) (by kernel_rfl) (by kernel_rfl) (vmEvals_met os _)) ?_
  intro W base args ds gs before hval0 hW hsz0 hL hsh
  have hval : ∀ (j : Nat) t v, Tryz.f5.params[j]? = some t → args[j]? = some v → Value.okWide Tryz.prog W .any base t v := hval0
  refine law_post law_laid (by kernel_rfl) (tb := 4) rfl Tryz.underlying4 vmEvals_spec hW ?_
  obtain ⟨p, q, hA0, hV, _⟩ := hW
  obtain ⟨rfl, rfl⟩ := trodVars_none hV
  have hA : DataW.TrodAll enc Tryz.prog W 0 (fun _ => true) true Tryz.f5.params.toList args.toList ds p := hA0
  rw [Tryz.params5] at hA hval
  obtain ⟨v0, d0, rfl, rfl, h0⟩ := trodAll_one hA
  obtain ⟨a0, a1, a2, kd, kz, l0, l1, l2, rfl, hs0, hs1, hs2, hl0, hl1, hl2, hkd, hkz⟩ := case_read (hval 0 _ v0 rfl rfl) h0
  obtain ⟨m, hm⟩ := Tryz.laysM144.s1_3 W hsh
  obtain ⟨hLn, hMv, er, h4, hev⟩ := laid7b_vars hL
  exact vmEvalsLaw a0 a1 a2 l0 l1 l2 kd kz er m W hs0 hs1 hs2 hl0 hl1 hl2 hkd hkz hLn hMv hm h4 hev
theorem vmEvals_j1 : Rows.vmEvalsRow.wf (OpenSpec.ofChange Rows.vmEvalsSpec) = true := by kernel_rfl
theorem vmEvals_j2 : (Rows.vmEvalsRow.inPlace == Tryz.prog.inPlace 5) = true := by kernel_rfl
theorem vmEvals_j3 : (Rows.vmEvalsRow.unfollowed == Tryz.prog.unfollowed 5) = true := by kernel_rfl
theorem vmEvals_j4 : (Rows.vmEvalsRow.recurses == Tryz.prog.recurses 5) = true := by kernel_rfl
theorem vmEvals_j5 : (Rows.vmEvalsRow.named == Tryz.prog.varsNamed 5) = true := by kernel_rfl
theorem vmEvals_joined : joinedFacts Tryz.prog 5 Tryz.f5 Rows.vmEvalsSpec Rows.vmEvalsRow = true :=
  joined_parts vmEvals_j1 law_laid law_maps (by kernel_rfl) (by kernel_rfl) (by kernel_rfl) vmEvals_j2 vmEvals_j3 vmEvals_j4 vmEvals_j5 (by kernel_rfl)
theorem vmEvals_holds : Rows.VmEvalsSaid :=
  OpenClaim.holds_of_wide 5 Tryz.f5 rfl rfl rfl rfl rfl rfl rfl ⟨rfl, rfl, rfl, rfl, rfl⟩ rfl rfl rfl rfl rfl (by kernel_rfl) Tryz.func5 vmEvals_joined
    (of_decide_eq_true (by kernel_rfl)) (by unfold Func.isWrapper; first | (rw [if_pos (by decide +kernel)]; kernel_rfl) | (rw [if_neg (by decide +kernel)]; exact ⟨rfl, rfl⟩))
    (fun os started H enc _ => vmEvals_lifted os started H enc)
theorem vmEvals_card_holds : Rows.VmEvalsCardSaid :=
  Claim7.holds_tied_plain_at .later [] [.data, .data, .data, .sentinel, .sentinel, .data, .data] true Rows.vmEvalsCard.stood.harness true
    vmEvals_holds (fun _ h => by cases h) (by kernel_rfl) (fun _ h => by cases h) vmEvals_row_tie rfl ⟨rfl, rfl⟩ (by kernel_rfl) rfl
    (fun f fn hf hfn => by
      obtain rfl : f = 5 := Option.some.inj ((show Tryz.prog.funcNamed Rows.vmEvalsRow.func = some 5 by kernel_rfl).symm.trans hf) |>.symm
      obtain rfl : fn = Tryz.f5 := (Option.some.inj (Tryz.func5.symm.trans hfn)).symm
      exact ⟨by kernel_rfl, fun j t ht => by
        rw [Tryz.params5] at ht
        have hm : t ∈ Tryz.f5.params.toList := by rw [Tryz.params5]; simpa using Array.mem_of_getElem? ht
        have hall : (Tryz.f5.params.toList.all fun u => !Tryz.prog.wantsStandIn u) = true := by kernel_rfl
        exact (show Tryz.prog.wantsStandIn t = false by simpa using List.all_eq_true.1 hall t hm)⟩)
    (goes_of law_goes rfl)
end Go.Proofs.YtjdjdoefppebkaaGreatDoor
