
/-
VmRuns: for all cases made from numbers, Run of the specified code gives what the reference gives. Condition: the listed variables read as the program's text lays them (the card ties them).
-/
import Derived.Test.YtjdjdoefppebkaaGreatDoorM7
import Derived.Deep.DeepLaidRun
namespace Go.Proofs.YtjdjdoefppebkaaGreatDoor
open Go Go.Eng Go.RowKit Go.Proofs Go.ChangeShapes Go.WideShapes Go.Deep
set_option linter.unusedVariables false
theorem vmRuns_spec : LawSpec Rows.vmRunsSpec 1 := ⟨rfl, fun H ds hl => by
  match ds, hl with
  | [d0], _ => exact ⟨rfl, rfl, rfl⟩⟩
theorem vmRuns_met (os : Os) (args : Array Value) : laidMetH Tryz.prog Rows.vmRunsRow.laid ((World.doorLaid Tryz.prog 300 os).forCall (fun _ _ => 0) ⟨#[], args, []⟩).memory :=
  laidMetH_of_parts3 (fuel := 8) (laidMet_of_run3 8 (by kernel_rfl) (by kernel_rfl) (by kernel_rfl)) (by kernel_rfl) (by kernel_rfl)
set_option maxRecDepth 100000 in
theorem vmRuns_lifted (os : Os) (started : os.Started) (H : Type) (enc : TypeId × Value → H) :
    ReturnsInHanded {} Tryz.checked os 3 .any (fun w args => (Rows.vmRunsSpec.pre enc Tryz.prog Tryz.f3 [] false w args ∧ laidMetH Tryz.prog Rows.vmRunsRow.laid w) ∧ sizedMet enc Tryz.prog Tryz.f3 (OpenSpec.ofChange Rows.vmRunsSpec) false w args) (Rows.vmRunsSpec.post enc Tryz.prog Tryz.f3 false true false false) := by
  refine ret_and_shaped (C := Tryz.checked) (X := fun w _ => laidMetH Tryz.prog Rows.vmRunsRow.laid w) (fun _ _ _ hh h => h.of_heap hh) law_own started (by kernel_rfl) Tryz.func3
    (ChangeSpec.witness_shaped (enc := enc) (C := Tryz.checked) (os := os) (X := fun w _ => laidMetH Tryz.prog Rows.vmRunsRow.laid w) false (World.doorLaid Tryz.prog 300 os) #[.agg #[.slice none 0 0, .slice none 0 0, .slice none 0 0, .int .i64 0, .int .i64 0]] 8 rfl (World.shaped_of_RefB (by kernel_rfl) (by kernel_rfl)) (by kernel_rfl) (by kernel_rfl) (by kernel_rfl) (vmRuns_met os _)) ?_
  intro W base args ds gs before hval0 hW hsz0 hL hsh
  have hval : ∀ (j : Nat) t v, Tryz.f3.params[j]? = some t → args[j]? = some v → Value.okWide Tryz.prog W .any base t v := hval0
  refine law_post law_laid (by kernel_rfl) (tb := 4) rfl Tryz.underlying4 vmRuns_spec hW ?_
  obtain ⟨p, q, hA0, hV, _⟩ := hW
  obtain ⟨rfl, rfl⟩ := trodVars_none hV
  have hA : DataW.TrodAll enc Tryz.prog W 0 (fun _ => true) true Tryz.f3.params.toList args.toList ds p := hA0
  rw [Tryz.params3] at hA hval
  obtain ⟨v0, d0, rfl, rfl, h0⟩ := trodAll_one hA
  obtain ⟨a0, a1, a2, kd, kz, l0, l1, l2, rfl, hs0, hs1, hs2, hl0, hl1, hl2, hkd, hkz⟩ := case_read (hval 0 _ v0 rfl rfl) h0
  obtain ⟨m, hm⟩ := Tryz.laysM144.s1_3 W hsh
  obtain ⟨hLn, hMv, er, h4_, hev⟩ := laid7b_vars hL
  exact vmRunsLaw a0 a1 a2 l0 l1 l2 kd kz er m W hs0 hs1 hs2 hl0 hl1 hl2 hkd hkz hLn hMv hm h4_ hev
theorem vmRuns_j1 : Rows.vmRunsRow.wf (OpenSpec.ofChange Rows.vmRunsSpec) = true := by kernel_rfl
theorem vmRuns_j2 : (Rows.vmRunsRow.inPlace == Tryz.prog.inPlace 3) = true := by kernel_rfl
theorem vmRuns_j3 : (Rows.vmRunsRow.unfollowed == Tryz.prog.unfollowed 3) = true := by kernel_rfl
theorem vmRuns_j4 : (Rows.vmRunsRow.recurses == Tryz.prog.recurses 3) = true := by kernel_rfl
theorem vmRuns_j5 : (Rows.vmRunsRow.named == Tryz.prog.varsNamed 3) = true := by kernel_rfl
theorem vmRuns_joined : joinedFacts Tryz.prog 3 Tryz.f3 Rows.vmRunsSpec Rows.vmRunsRow = true :=
  joined_parts vmRuns_j1 law_laid law_maps (by kernel_rfl) (by kernel_rfl) (by kernel_rfl) vmRuns_j2 vmRuns_j3 vmRuns_j4 vmRuns_j5 (by kernel_rfl)
theorem vmRuns_holds : Rows.VmRunsSaid :=
  OpenClaim.holds_of_wide 3 Tryz.f3 rfl rfl rfl rfl rfl rfl rfl ⟨rfl, rfl, rfl, rfl, rfl⟩ rfl rfl rfl rfl rfl (by kernel_rfl) Tryz.func3 vmRuns_joined
    (of_decide_eq_true (by kernel_rfl)) (by unfold Func.isWrapper; first | (rw [if_pos (by decide +kernel)]; kernel_rfl) | (rw [if_neg (by decide +kernel)]; exact ⟨rfl, rfl⟩))
    (fun os started H enc _ => vmRuns_lifted os started H enc)
theorem vmRuns_card_holds : Rows.VmRunsCardSaid :=
  Claim7.holds_tied_plain_at .later [] [.data, .data, .data, .sentinel, .sentinel, .data, .data] true Rows.vmRunsCard.stood.harness true
    vmRuns_holds (fun _ h => by cases h) (by kernel_rfl) (fun _ h => by cases h) vmRuns_row_tie rfl ⟨rfl, rfl⟩ (by kernel_rfl) rfl
    (fun f fn hf hfn => by
      obtain rfl : f = 3 := Option.some.inj ((show Tryz.prog.funcNamed Rows.vmRunsRow.func = some 3 by kernel_rfl).symm.trans hf) |>.symm
      obtain rfl : fn = Tryz.f3 := (Option.some.inj (Tryz.func3.symm.trans hfn)).symm
      exact ⟨by kernel_rfl, fun j t ht => by
        rw [Tryz.params3] at ht
        have hm : t ∈ Tryz.f3.params.toList := by rw [Tryz.params3]; simpa using Array.mem_of_getElem? ht
        have hall : (Tryz.f3.params.toList.all fun u => !Tryz.prog.wantsStandIn u) = true := by kernel_rfl
        exact (show Tryz.prog.wantsStandIn t = false by simpa using List.all_eq_true.1 hall t hm)⟩)
    (goes_of law_goes rfl)
end Go.Proofs.YtjdjdoefppebkaaGreatDoor
