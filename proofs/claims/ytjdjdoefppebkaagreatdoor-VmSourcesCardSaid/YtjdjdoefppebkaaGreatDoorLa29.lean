
/-
VmSources: for all cases made from numbers, the sources of the terms give what the reference gives. Condition: the listed variables read as the program's text lays them (the card ties them).
-/
import Derived.Test.YtjdjdoefppebkaaGreatDoorM8
import Derived.Deep.DeepLaidRun
namespace Go.Proofs.YtjdjdoefppebkaaGreatDoor
open Go Go.Eng Go.RowKit Go.Proofs Go.ChangeShapes Go.WideShapes Go.Deep
set_option linter.unusedVariables false
theorem vmSources_spec : ZhH Rows.vmSourcesSpec 1 := ⟨rfl, fun H ds hl => by
  match ds, hl with
  | [d0], _ => exact ⟨rfl, rfl, rfl⟩⟩
theorem vmSources_met (os : Os) (args : Array Value) : laidMetH Tryz.prog Rows.vmSourcesRow.laid ((World.doorLaid Tryz.prog 300 os).forCall (fun _ _ => 0) ⟨#[], args, []⟩).memory :=
  laidMetH_of_parts3 (fuel := 8) (laidMet_of_run3 8 (by kernel_rfl) (by kernel_rfl) (by kernel_rfl)) (by kernel_rfl) (by kernel_rfl)
set_option maxRecDepth 100000 in
theorem vmSources_lifted (os : Os) (started : os.Started) (H : Type) (enc : TypeId × Value → H) :
    ReturnsInHanded {} Tryz.checked os 10 .any (fun w args => (Rows.vmSourcesSpec.pre enc Tryz.prog Tryz.f10 [] false w args ∧ laidMetH Tryz.prog Rows.vmSourcesRow.laid w) ∧ sizedMet enc Tryz.prog Tryz.f10 (OpenSpec.ofChange Rows.vmSourcesSpec) false w args) (Rows.vmSourcesSpec.post enc Tryz.prog Tryz.f10 false true false false) := by
  refine Zfr (C := Tryz.checked) (X := fun w _ => laidMetH Tryz.prog Rows.vmSourcesRow.laid w) (fun _ _ _ hh h => h.of_heap hh) ZqI started (by kernel_rfl) Tryz.func10
    (ChangeSpec.witness_shaped (enc := enc) (C := Tryz.checked) (os := os) (X := fun w _ => laidMetH Tryz.prog Rows.vmSourcesRow.laid w) false (World.doorLaid Tryz.prog 300 os) #[.agg #[.slice none 0 0, .slice none 0 0, .slice none 0 0, .int .i64 0, .int .i64 0]] 8 rfl (World.shaped_of_RefB (by kernel_rfl) (by kernel_rfl)) (by kernel_rfl) (by kernel_rfl) (by kernel_rfl) (vmSources_met os _)) ?_
  intro W base args ds gs before hval0 hW hsz0 hL hsh
  have hval : ∀ (j : Nat) t v, Tryz.f10.params[j]? = some t → args[j]? = some v → Value.okWide Tryz.prog W .any base t v := hval0
  refine Zn9 Zp2 (by kernel_rfl) (tb := 4) rfl Tryz.underlying4 vmSources_spec hW ?_
  obtain ⟨p, q, hA0, hV, _⟩ := hW
  obtain ⟨rfl, rfl⟩ := trodVars_none hV
  have hA : DataW.TrodAll enc Tryz.prog W 0 (fun _ => true) true Tryz.f10.params.toList args.toList ds p := hA0
  have hF : SlV [] W Z30 Zg := (Zn5 hL).2
  rw [Tryz.params10] at hA hval
  obtain ⟨v0, d0, rfl, rfl, h0⟩ := trodAll_one hA
  obtain ⟨a0, a1, a2, kd, kz, l0, l1, l2, rfl, hs0, hs1, hs2, hl0, hl1, hl2, hkd, hkz⟩ := Zn6 (hval 0 _ v0 rfl rfl) h0
  obtain ⟨m, hm⟩ := Tryz.laysM144.s1_3 W hsh
  obtain ⟨⟨hLn, hMv, er, h4_, hev⟩, -⟩ := Zn5 hL
  exact ZiZ a0 a1 a2 l0 l1 l2 kd kz er m W hs0 hs1 hs2 hl0 hl1 hl2 hkd hkz hF hLn hMv hm h4_ hev
theorem vmSources_j1 : Rows.vmSourcesRow.wf (OpenSpec.ofChange Rows.vmSourcesSpec) = true := by kernel_rfl
theorem vmSources_j2 : (Rows.vmSourcesRow.inPlace == Tryz.prog.inPlace 10) = true := by kernel_rfl
theorem vmSources_j3 : (Rows.vmSourcesRow.unfollowed == Tryz.prog.unfollowed 10) = true := by kernel_rfl
theorem vmSources_j4 : (Rows.vmSourcesRow.recurses == Tryz.prog.recurses 10) = true := by kernel_rfl
theorem vmSources_j5 : (Rows.vmSourcesRow.named == Tryz.prog.varsNamed 10) = true := by kernel_rfl
theorem vmSources_joined : joinedFacts Tryz.prog 10 Tryz.f10 Rows.vmSourcesSpec Rows.vmSourcesRow = true :=
  Zj0 vmSources_j1 Zp2 Zq7 (by kernel_rfl) (by kernel_rfl) (by kernel_rfl) vmSources_j2 vmSources_j3 vmSources_j4 vmSources_j5 (by kernel_rfl)
theorem vmSources_holds : Rows.VmSourcesSaid :=
  OpenClaim.holds_of_wide 10 Tryz.f10 rfl rfl rfl rfl rfl rfl rfl ⟨rfl, rfl, rfl, rfl, rfl⟩ rfl rfl rfl rfl rfl (by kernel_rfl) Tryz.func10 vmSources_joined
    (of_decide_eq_true (by kernel_rfl)) (by unfold Func.isWrapper; first | (rw [if_pos (by decide +kernel)]; kernel_rfl) | (rw [if_neg (by decide +kernel)]; exact ⟨rfl, rfl⟩))
    (fun os started H enc _ => vmSources_lifted os started H enc)
theorem vmSources_card_holds : Rows.VmSourcesCardSaid :=
  Claim7.holds_tied_plain_at .later [] [.data, .data, .data, .sentinel, .sentinel, .data, .data, .widerDeep] true Rows.vmSourcesCard.stood.harness true
    vmSources_holds (fun _ h => by cases h) (by kernel_rfl) (fun _ h => by cases h) vmSources_row_tie rfl ⟨rfl, rfl⟩ (by kernel_rfl) rfl
    (fun f fn hf hfn => by
      obtain rfl : f = 10 := Option.some.inj ((show Tryz.prog.funcNamed Rows.vmSourcesRow.func = some 10 by kernel_rfl).symm.trans hf) |>.symm
      obtain rfl : fn = Tryz.f10 := (Option.some.inj (Tryz.func10.symm.trans hfn)).symm
      exact ⟨by kernel_rfl, fun j t ht => by
        rw [Tryz.params10] at ht
        have hm : t ∈ Tryz.f10.params.toList := by rw [Tryz.params10]; simpa using Array.mem_of_getElem? ht
        have hall : (Tryz.f10.params.toList.all fun u => !Tryz.prog.wantsStandIn u) = true := by kernel_rfl
        exact (show Tryz.prog.wantsStandIn t = false by simpa using List.all_eq_true.1 hall t hm)⟩)
    (ZqJ Zq8 rfl)
end Go.Proofs.YtjdjdoefppebkaaGreatDoor
