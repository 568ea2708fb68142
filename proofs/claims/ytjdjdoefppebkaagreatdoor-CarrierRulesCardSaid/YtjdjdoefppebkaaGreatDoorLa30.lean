
/-
CarrierRules: for all papers and ways made from numbers, all attempts and all extra days, "served + extra days" has the value that true service says, or the error ErrServed. Condition: the listed variables read as the program's text lays them (the card ties them).
-/
import Derived.Test.YtjdjdoefppebkaaGreatDoorM5
import Derived.Deep.DeepLaidRun
namespace Go.Proofs.YtjdjdoefppebkaaGreatDoor
open Go Go.Eng Go.RowKit Go.Proofs Go.ChangeShapes Go.WideShapes Go.Deep Go.Joins
set_option linter.unusedVariables false
theorem carrierRules_spec : Zdl Rows.carrierRulesSpec 2 := ⟨rfl, fun H ds hl => by
  match ds, hl with
  | [d0, d1], _ => exact ⟨rfl, rfl, rfl⟩⟩
theorem carrierRules_met (os : Os) (args : Array Value) : laidMetH Tryz.prog Rows.carrierRulesRow.laid ((World.doorLaid Tryz.prog 300 os).forCall (fun _ _ => 0) ⟨#[], args, []⟩).memory :=
  laidMetH_of_parts3 (fuel := 8) (laidMet_of_run3 8 (by kernel_rfl) (by kernel_rfl) (by kernel_rfl)) (by kernel_rfl) (by kernel_rfl)
set_option maxRecDepth 100000 in
theorem carrierRules_lifted (os : Os) (started : os.Started) (H : Type) (enc : TypeId × Value → H) :
    ReturnsInHanded {} Tryz.checked os 6 .any (fun w args => (Rows.carrierRulesSpec.pre enc Tryz.prog Tryz.f6 [] false w args ∧ laidMetH Tryz.prog Rows.carrierRulesRow.laid w) ∧ sizedMet enc Tryz.prog Tryz.f6 (OpenSpec.ofChange Rows.carrierRulesSpec) false w args) (Rows.carrierRulesSpec.post enc Tryz.prog Tryz.f6 false true false false) := by
  refine Zbw (C := Tryz.checked) (X := fun w _ => laidMetH Tryz.prog Rows.carrierRulesRow.laid w) (fun _ _ _ hh h => h.of_heap hh) ZkN started (by kernel_rfl) Tryz.func6
    (ChangeSpec.witness_shaped (enc := enc) (C := Tryz.checked) (os := os) (X := fun w _ => laidMetH Tryz.prog Rows.carrierRulesRow.laid w) false (World.doorLaid Tryz.prog 300 os) #[.agg #[.slice none 0 0, .slice none 0 0, .int .i64 0], .int .i64 0] 8 rfl (World.shaped_of_RefB (by kernel_rfl) (by kernel_rfl)) (by kernel_rfl) (by kernel_rfl) (by kernel_rfl) (carrierRules_met os _)) ?_
  intro W base args ds gs before hval0 hW hsz0 hL hsh
  have hval : ∀ (j : Nat) t v, Tryz.f6.params[j]? = some t → args[j]? = some v → Value.okWide Tryz.prog W .any base t v := hval0
  refine Zjv ZjG (by kernel_rfl) (tb := 4) rfl Tryz.underlying4 carrierRules_spec hW ?_
  obtain ⟨p, q, hA0, hV, _⟩ := hW
  obtain ⟨rfl, rfl⟩ := trodVars_none hV
  have hA : DataW.TrodAll enc Tryz.prog W 0 (fun _ => true) true Tryz.f6.params.toList args.toList ds p := hA0
  rw [Tryz.params6] at hA hval
  obtain ⟨v0, v1, d0, d1, p0, p1, rfl, rfl, rfl, h0, h1⟩ := trodAll_two hA
  obtain ⟨va, vb, a, b, n, rfl, ha, hb, hia, hib, hn⟩ := Zeg (hval 0 _ v0 rfl rfl) h0
  obtain ⟨z, rfl, hz⟩ := ZjH (hval 1 _ v1 rfl rfl) h1
  obtain ⟨m, hm⟩ := Tryz.laysM144.s1_3 W hsh
  obtain ⟨hLn, hMv, er, h4, hev⟩ := Zef hL
  exact ZaI va vb a b n z er m W ha hb hia hib hn hz hLn hMv hm h4 hev
theorem carrierRules_j1 : Rows.carrierRulesRow.wf (OpenSpec.ofChange Rows.carrierRulesSpec) = true := by kernel_rfl
theorem carrierRules_j2 : (Rows.carrierRulesRow.inPlace == Tryz.prog.inPlace 6) = true := by kernel_rfl
theorem carrierRules_j3 : (Rows.carrierRulesRow.unfollowed == Tryz.prog.unfollowed 6) = true := by kernel_rfl
theorem carrierRules_j4 : (Rows.carrierRulesRow.recurses == Tryz.prog.recurses 6) = true := by kernel_rfl
theorem carrierRules_j5 : (Rows.carrierRulesRow.named == Tryz.prog.varsNamed 6) = true := by kernel_rfl
theorem carrierRules_joined : joinedFacts Tryz.prog 6 Tryz.f6 Rows.carrierRulesSpec Rows.carrierRulesRow = true :=
  Ze2 carrierRules_j1 ZjG Zkn (by kernel_rfl) (by kernel_rfl) (by kernel_rfl) carrierRules_j2 carrierRules_j3 carrierRules_j4 carrierRules_j5 (by kernel_rfl)
theorem carrierRules_holds : Rows.CarrierRulesSaid :=
  OpenClaim.holds_of_wide 6 Tryz.f6 rfl rfl rfl rfl rfl rfl rfl ⟨rfl, rfl, rfl, rfl, rfl⟩ rfl rfl rfl rfl rfl (by kernel_rfl) Tryz.func6 carrierRules_joined
    (of_decide_eq_true (by kernel_rfl)) (by unfold Func.isWrapper; first | (rw [if_pos (by decide +kernel)]; kernel_rfl) | (rw [if_neg (by decide +kernel)]; exact ⟨rfl, rfl⟩))
    (fun os started H enc _ => carrierRules_lifted os started H enc)
theorem carrierRules_card_holds : Rows.CarrierRulesCardSaid :=
  Claim7.holds_tied_plain_at .later [] [.data, .data, .data, .sentinel, .sentinel, .data, .data] true Rows.carrierRulesCard.stood.harness true
    carrierRules_holds (fun _ h => by cases h) (by kernel_rfl) (fun _ h => by cases h) carrierRules_row_tie rfl ⟨rfl, rfl⟩ (by kernel_rfl) rfl
    (fun f fn hf hfn => by
      obtain rfl : f = 6 := Option.some.inj ((show Tryz.prog.funcNamed Rows.carrierRulesRow.func = some 6 by kernel_rfl).symm.trans hf) |>.symm
      obtain rfl : fn = Tryz.f6 := (Option.some.inj (Tryz.func6.symm.trans hfn)).symm
      exact ⟨by kernel_rfl, fun j t ht => by
        rw [Tryz.params6] at ht
        have hm : t ∈ Tryz.f6.params.toList := by rw [Tryz.params6]; simpa using Array.mem_of_getElem? ht
        have hall : (Tryz.f6.params.toList.all fun u => !Tryz.prog.wantsStandIn u) = true := by kernel_rfl
        exact (show Tryz.prog.wantsStandIn t = false by simpa using List.all_eq_true.1 hall t hm)⟩)
    (ZkO Zko rfl)
end Go.Proofs.YtjdjdoefppebkaaGreatDoor
