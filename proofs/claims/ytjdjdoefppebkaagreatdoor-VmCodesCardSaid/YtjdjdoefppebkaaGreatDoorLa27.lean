
/-
VmCodes: for all codes that are valid, Run gives what the reference gives. Condition: the listed variables read as the program's text lays them (the card ties them).
-/
import Derived.Test.YtjdjdoefppebkaaGreatDoorM7
import Derived.Deep.DeepLaidRun
namespace Go.Proofs.YtjdjdoefppebkaaGreatDoor
open Go Go.Eng Go.RowKit Go.Proofs Go.ChangeShapes Go.WideShapes Go.Deep
set_option linter.unusedVariables false
theorem vmCodes_spec : Zg8 Rows.vmCodesSpec 5 := ⟨rfl, fun H ds hl => by
  match ds, hl with
  | [d0, d1, d2, d3, d4], _ => exact ⟨rfl, rfl, rfl⟩⟩
theorem vmCodes_met (os : Os) (args : Array Value) : laidMetH Tryz.prog Rows.vmCodesRow.laid ((World.doorLaid Tryz.prog 300 os).forCall (fun _ _ => 0) ⟨#[], args, []⟩).memory :=
  laidMetH_of_parts3 (fuel := 8) (laidMet_of_run3 8 (by kernel_rfl) (by kernel_rfl) (by kernel_rfl)) (by kernel_rfl) (by kernel_rfl)
set_option maxRecDepth 100000 in
theorem vmCodes_lifted (os : Os) (started : os.Started) (H : Type) (enc : TypeId × Value → H) :
    ReturnsInHanded {} Tryz.checked os 4 .any (fun w args => (Rows.vmCodesSpec.pre enc Tryz.prog Tryz.f4 [] false w args ∧ laidMetH Tryz.prog Rows.vmCodesRow.laid w) ∧ sizedMet enc Tryz.prog Tryz.f4 (OpenSpec.ofChange Rows.vmCodesSpec) false w args) (Rows.vmCodesSpec.post enc Tryz.prog Tryz.f4 false true false false) := by
  refine ZdI (C := Tryz.checked) (X := fun w _ => laidMetH Tryz.prog Rows.vmCodesRow.laid w) (fun _ _ _ hh h => h.of_heap hh) Zp6 started (by kernel_rfl) Tryz.func4
    (ChangeSpec.witness_shaped (enc := enc) (C := Tryz.checked) (os := os) (X := fun w _ => laidMetH Tryz.prog Rows.vmCodesRow.laid w) false (World.doorLaid Tryz.prog 300 os) #[.agg #[.slice none 0 0, .slice none 0 0, .slice none 0 0, .int .i64 0, .int .i64 0], .slice none 0 0, .int .i64 0, .agg #[.int .i64 0, .int .i64 0], .agg #[.int .i64 0, .int .i64 0, .int .i64 0, .int .i64 0, .int .i64 0]] 8 rfl (World.shaped_of_RefB (by kernel_rfl) (by kernel_rfl)) (by kernel_rfl) (by kernel_rfl) (by kernel_rfl) (vmCodes_met os _)) ?_
  intro W base args ds gs before hval0 hW hsz0 hL hsh
  have hval : ∀ (j : Nat) t v, Tryz.f4.params[j]? = some t → args[j]? = some v → Value.okWide Tryz.prog W .any base t v := hval0
  refine Zlq ZnA (by kernel_rfl) (tb := 4) rfl Tryz.underlying4 vmCodes_spec hW ?_
  obtain ⟨p, q, hA0, hV, _⟩ := hW
  obtain ⟨rfl, rfl⟩ := trodVars_none hV
  have hA : DataW.TrodAll enc Tryz.prog W 0 (fun _ => true) true Tryz.f4.params.toList args.toList ds p := hA0
  rw [Tryz.params4] at hA hval
  obtain ⟨v0, v1, v2, v3, v4, d0, d1, d2, d3, d4, p0, p1, p2, p3, p4, rfl, rfl, rfl, h0, h1, h2, h3, h4⟩ := Zhd hA
  obtain ⟨a0, a1, a2, kd, kz, l0, l1, l2, rfl, hs0, hs1, hs2, hl0, hl1, hl2, hkd, hkz⟩ := Zln (hval 0 _ v0 rfl rfl) h0
  obtain ⟨m, hm⟩ := Tryz.laysM144.s1_3 W hsh
  obtain ⟨hLn, hMv, er, h4_, hev⟩ := Zht hL
  obtain ⟨raw, hraw, -, -⟩ := Zlm (hval 1 _ v1 rfl rfl) h1
  obtain ⟨az, rfl, haz⟩ := ZnB (hval 2 _ v2 rfl rfl) h2
  obtain ⟨by_, rfl⟩ := ZoD (hval 3 _ v3 rfl rfl) h3
  obtain ⟨zs, hzl, rfl, hz⟩ := ZoC Tryz.underlying52 Tryz.underlying3 (by kernel_rfl) (by kernel_rfl) (hval 4 _ v4 rfl rfl) h4
  exact Zlk a0 a1 a2 l0 l1 l2 kd kz er m v1 raw az by_ zs W hs0 hs1 hs2 hl0 hl1 hl2 hkd hkz hLn hMv hm h4_ hev hraw haz hzl hz
theorem vmCodes_j1 : Rows.vmCodesRow.wf (OpenSpec.ofChange Rows.vmCodesSpec) = true := by kernel_rfl
theorem vmCodes_j2 : (Rows.vmCodesRow.inPlace == Tryz.prog.inPlace 4) = true := by kernel_rfl
theorem vmCodes_j3 : (Rows.vmCodesRow.unfollowed == Tryz.prog.unfollowed 4) = true := by kernel_rfl
theorem vmCodes_j4 : (Rows.vmCodesRow.recurses == Tryz.prog.recurses 4) = true := by kernel_rfl
theorem vmCodes_j5 : (Rows.vmCodesRow.named == Tryz.prog.varsNamed 4) = true := by kernel_rfl
theorem vmCodes_joined : joinedFacts Tryz.prog 4 Tryz.f4 Rows.vmCodesSpec Rows.vmCodesRow = true :=
  Zhe vmCodes_j1 ZnA ZoE (by kernel_rfl) (by kernel_rfl) (by kernel_rfl) vmCodes_j2 vmCodes_j3 vmCodes_j4 vmCodes_j5 (by kernel_rfl)
theorem vmCodes_holds : Rows.VmCodesSaid :=
  OpenClaim.holds_of_wide 4 Tryz.f4 rfl rfl rfl rfl rfl rfl rfl ⟨rfl, rfl, rfl, rfl, rfl⟩ rfl rfl rfl rfl rfl (by kernel_rfl) Tryz.func4 vmCodes_joined
    (of_decide_eq_true (by kernel_rfl)) (by unfold Func.isWrapper; first | (rw [if_pos (by decide +kernel)]; kernel_rfl) | (rw [if_neg (by decide +kernel)]; exact ⟨rfl, rfl⟩))
    (fun os started H enc _ => vmCodes_lifted os started H enc)
theorem vmCodes_card_holds : Rows.VmCodesCardSaid :=
  Claim7.holds_tied_plain_at .later [] [.data, .data, .data, .sentinel, .sentinel, .data, .data] true Rows.vmCodesCard.stood.harness true
    vmCodes_holds (fun _ h => by cases h) (by kernel_rfl) (fun _ h => by cases h) vmCodes_row_tie rfl ⟨rfl, rfl⟩ (by kernel_rfl) rfl
    (fun f fn hf hfn => by
      obtain rfl : f = 4 := Option.some.inj ((show Tryz.prog.funcNamed Rows.vmCodesRow.func = some 4 by kernel_rfl).symm.trans hf) |>.symm
      obtain rfl : fn = Tryz.f4 := (Option.some.inj (Tryz.func4.symm.trans hfn)).symm
      exact ⟨by kernel_rfl, fun j t ht => by
        rw [Tryz.params4] at ht
        have hm : t ∈ Tryz.f4.params.toList := by rw [Tryz.params4]; simpa using Array.mem_of_getElem? ht
        have hall : (Tryz.f4.params.toList.all fun u => !Tryz.prog.wantsStandIn u) = true := by kernel_rfl
        exact (show Tryz.prog.wantsStandIn t = false by simpa using List.all_eq_true.1 hall t hm)⟩)
    (Zp7 ZoF rfl)
end Go.Proofs.YtjdjdoefppebkaaGreatDoor
