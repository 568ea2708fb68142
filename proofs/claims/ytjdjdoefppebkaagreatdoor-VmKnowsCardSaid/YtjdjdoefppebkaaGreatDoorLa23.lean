
/-
VmKnows: for all cases made from numbers, a further closure that becomes known later changes nothing. Condition: the listed variables read as the program's text lays them (the card ties them).
-/
import Derived.Test.YtjdjdoefppebkaaGreatDoorM7
import Derived.Deep.DeepLaidRun
namespace Go.Proofs.YtjdjdoefppebkaaGreatDoor
open Go Go.Eng Go.RowKit Go.Proofs Go.ChangeShapes Go.WideShapes Go.Deep
set_option linter.unusedVariables false
theorem vmKnows_spec : Zfa Rows.vmKnowsSpec 4 := ⟨rfl, fun H ds hl => by
  match ds, hl with
  | [d0, d1, d2, d3], _ => exact ⟨rfl, rfl, rfl⟩⟩
theorem vmKnows_met (os : Os) (args : Array Value) : laidMetH Tryz.prog Rows.vmKnowsRow.laid ((World.doorLaid Tryz.prog 300 os).forCall (fun _ _ => 0) ⟨#[], args, []⟩).memory :=
  laidMetH_of_parts3 (fuel := 8) (laidMet_of_run3 8 (by kernel_rfl) (by kernel_rfl) (by kernel_rfl)) (by kernel_rfl) (by kernel_rfl)
set_option maxRecDepth 100000 in
theorem vmKnows_lifted (os : Os) (started : os.Started) (H : Type) (enc : TypeId × Value → H) :
    ReturnsInHanded {} Tryz.checked os 7 .any (fun w args => (Rows.vmKnowsSpec.pre enc Tryz.prog Tryz.f7 [] false w args ∧ laidMetH Tryz.prog Rows.vmKnowsRow.laid w) ∧ sizedMet enc Tryz.prog Tryz.f7 (OpenSpec.ofChange Rows.vmKnowsSpec) false w args) (Rows.vmKnowsSpec.post enc Tryz.prog Tryz.f7 false true false false) := by
  refine Zd3 (C := Tryz.checked) (X := fun w _ => laidMetH Tryz.prog Rows.vmKnowsRow.laid w) (fun _ _ _ hh h => h.of_heap hh) Znt started (by kernel_rfl) Tryz.func7
    (ChangeSpec.witness_shaped (enc := enc) (C := Tryz.checked) (os := os) (X := fun w _ => laidMetH Tryz.prog Rows.vmKnowsRow.laid w) false (World.doorLaid Tryz.prog 300 os) #[.agg #[.slice none 0 0, .slice none 0 0, .slice none 0 0, .int .i64 0, .int .i64 0], .int .i64 0, .int .i64 0, .int .i64 0] 8 rfl (World.shaped_of_RefB (by kernel_rfl) (by kernel_rfl)) (by kernel_rfl) (by kernel_rfl) (by kernel_rfl) (vmKnows_met os _)) ?_
  intro W base args ds gs before hval0 hW hsz0 hL hsh
  have hval : ∀ (j : Nat) t v, Tryz.f7.params[j]? = some t → args[j]? = some v → Value.okWide Tryz.prog W .any base t v := hval0
  refine Zk2 ZlV (by kernel_rfl) (tb := 4) rfl Tryz.underlying4 vmKnows_spec hW ?_
  obtain ⟨p, q, hA0, hV, _⟩ := hW
  obtain ⟨rfl, rfl⟩ := trodVars_none hV
  have hA : DataW.TrodAll enc Tryz.prog W 0 (fun _ => true) true Tryz.f7.params.toList args.toList ds p := hA0
  have hF : SlV [] W Z2l Z8 := (ZjX hL).2
  rw [Tryz.params7] at hA hval
  obtain ⟨v0, v1, v2, v3, d0, d1, d2, d3, p0, p1, p2, p3, rfl, rfl, rfl, h0, h1, h2, h3⟩ := trodAll_four hA
  obtain ⟨a0, a1, a2, kd, kz, l0, l1, l2, rfl, hs0, hs1, hs2, hl0, hl1, hl2, hkd, hkz⟩ := ZjY (hval 0 _ v0 rfl rfl) h0
  obtain ⟨m, hm⟩ := Tryz.laysM144.s1_3 W hsh
  obtain ⟨⟨hLn, hMv, er, h4, hev⟩, -⟩ := ZjX hL
  obtain ⟨fz, rfl, hfz⟩ := ZlW (hval 1 _ v1 rfl rfl) h1
  obtain ⟨wz, rfl, hwz⟩ := ZlW (hval 2 _ v2 rfl rfl) h2
  obtain ⟨lz, rfl, hlz⟩ := ZlW (hval 3 _ v3 rfl rfl) h3
  exact ZjW a0 a1 a2 l0 l1 l2 kd kz er m fz wz lz W hs0 hs1 hs2 hl0 hl1 hl2 hkd hkz hF hLn hMv hm h4 hev hfz hwz hlz
theorem vmKnows_j1 : Rows.vmKnowsRow.wf (OpenSpec.ofChange Rows.vmKnowsSpec) = true := by kernel_rfl
theorem vmKnows_j2 : (Rows.vmKnowsRow.inPlace == Tryz.prog.inPlace 7) = true := by kernel_rfl
theorem vmKnows_j3 : (Rows.vmKnowsRow.unfollowed == Tryz.prog.unfollowed 7) = true := by kernel_rfl
theorem vmKnows_j4 : (Rows.vmKnowsRow.recurses == Tryz.prog.recurses 7) = true := by kernel_rfl
theorem vmKnows_j5 : (Rows.vmKnowsRow.named == Tryz.prog.varsNamed 7) = true := by kernel_rfl
theorem vmKnows_joined : joinedFacts Tryz.prog 7 Tryz.f7 Rows.vmKnowsSpec Rows.vmKnowsRow = true :=
  Zgh vmKnows_j1 ZlV Zn1 (by kernel_rfl) (by kernel_rfl) (by kernel_rfl) vmKnows_j2 vmKnows_j3 vmKnows_j4 vmKnows_j5 (by kernel_rfl)
theorem vmKnows_holds : Rows.VmKnowsSaid :=
  OpenClaim.holds_of_wide 7 Tryz.f7 rfl rfl rfl rfl rfl rfl rfl ⟨rfl, rfl, rfl, rfl, rfl⟩ rfl rfl rfl rfl rfl (by kernel_rfl) Tryz.func7 vmKnows_joined
    (of_decide_eq_true (by kernel_rfl)) (by unfold Func.isWrapper; first | (rw [if_pos (by decide +kernel)]; kernel_rfl) | (rw [if_neg (by decide +kernel)]; exact ⟨rfl, rfl⟩))
    (fun os started H enc _ => vmKnows_lifted os started H enc)
theorem vmKnows_card_holds : Rows.VmKnowsCardSaid :=
  Claim7.holds_tied_plain_at .later [] [.data, .data, .data, .sentinel, .sentinel, .data, .data, .widerDeep] true Rows.vmKnowsCard.stood.harness true
    vmKnows_holds (fun _ h => by cases h) (by kernel_rfl) (fun _ h => by cases h) vmKnows_row_tie rfl ⟨rfl, rfl⟩ (by kernel_rfl) rfl
    (fun f fn hf hfn => by
      obtain rfl : f = 7 := Option.some.inj ((show Tryz.prog.funcNamed Rows.vmKnowsRow.func = some 7 by kernel_rfl).symm.trans hf) |>.symm
      obtain rfl : fn = Tryz.f7 := (Option.some.inj (Tryz.func7.symm.trans hfn)).symm
      exact ⟨by kernel_rfl, fun j t ht => by
        rw [Tryz.params7] at ht
        have hm : t ∈ Tryz.f7.params.toList := by rw [Tryz.params7]; simpa using Array.mem_of_getElem? ht
        have hall : (Tryz.f7.params.toList.all fun u => !Tryz.prog.wantsStandIn u) = true := by kernel_rfl
        exact (show Tryz.prog.wantsStandIn t = false by simpa using List.all_eq_true.1 hall t hm)⟩)
    (Znu Zn2 rfl)
end Go.Proofs.YtjdjdoefppebkaaGreatDoor
