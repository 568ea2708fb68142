
/-
DeriveApplies: for all rules, with arbitrary fields, and for those of cases made from numbers, Applies returns the specified index. Condition: the listed variables read as the program's text lays them (the card ties them).
-/
import Derived.Test.YtipfkbkkndacjaaGreatDoorQ7
import Derived.Deep.DeepLaidRun
namespace Go.Proofs.YtipfkbkkndacjaaGreatDoor
open Go Go.Eng Go.RowKit Go.Proofs Go.ChangeShapes Go.WideShapes Go.Deep
set_option linter.unusedVariables false
theorem deriveApplies_spec : Zn0 Rows.deriveAppliesSpec 4 := ⟨rfl, λH ds hl => by
  match ds, hl with
  | [d0, d1, d2, d3], _ => exact ⟨rfl, rfl, rfl⟩⟩
theorem deriveApplies_met (os : Os) (args : Array Value) : laidMetH Tryz.prog Rows.deriveAppliesRow.laid ((World.doorLaid Tryz.prog 300 os).forCall (λ_ _ => 0) ⟨#[], args, []⟩).memory :=
  laidMetH_of_parts3 (fuel := 8) (laidMet_of_run3 8 (by kernel_rfl) (by kernel_rfl) (by kernel_rfl)) (by kernel_rfl) (by kernel_rfl)
set_option maxRecDepth 100000 in
theorem deriveApplies_lifted (os : Os) (started : os.Started) (H : Type) (enc : TypeId × Value -> H) :
    ReturnsInHanded {} Tryz.checked os 3 .any (λw args => (Rows.deriveAppliesSpec.pre enc Tryz.prog Tryz.f3 [] false w args /\ laidMetH Tryz.prog Rows.deriveAppliesRow.laid w) /\ sizedMet enc Tryz.prog Tryz.f3 (OpenSpec.ofChange Rows.deriveAppliesSpec) false w args) (Rows.deriveAppliesSpec.post enc Tryz.prog Tryz.f3 false true false false) := by
  refine Zju (C := Tryz.checked) (X := λw _ => laidMetH Tryz.prog Rows.deriveAppliesRow.laid w) (λ_ _ _ hh h => h.of_heap hh) Zxd started (by kernel_rfl) Tryz.func3
    (ChangeSpec.witness_shaped (enc := enc) (C := Tryz.checked) (os := os) (X := λw _ => laidMetH Tryz.prog Rows.deriveAppliesRow.laid w) false (World.doorLaid Tryz.prog 300 os) #[.slice none 0 0, .slice none 0 0, .string ⟨#[]⟩, .int .i64 0] 8 rfl (World.shaped_of_RefB (by kernel_rfl) (by kernel_rfl)) (by kernel_rfl) (by kernel_rfl) (by kernel_rfl) (deriveApplies_met os _)) ?_
  intro W base args ds gs before hval0 hW hsz0 hL dJ
  have qu : ∀ (j : Nat) t v, Tryz.f3.params[j]? = some t -> args[j]? = some v -> Value.okWide Tryz.prog W .any base t v := hval0
  refine Zwu ZwA (by kernel_rfl) (tb := 4) rfl Tryz.underlying4 deriveApplies_spec hW ?_
  obtain ⟨p, q, hA0, hV, _⟩ := hW
  obtain ⟨rfl, rfl⟩ := trodVars_none hV
  have hA : DataW.TrodAll enc Tryz.prog W 0 (λ_ => true) true Tryz.f3.params.toList args.toList ds p := hA0
  have hF : SlV [] W Z2e Ze := (Zty hL).2
  rw [Tryz.params3] at hA qu
  obtain ⟨v0, v1, v2, v3, d0, d1, d2, d3, p0, p1, p2, p3, rfl, rfl, rfl, h0, h1, h2, h3⟩ := trodAll_four hA
  obtain ⟨rs, lO⟩ := Zxa (qu 0 _ v0 rfl rfl) h0
  obtain ⟨l, hs, hl, -⟩ := Ztz (qu 1 _ v1 rfl rfl) h1
  obtain ⟨nm, rfl⟩ := okWide_string Tryz.underlying9 (qu 2 _ v2 rfl rfl)
  obtain ⟨day, rfl, hd⟩ := ZwB (qu 3 _ v3 rfl rfl) h3
  obtain ⟨m, hm⟩ := Tryz.laysM144.s1_3 W dJ
  obtain ⟨⟨hLn, hMv, er, h4_, bF⟩, -⟩ := Zty hL
  exact Ztx v0 v1 rs l nm.data.toList day er m W lO hs hl hd hF hLn hMv hm h4_ bF
theorem deriveApplies_j1 : Rows.deriveAppliesRow.wf (OpenSpec.ofChange Rows.deriveAppliesSpec) = true := by kernel_rfl
theorem deriveApplies_j2 : (Rows.deriveAppliesRow.inPlace == Tryz.prog.inPlace 3) = true := by kernel_rfl
theorem deriveApplies_j3 : (Rows.deriveAppliesRow.unfollowed == Tryz.prog.unfollowed 3) = true := by kernel_rfl
theorem deriveApplies_j4 : (Rows.deriveAppliesRow.recurses == Tryz.prog.recurses 3) = true := by kernel_rfl
theorem deriveApplies_j5 : (Rows.deriveAppliesRow.named == Tryz.prog.varsNamed 3) = true := by kernel_rfl
theorem deriveApplies_joined : joinedFacts Tryz.prog 3 Tryz.f3 Rows.deriveAppliesSpec Rows.deriveAppliesRow = true :=
  Zop deriveApplies_j1 ZwA Zxb (by kernel_rfl) (by kernel_rfl) (by kernel_rfl) deriveApplies_j2 deriveApplies_j3 deriveApplies_j4 deriveApplies_j5 (by kernel_rfl)
theorem deriveApplies_holds : Rows.DeriveAppliesSaid :=
  OpenClaim.holds_of_wide 3 Tryz.f3 rfl rfl rfl rfl rfl rfl rfl ⟨rfl, rfl, rfl, rfl, rfl⟩ rfl rfl rfl rfl rfl (by kernel_rfl) Tryz.func3 deriveApplies_joined
    (of_decide_eq_true (by kernel_rfl)) (by unfold Func.isWrapper; first | (rw [if_pos (by decide +kernel)]; kernel_rfl) | (rw [if_neg (by decide +kernel)]; exact ⟨rfl, rfl⟩))
    (λos started H enc _ => deriveApplies_lifted os started H enc)
theorem deriveApplies_card_holds : Rows.DeriveAppliesCardSaid :=
  Claim7.holds_tied_plain_at .later [] [.data, .data, .data, .sentinel, .sentinel, .data, .data, .widerDeep] true Rows.deriveAppliesCard.stood.harness true
    deriveApplies_holds (λ_ h => by cases h) (by kernel_rfl) (λ_ h => by cases h) deriveApplies_row_tie rfl ⟨rfl, rfl⟩ (by kernel_rfl) rfl
    (λf fn hf qr => by
      obtain rfl : f = 3 := Option.some.inj ((show Tryz.prog.funcNamed Rows.deriveAppliesRow.func = some 3 by kernel_rfl).symm.trans hf) |>.symm
      obtain rfl : fn = Tryz.f3 := (Option.some.inj (Tryz.func3.symm.trans qr)).symm
      exact ⟨by kernel_rfl, λj t ht => by
        rw [Tryz.params3] at ht
        have hm : t ∈ Tryz.f3.params.toList := by rw [Tryz.params3]; simpa using Array.mem_of_getElem? ht
        have aB : (Tryz.f3.params.toList.all λu => !Tryz.prog.wantsStandIn u) = true := by kernel_rfl
        exact (show Tryz.prog.wantsStandIn t = false by simpa using List.all_eq_true.1 aB t hm)⟩)
    (Zxe Zxc rfl)
end Go.Proofs.YtipfkbkkndacjaaGreatDoor
