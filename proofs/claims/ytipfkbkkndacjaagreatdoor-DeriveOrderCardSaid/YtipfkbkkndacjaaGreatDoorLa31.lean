
/-
DeriveOrder: for all cases made from numbers, any other order of the facts has the same deadlines and events. Condition: the listed variables read as the program's text lays them (the card ties them).
-/
import Derived.Test.YtipfkbkkndacjaaGreatDoorM7
import Derived.Deep.DeepLaidRun
namespace Go.Proofs.YtipfkbkkndacjaaGreatDoor
open Go Go.Eng Go.RowKit Go.Proofs Go.ChangeShapes Go.WideShapes Go.Deep
set_option linter.unusedVariables false
theorem deriveOrder_spec : Znc Rows.deriveOrderSpec 2 := ⟨rfl, λH ds hl => by
  match ds, hl with
  | [d0, d1], _ => exact ⟨rfl, rfl, rfl⟩⟩
theorem deriveOrder_met (os : Os) (args : Array Value) : laidMetH Tryz.prog Rows.deriveOrderRow.laid ((World.doorLaid Tryz.prog 300 os).forCall (λ_ _ => 0) ⟨#[], args, []⟩).memory :=
  laidMetH_of_parts3 (fuel := 8) (laidMet_of_run3 8 (by kernel_rfl) (by kernel_rfl) (by kernel_rfl)) (by kernel_rfl) (by kernel_rfl)
set_option maxRecDepth 100000 in
theorem deriveOrder_lifted (os : Os) (started : os.Started) (H : Type) (enc : TypeId × Value -> H) :
    ReturnsInHanded {} Tryz.checked os 4 .any (λw args => (Rows.deriveOrderSpec.pre enc Tryz.prog Tryz.f4 [] false w args /\ laidMetH Tryz.prog Rows.deriveOrderRow.laid w) /\ sizedMet enc Tryz.prog Tryz.f4 (OpenSpec.ofChange Rows.deriveOrderSpec) false w args) (Rows.deriveOrderSpec.post enc Tryz.prog Tryz.f4 false true false false) := by
  refine ZjZ (C := Tryz.checked) (X := λw _ => laidMetH Tryz.prog Rows.deriveOrderRow.laid w) (λ_ _ _ hh h => h.of_heap hh) ZxE started (by kernel_rfl) Tryz.func4
    (ChangeSpec.witness_shaped (enc := enc) (C := Tryz.checked) (os := os) (X := λw _ => laidMetH Tryz.prog Rows.deriveOrderRow.laid w) false (World.doorLaid Tryz.prog 300 os) #[.slice none 0 0, .slice none 0 0] 8 rfl (World.shaped_of_RefB (by kernel_rfl) (by kernel_rfl)) (by kernel_rfl) (by kernel_rfl) (by kernel_rfl) (deriveOrder_met os _)) ?_
  intro W base args ds gs before hval0 hW hsz0 hL dQ
  have qH : ∀ (j : Nat) t v, Tryz.f4.params[j]? = some t -> args[j]? = some v -> Value.okWide Tryz.prog W .any base t v := hval0
  refine ZwP ZwV (by kernel_rfl) (tb := 4) rfl Tryz.underlying4 deriveOrder_spec hW ?_
  obtain ⟨p, q, hA0, hV, _⟩ := hW
  obtain ⟨rfl, rfl⟩ := trodVars_none hV
  have hA : DataW.TrodAll enc Tryz.prog W 0 (λ_ => true) true Tryz.f4.params.toList args.toList ds p := hA0
  have hF : SlV [] W Z21 Ze := (ZtQ hL).2
  rw [Tryz.params4] at hA qH
  obtain ⟨v0, v1, d0, d1, p0, p1, rfl, rfl, rfl, h0, h1⟩ := trodAll_two hA
  obtain ⟨l, hs, hl, -⟩ := ZtR (qH 0 _ v0 rfl rfl) h0
  obtain ⟨places, bA, bZ, -⟩ := ZtR (qH 1 _ v1 rfl rfl) h1
  obtain ⟨m, hm⟩ := Tryz.laysM144.s1_3 W dQ
  obtain ⟨⟨hLn, hMv, er, h4_, bD⟩, -⟩ := ZtQ hL
  exact Zxt v0 v1 l places er m W hs hl bA bZ hF hLn hMv hm h4_ bD
theorem deriveOrder_j1 : Rows.deriveOrderRow.wf (OpenSpec.ofChange Rows.deriveOrderSpec) = true := by kernel_rfl
theorem deriveOrder_j2 : (Rows.deriveOrderRow.inPlace == Tryz.prog.inPlace 4) = true := by kernel_rfl
theorem deriveOrder_j3 : (Rows.deriveOrderRow.unfollowed == Tryz.prog.unfollowed 4) = true := by kernel_rfl
theorem deriveOrder_j4 : (Rows.deriveOrderRow.recurses == Tryz.prog.recurses 4) = true := by kernel_rfl
theorem deriveOrder_j5 : (Rows.deriveOrderRow.named == Tryz.prog.varsNamed 4) = true := by kernel_rfl
theorem deriveOrder_joined : joinedFacts Tryz.prog 4 Tryz.f4 Rows.deriveOrderSpec Rows.deriveOrderRow = true :=
  ZoB deriveOrder_j1 ZwV ZxC (by kernel_rfl) (by kernel_rfl) (by kernel_rfl) deriveOrder_j2 deriveOrder_j3 deriveOrder_j4 deriveOrder_j5 (by kernel_rfl)
theorem deriveOrder_holds : Rows.DeriveOrderSaid :=
  OpenClaim.holds_of_wide 4 Tryz.f4 rfl rfl rfl rfl rfl rfl rfl ⟨rfl, rfl, rfl, rfl, rfl⟩ rfl rfl rfl rfl rfl (by kernel_rfl) Tryz.func4 deriveOrder_joined
    (of_decide_eq_true (by kernel_rfl)) (by unfold Func.isWrapper; first | (rw [if_pos (by decide +kernel)]; kernel_rfl) | (rw [if_neg (by decide +kernel)]; exact ⟨rfl, rfl⟩))
    (λos started H enc _ => deriveOrder_lifted os started H enc)
theorem deriveOrder_card_holds : Rows.DeriveOrderCardSaid :=
  Claim7.holds_tied_plain_at .later [] [.data, .data, .data, .sentinel, .sentinel, .data, .data, .widerDeep] true Rows.deriveOrderCard.stood.harness true
    deriveOrder_holds (λ_ h => by cases h) (by kernel_rfl) (λ_ h => by cases h) deriveOrder_row_tie rfl ⟨rfl, rfl⟩ (by kernel_rfl) rfl
    (λf fn hf qF => by
      obtain rfl : f = 4 := Option.some.inj ((show Tryz.prog.funcNamed Rows.deriveOrderRow.func = some 4 by kernel_rfl).symm.trans hf) |>.symm
      obtain rfl : fn = Tryz.f4 := (Option.some.inj (Tryz.func4.symm.trans qF)).symm
      exact ⟨by kernel_rfl, λj t ht => by
        rw [Tryz.params4] at ht
        have hm : t ∈ Tryz.f4.params.toList := by rw [Tryz.params4]; simpa using Array.mem_of_getElem? ht
        have aB : (Tryz.f4.params.toList.all λu => !Tryz.prog.wantsStandIn u) = true := by kernel_rfl
        exact (show Tryz.prog.wantsStandIn t = false by simpa using List.all_eq_true.1 aB t hm)⟩)
    (ZxF ZxD rfl)
end Go.Proofs.YtipfkbkkndacjaaGreatDoor
