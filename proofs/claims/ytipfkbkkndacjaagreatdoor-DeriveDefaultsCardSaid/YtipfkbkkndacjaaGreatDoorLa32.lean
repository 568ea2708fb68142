
/-
DeriveDefaults: for all cases made from numbers, every event has a passed deadline that gives it, and every passed deadline with an Else whose day has come gives an event. Condition: the listed variables read as the program's text lays them (the card ties them).
-/
import Derived.Test.YtipfkbkkndacjaaGreatDoorM7
import Derived.Deep.DeepLaidRun
namespace Go.Proofs.YtipfkbkkndacjaaGreatDoor
open Go Go.Eng Go.RowKit Go.Proofs Go.ChangeShapes Go.WideShapes Go.Deep
set_option linter.unusedVariables false
theorem deriveDefaults_spec : Znc Rows.deriveDefaultsSpec 1 := ⟨rfl, λH ds hl => by
  match ds, hl with
  | [d0], _ => exact ⟨rfl, rfl, rfl⟩⟩
theorem deriveDefaults_met (os : Os) (args : Array Value) : laidMetH Tryz.prog Rows.deriveDefaultsRow.laid ((World.doorLaid Tryz.prog 300 os).forCall (λ_ _ => 0) ⟨#[], args, []⟩).memory :=
  laidMetH_of_parts3 (fuel := 8) (laidMet_of_run3 8 (by kernel_rfl) (by kernel_rfl) (by kernel_rfl)) (by kernel_rfl) (by kernel_rfl)
set_option maxRecDepth 100000 in
theorem deriveDefaults_lifted (os : Os) (started : os.Started) (H : Type) (enc : TypeId × Value -> H) :
    ReturnsInHanded {} Tryz.checked os 6 .any (λw args => (Rows.deriveDefaultsSpec.pre enc Tryz.prog Tryz.f6 [] false w args /\ laidMetH Tryz.prog Rows.deriveDefaultsRow.laid w) /\ sizedMet enc Tryz.prog Tryz.f6 (OpenSpec.ofChange Rows.deriveDefaultsSpec) false w args) (Rows.deriveDefaultsSpec.post enc Tryz.prog Tryz.f6 false true false false) := by
  refine ZjZ (C := Tryz.checked) (X := λw _ => laidMetH Tryz.prog Rows.deriveDefaultsRow.laid w) (λ_ _ _ hh h => h.of_heap hh) ZxE started (by kernel_rfl) Tryz.func6
    (ChangeSpec.witness_shaped (enc := enc) (C := Tryz.checked) (os := os) (X := λw _ => laidMetH Tryz.prog Rows.deriveDefaultsRow.laid w) false (World.doorLaid Tryz.prog 300 os) #[.slice none 0 0] 8 rfl (World.shaped_of_RefB (by kernel_rfl) (by kernel_rfl)) (by kernel_rfl) (by kernel_rfl) (by kernel_rfl) (deriveDefaults_met os _)) ?_
  intro W base args ds gs before hval0 hW hsz0 hL dQ
  have qH : ∀ (j : Nat) t v, Tryz.f6.params[j]? = some t -> args[j]? = some v -> Value.okWide Tryz.prog W .any base t v := hval0
  refine ZwP ZwV (by kernel_rfl) (tb := 4) rfl Tryz.underlying4 deriveDefaults_spec hW ?_
  obtain ⟨p, q, hA0, hV, _⟩ := hW
  obtain ⟨rfl, rfl⟩ := trodVars_none hV
  have hA : DataW.TrodAll enc Tryz.prog W 0 (λ_ => true) true Tryz.f6.params.toList args.toList ds p := hA0
  have hF : SlV [] W Z21 Ze := (ZtQ hL).2
  rw [Tryz.params6] at hA qH
  obtain ⟨v0, d0, rfl, rfl, h0⟩ := trodAll_one hA
  obtain ⟨l, hs, hl, -⟩ := ZtR (qH 0 _ v0 rfl rfl) h0
  obtain ⟨m, hm⟩ := Tryz.laysM144.s1_3 W dQ
  obtain ⟨⟨hLn, hMv, er, h4_, bD⟩, -⟩ := ZtQ hL
  exact Zp2 v0 l er m W hs hl hF hLn hMv hm h4_ bD
theorem deriveDefaults_j1 : Rows.deriveDefaultsRow.wf (OpenSpec.ofChange Rows.deriveDefaultsSpec) = true := by kernel_rfl
theorem deriveDefaults_j2 : (Rows.deriveDefaultsRow.inPlace == Tryz.prog.inPlace 6) = true := by kernel_rfl
theorem deriveDefaults_j3 : (Rows.deriveDefaultsRow.unfollowed == Tryz.prog.unfollowed 6) = true := by kernel_rfl
theorem deriveDefaults_j4 : (Rows.deriveDefaultsRow.recurses == Tryz.prog.recurses 6) = true := by kernel_rfl
theorem deriveDefaults_j5 : (Rows.deriveDefaultsRow.named == Tryz.prog.varsNamed 6) = true := by kernel_rfl
theorem deriveDefaults_joined : joinedFacts Tryz.prog 6 Tryz.f6 Rows.deriveDefaultsSpec Rows.deriveDefaultsRow = true :=
  ZoB deriveDefaults_j1 ZwV ZxC (by kernel_rfl) (by kernel_rfl) (by kernel_rfl) deriveDefaults_j2 deriveDefaults_j3 deriveDefaults_j4 deriveDefaults_j5 (by kernel_rfl)
theorem deriveDefaults_holds : Rows.DeriveDefaultsSaid :=
  OpenClaim.holds_of_wide 6 Tryz.f6 rfl rfl rfl rfl rfl rfl rfl ⟨rfl, rfl, rfl, rfl, rfl⟩ rfl rfl rfl rfl rfl (by kernel_rfl) Tryz.func6 deriveDefaults_joined
    (of_decide_eq_true (by kernel_rfl)) (by unfold Func.isWrapper; first | (rw [if_pos (by decide +kernel)]; kernel_rfl) | (rw [if_neg (by decide +kernel)]; exact ⟨rfl, rfl⟩))
    (λos started H enc _ => deriveDefaults_lifted os started H enc)
theorem deriveDefaults_card_holds : Rows.DeriveDefaultsCardSaid :=
  Claim7.holds_tied_plain_at .later [] [.data, .data, .data, .sentinel, .sentinel, .data, .data, .widerDeep] true Rows.deriveDefaultsCard.stood.harness true
    deriveDefaults_holds (λ_ h => by cases h) (by kernel_rfl) (λ_ h => by cases h) deriveDefaults_row_tie rfl ⟨rfl, rfl⟩ (by kernel_rfl) rfl
    (λf fn hf qF => by
      obtain rfl : f = 6 := Option.some.inj ((show Tryz.prog.funcNamed Rows.deriveDefaultsRow.func = some 6 by kernel_rfl).symm.trans hf) |>.symm
      obtain rfl : fn = Tryz.f6 := (Option.some.inj (Tryz.func6.symm.trans qF)).symm
      exact ⟨by kernel_rfl, λj t ht => by
        rw [Tryz.params6] at ht
        have hm : t ∈ Tryz.f6.params.toList := by rw [Tryz.params6]; simpa using Array.mem_of_getElem? ht
        have aB : (Tryz.f6.params.toList.all λu => !Tryz.prog.wantsStandIn u) = true := by kernel_rfl
        exact (show Tryz.prog.wantsStandIn t = false by simpa using List.all_eq_true.1 aB t hm)⟩)
    (ZxF ZxD rfl)
end Go.Proofs.YtipfkbkkndacjaaGreatDoor
