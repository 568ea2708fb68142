
/-
DeriveOnes: for all cases made from numbers, all their facts and another fact, and all indices of rules, One returns the specified deadline, or none. Condition: the listed variables read as the program's text lays them (the card ties them).
-/
import Derived.Test.YtgdicjnjhchooaaGreatDoorM8
import Derived.Deep.DeepLaidRun
namespace Go.Proofs.YtgdicjnjhchooaaGreatDoor
open Go Go.Eng Go.RowKit Go.Proofs Go.ChangeShapes Go.WideShapes Go.Deep
set_option linter.unusedVariables false
theorem deriveOnes_spec : Zl1 Rows.deriveOnesSpec 3 := ⟨rfl, λH ds hl => by
  match ds, hl with
  | [d0, d1, d2], _ => exact ⟨rfl, rfl, rfl⟩⟩
theorem deriveOnes_met (os : Os) (args : Array Value) : laidMetH Tryz.prog Rows.deriveOnesRow.laid ((World.doorLaid Tryz.prog 300 os).forCall (λ_ _ => 0) ⟨#[], args, []⟩).memory :=
  laidMetH_of_parts3 (fuel := 8) (laidMet_of_run3 8 (by kernel_rfl) (by kernel_rfl) (by kernel_rfl)) (by kernel_rfl) (by kernel_rfl)
set_option maxRecDepth 100000 in
theorem deriveOnes_lifted (os : Os) (started : os.Started) (H : Type) (enc : TypeId × Value -> H) :
    ReturnsInHanded {} Tryz.checked os 3 .any (λw args => (Rows.deriveOnesSpec.pre enc Tryz.prog Tryz.f3 [] false w args /\ laidMetH Tryz.prog Rows.deriveOnesRow.laid w) /\ sizedMet enc Tryz.prog Tryz.f3 (OpenSpec.ofChange Rows.deriveOnesSpec) false w args) (Rows.deriveOnesSpec.post enc Tryz.prog Tryz.f3 false true false false) := by
  refine ZhC (C := Tryz.checked) (X := λw _ => laidMetH Tryz.prog Rows.deriveOnesRow.laid w) (λ_ _ _ hh h => h.of_heap hh) Zuv started (by kernel_rfl) Tryz.func3
    (ChangeSpec.witness_shaped (enc := enc) (C := Tryz.checked) (os := os) (X := λw _ => laidMetH Tryz.prog Rows.deriveOnesRow.laid w) false (World.doorLaid Tryz.prog 300 os) #[.slice none 0 0, .int .i64 0, .int .i64 0] 8 rfl (World.shaped_of_RefB (by kernel_rfl) (by kernel_rfl)) (by kernel_rfl) (by kernel_rfl) (by kernel_rfl) (deriveOnes_met os _)) ?_
  intro W base args ds gs before hval0 hW hsz0 hL eN
  have oP : ∀ (j : Nat) t v, Tryz.f3.params[j]? = some t -> args[j]? = some v -> Value.okWide Tryz.prog W .any base t v := hval0
  refine ZtT ZtV (by kernel_rfl) (tb := 4) rfl Tryz.underlying4 deriveOnes_spec hW ?_
  obtain ⟨p, q, sD, hV, _⟩ := hW
  obtain ⟨rfl, rfl⟩ := trodVars_none hV
  have hA : DataW.TrodAll enc Tryz.prog W 0 (λ_ => true) true Tryz.f3.params.toList args.toList ds p := sD
  have hF : SlV [] W Zag Zj := (ZqZ hL).2
  rw [Tryz.params3] at hA oP
  obtain ⟨v0, v1, v2, d0, d1, d2, p0, p1, p2, rfl, rfl, rfl, h0, h1, h2⟩ := trodAll_three hA
  obtain ⟨l, hs, hl, -⟩ := Zr1 (oP 0 _ v0 rfl rfl) h0
  obtain ⟨a, rfl, ha⟩ := ZtW (oP 1 _ v1 rfl rfl) h1
  obtain ⟨b, rfl, hb⟩ := ZtW (oP 2 _ v2 rfl rfl) h2
  obtain ⟨m, hm⟩ := Tryz.laysM144.s1_3 W eN
  obtain ⟨⟨hLn, hMv, er, h4_, bF⟩, -⟩ := ZqZ hL
  exact Zuw v0 l a b er m W hs hl ha hb hF hLn hMv hm h4_ bF
theorem deriveOnes_j1 : Rows.deriveOnesRow.wf (OpenSpec.ofChange Rows.deriveOnesSpec) = true := by kernel_rfl
theorem deriveOnes_j2 : (Rows.deriveOnesRow.inPlace == Tryz.prog.inPlace 3) = true := by kernel_rfl
theorem deriveOnes_j3 : (Rows.deriveOnesRow.unfollowed == Tryz.prog.unfollowed 3) = true := by kernel_rfl
theorem deriveOnes_j4 : (Rows.deriveOnesRow.recurses == Tryz.prog.recurses 3) = true := by kernel_rfl
theorem deriveOnes_j5 : (Rows.deriveOnesRow.named == Tryz.prog.varsNamed 3) = true := by kernel_rfl
theorem deriveOnes_joined : joinedFacts Tryz.prog 3 Tryz.f3 Rows.deriveOnesSpec Rows.deriveOnesRow = true :=
  Zmu deriveOnes_j1 ZtV Zut (by kernel_rfl) (by kernel_rfl) (by kernel_rfl) deriveOnes_j2 deriveOnes_j3 deriveOnes_j4 deriveOnes_j5 (by kernel_rfl)
theorem deriveOnes_holds : Rows.DeriveOnesSaid :=
  OpenClaim.holds_of_wide 3 Tryz.f3 rfl rfl rfl rfl rfl rfl rfl ⟨rfl, rfl, rfl, rfl, rfl⟩ rfl rfl rfl rfl rfl (by kernel_rfl) Tryz.func3 deriveOnes_joined
    (of_decide_eq_true (by kernel_rfl)) (by unfold Func.isWrapper; first | (rw [if_pos (by decide +kernel)]; kernel_rfl) | (rw [if_neg (by decide +kernel)]; exact ⟨rfl, rfl⟩))
    (λos started H enc _ => deriveOnes_lifted os started H enc)
theorem deriveOnes_card_holds : Rows.DeriveOnesCardSaid :=
  Claim7.holds_tied_plain_at .later [] [.data, .data, .data, .sentinel, .sentinel, .data, .data, .widerDeep] true Rows.deriveOnesCard.stood.harness true
    deriveOnes_holds (λ_ h => by cases h) (by kernel_rfl) (λ_ h => by cases h) deriveOnes_row_tie rfl ⟨rfl, rfl⟩ (by kernel_rfl) rfl
    (λf fn hf oN => by
      obtain rfl : f = 3 := Option.some.inj ((show Tryz.prog.funcNamed Rows.deriveOnesRow.func = some 3 by kernel_rfl).symm.trans hf) |>.symm
      obtain rfl : fn = Tryz.f3 := (Option.some.inj (Tryz.func3.symm.trans oN)).symm
      exact ⟨by kernel_rfl, λj t ht => by
        rw [Tryz.params3] at ht
        have hm : t ∈ Tryz.f3.params.toList := by rw [Tryz.params3]; simpa using Array.mem_of_getElem? ht
        have aP : (Tryz.f3.params.toList.all λu => !Tryz.prog.wantsStandIn u) = true := by kernel_rfl
        exact (show Tryz.prog.wantsStandIn t = false by simpa using List.all_eq_true.1 aP t hm)⟩)
    (Zux Zuu rfl)
end Go.Proofs.YtgdicjnjhchooaaGreatDoor
