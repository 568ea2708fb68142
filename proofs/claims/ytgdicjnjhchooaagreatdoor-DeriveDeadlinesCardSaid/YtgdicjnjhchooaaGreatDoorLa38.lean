
/-
DeriveDeadlines: for all cases made from numbers, Deadlines and Facts return the specified deadlines and events. Condition: the listed variables read as the program's text lays them (the card ties them).
-/
import Derived.Test.YtgdicjnjhchooaaGreatDoorM8
import Derived.Deep.DeepLaidRun
namespace Go.Proofs.YtgdicjnjhchooaaGreatDoor
open Go Go.Eng Go.RowKit Go.Proofs Go.ChangeShapes Go.WideShapes Go.Deep
set_option linter.unusedVariables false
theorem deriveDeadlines_spec : Zl1 Rows.deriveDeadlinesSpec 1 := ⟨rfl, λH ds hl => by
  match ds, hl with
  | [d0], _ => exact ⟨rfl, rfl, rfl⟩⟩
theorem deriveDeadlines_met (os : Os) (args : Array Value) : laidMetH Tryz.prog Rows.deriveDeadlinesRow.laid ((World.doorLaid Tryz.prog 300 os).forCall (λ_ _ => 0) ⟨#[], args, []⟩).memory :=
  laidMetH_of_parts3 (fuel := 8) (laidMet_of_run3 8 (by kernel_rfl) (by kernel_rfl) (by kernel_rfl)) (by kernel_rfl) (by kernel_rfl)
set_option maxRecDepth 100000 in
theorem deriveDeadlines_lifted (os : Os) (started : os.Started) (H : Type) (enc : TypeId × Value -> H) :
    ReturnsInHanded {} Tryz.checked os 4 .any (λw args => (Rows.deriveDeadlinesSpec.pre enc Tryz.prog Tryz.f4 [] false w args /\ laidMetH Tryz.prog Rows.deriveDeadlinesRow.laid w) /\ sizedMet enc Tryz.prog Tryz.f4 (OpenSpec.ofChange Rows.deriveDeadlinesSpec) false w args) (Rows.deriveDeadlinesSpec.post enc Tryz.prog Tryz.f4 false true false false) := by
  refine ZhC (C := Tryz.checked) (X := λw _ => laidMetH Tryz.prog Rows.deriveDeadlinesRow.laid w) (λ_ _ _ hh h => h.of_heap hh) Zuv started (by kernel_rfl) Tryz.func4
    (ChangeSpec.witness_shaped (enc := enc) (C := Tryz.checked) (os := os) (X := λw _ => laidMetH Tryz.prog Rows.deriveDeadlinesRow.laid w) false (World.doorLaid Tryz.prog 300 os) #[.slice none 0 0] 8 rfl (World.shaped_of_RefB (by kernel_rfl) (by kernel_rfl)) (by kernel_rfl) (by kernel_rfl) (by kernel_rfl) (deriveDeadlines_met os _)) ?_
  intro W base args ds gs before hval0 hW hsz0 hL eN
  have oP : ∀ (j : Nat) t v, Tryz.f4.params[j]? = some t -> args[j]? = some v -> Value.okWide Tryz.prog W .any base t v := hval0
  refine ZtT ZtV (by kernel_rfl) (tb := 4) rfl Tryz.underlying4 deriveDeadlines_spec hW ?_
  obtain ⟨p, q, sD, hV, _⟩ := hW
  obtain ⟨rfl, rfl⟩ := trodVars_none hV
  have hA : DataW.TrodAll enc Tryz.prog W 0 (λ_ => true) true Tryz.f4.params.toList args.toList ds p := sD
  have hF : SlV [] W Zag Zj := (ZqZ hL).2
  rw [Tryz.params4] at hA oP
  obtain ⟨v0, d0, rfl, rfl, h0⟩ := trodAll_one hA
  obtain ⟨l, hs, hl, -⟩ := Zr1 (oP 0 _ v0 rfl rfl) h0
  obtain ⟨m, hm⟩ := Tryz.laysM144.s1_3 W eN
  obtain ⟨⟨hLn, hMv, er, h4_, bF⟩, -⟩ := ZqZ hL
  exact Zmt v0 l er m W hs hl hF hLn hMv hm h4_ bF
theorem deriveDeadlines_j1 : Rows.deriveDeadlinesRow.wf (OpenSpec.ofChange Rows.deriveDeadlinesSpec) = true := by kernel_rfl
theorem deriveDeadlines_j2 : (Rows.deriveDeadlinesRow.inPlace == Tryz.prog.inPlace 4) = true := by kernel_rfl
theorem deriveDeadlines_j3 : (Rows.deriveDeadlinesRow.unfollowed == Tryz.prog.unfollowed 4) = true := by kernel_rfl
theorem deriveDeadlines_j4 : (Rows.deriveDeadlinesRow.recurses == Tryz.prog.recurses 4) = true := by kernel_rfl
theorem deriveDeadlines_j5 : (Rows.deriveDeadlinesRow.named == Tryz.prog.varsNamed 4) = true := by kernel_rfl
theorem deriveDeadlines_joined : joinedFacts Tryz.prog 4 Tryz.f4 Rows.deriveDeadlinesSpec Rows.deriveDeadlinesRow = true :=
  Zmu deriveDeadlines_j1 ZtV Zut (by kernel_rfl) (by kernel_rfl) (by kernel_rfl) deriveDeadlines_j2 deriveDeadlines_j3 deriveDeadlines_j4 deriveDeadlines_j5 (by kernel_rfl)
theorem deriveDeadlines_holds : Rows.DeriveDeadlinesSaid :=
  OpenClaim.holds_of_wide 4 Tryz.f4 rfl rfl rfl rfl rfl rfl rfl ⟨rfl, rfl, rfl, rfl, rfl⟩ rfl rfl rfl rfl rfl (by kernel_rfl) Tryz.func4 deriveDeadlines_joined
    (of_decide_eq_true (by kernel_rfl)) (by unfold Func.isWrapper; first | (rw [if_pos (by decide +kernel)]; kernel_rfl) | (rw [if_neg (by decide +kernel)]; exact ⟨rfl, rfl⟩))
    (λos started H enc _ => deriveDeadlines_lifted os started H enc)
theorem deriveDeadlines_card_holds : Rows.DeriveDeadlinesCardSaid :=
  Claim7.holds_tied_plain_at .later [] [.data, .data, .data, .sentinel, .sentinel, .data, .data, .widerDeep] true Rows.deriveDeadlinesCard.stood.harness true
    deriveDeadlines_holds (λ_ h => by cases h) (by kernel_rfl) (λ_ h => by cases h) deriveDeadlines_row_tie rfl ⟨rfl, rfl⟩ (by kernel_rfl) rfl
    (λf fn hf oN => by
      obtain rfl : f = 4 := Option.some.inj ((show Tryz.prog.funcNamed Rows.deriveDeadlinesRow.func = some 4 by kernel_rfl).symm.trans hf) |>.symm
      obtain rfl : fn = Tryz.f4 := (Option.some.inj (Tryz.func4.symm.trans oN)).symm
      exact ⟨by kernel_rfl, λj t ht => by
        rw [Tryz.params4] at ht
        have hm : t ∈ Tryz.f4.params.toList := by rw [Tryz.params4]; simpa using Array.mem_of_getElem? ht
        have aP : (Tryz.f4.params.toList.all λu => !Tryz.prog.wantsStandIn u) = true := by kernel_rfl
        exact (show Tryz.prog.wantsStandIn t = false by simpa using List.all_eq_true.1 aP t hm)⟩)
    (Zux Zuu rfl)
end Go.Proofs.YtgdicjnjhchooaaGreatDoor
