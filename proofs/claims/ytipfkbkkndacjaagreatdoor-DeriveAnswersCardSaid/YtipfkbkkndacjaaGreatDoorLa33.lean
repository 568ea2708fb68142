
/-
DeriveAnswers: for all cases made from numbers and each deadline that is not met and can be answered, an answer on any day from that of the trigger to Due makes it met, with the same Due. Condition: the listed variables read as the program's text lays them (the card ties them).
-/
import Derived.Test.YtipfkbkkndacjaaGreatDoorR7
import Derived.Deep.DeepLaidRun
namespace Go.Proofs.YtipfkbkkndacjaaGreatDoor
open Go Go.Eng Go.RowKit Go.Proofs Go.ChangeShapes Go.WideShapes Go.Deep
set_option linter.unusedVariables false
theorem deriveAnswers_spec : Zmc Rows.deriveAnswersSpec 2 := ⟨rfl, λH ds hl => by
  match ds, hl with
  | [d0, d1], _ => exact ⟨rfl, rfl, rfl⟩⟩
theorem deriveAnswers_met (os : Os) (args : Array Value) : laidMetH Tryz.prog Rows.deriveAnswersRow.laid ((World.doorLaid Tryz.prog 300 os).forCall (λ_ _ => 0) ⟨#[], args, []⟩).memory :=
  laidMetH_of_parts3 (fuel := 8) (laidMet_of_run3 8 (by kernel_rfl) (by kernel_rfl) (by kernel_rfl)) (by kernel_rfl) (by kernel_rfl)
set_option maxRecDepth 100000 in
theorem deriveAnswers_lifted (os : Os) (started : os.Started) (H : Type) (enc : TypeId × Value -> H) :
    ReturnsInHanded {} Tryz.checked os 7 .any (λw args => (Rows.deriveAnswersSpec.pre enc Tryz.prog Tryz.f7 [] false w args /\ laidMetH Tryz.prog Rows.deriveAnswersRow.laid w) /\ sizedMet enc Tryz.prog Tryz.f7 (OpenSpec.ofChange Rows.deriveAnswersSpec) false w args) (Rows.deriveAnswersSpec.post enc Tryz.prog Tryz.f7 false true false false) := by
  refine ZiY (C := Tryz.checked) (X := λw _ => laidMetH Tryz.prog Rows.deriveAnswersRow.laid w) (λ_ _ _ hh h => h.of_heap hh) Zwm started (by kernel_rfl) Tryz.func7
    (ChangeSpec.witness_shaped (enc := enc) (C := Tryz.checked) (os := os) (X := λw _ => laidMetH Tryz.prog Rows.deriveAnswersRow.laid w) false (World.doorLaid Tryz.prog 300 os) #[.slice none 0 0, .int .i64 0] 8 rfl (World.shaped_of_RefB (by kernel_rfl) (by kernel_rfl)) (by kernel_rfl) (by kernel_rfl) (by kernel_rfl) (deriveAnswers_met os _)) ?_
  intro W base args ds gs before hval0 hW hsz0 hL dH
  have qh : ∀ (j : Nat) t v, Tryz.f7.params[j]? = some t -> args[j]? = some v -> Value.okWide Tryz.prog W .any base t v := hval0
  refine ZvE ZvK (by kernel_rfl) (tb := 4) rfl Tryz.underlying4 deriveAnswers_spec hW ?_
  obtain ⟨p, q, hA0, hV, _⟩ := hW
  obtain ⟨rfl, rfl⟩ := trodVars_none hV
  have hA : DataW.TrodAll enc Tryz.prog W 0 (λ_ => true) true Tryz.f7.params.toList args.toList ds p := hA0
  have hF : SlV [] W Z2m Ze := (ZsM hL).2
  rw [Tryz.params7] at hA qh
  obtain ⟨v0, v1, d0, d1, p0, p1, rfl, rfl, rfl, h0, h1⟩ := trodAll_two hA
  obtain ⟨l, hs, hl, -⟩ := ZsN (qh 0 _ v0 rfl rfl) h0
  obtain ⟨at_, rfl, ha⟩ := ZvL (qh 1 _ v1 rfl rfl) h1
  obtain ⟨m, hm⟩ := Tryz.laysM144.s1_3 W dH
  obtain ⟨⟨hLn, hMv, er, h4_, bR⟩, -⟩ := ZsM hL
  exact ZsL v0 l at_ er m W hs hl ha hF hLn hMv hm h4_ bR
theorem deriveAnswers_j1 : Rows.deriveAnswersRow.wf (OpenSpec.ofChange Rows.deriveAnswersSpec) = true := by kernel_rfl
theorem deriveAnswers_j2 : (Rows.deriveAnswersRow.inPlace == Tryz.prog.inPlace 7) = true := by kernel_rfl
theorem deriveAnswers_j3 : (Rows.deriveAnswersRow.unfollowed == Tryz.prog.unfollowed 7) = true := by kernel_rfl
theorem deriveAnswers_j4 : (Rows.deriveAnswersRow.recurses == Tryz.prog.recurses 7) = true := by kernel_rfl
theorem deriveAnswers_j5 : (Rows.deriveAnswersRow.named == Tryz.prog.varsNamed 7) = true := by kernel_rfl
theorem deriveAnswers_joined : joinedFacts Tryz.prog 7 Tryz.f7 Rows.deriveAnswersSpec Rows.deriveAnswersRow = true :=
  ZnE deriveAnswers_j1 ZvK Zwk (by kernel_rfl) (by kernel_rfl) (by kernel_rfl) deriveAnswers_j2 deriveAnswers_j3 deriveAnswers_j4 deriveAnswers_j5 (by kernel_rfl)
theorem deriveAnswers_holds : Rows.DeriveAnswersSaid :=
  OpenClaim.holds_of_wide 7 Tryz.f7 rfl rfl rfl rfl rfl rfl rfl ⟨rfl, rfl, rfl, rfl, rfl⟩ rfl rfl rfl rfl rfl (by kernel_rfl) Tryz.func7 deriveAnswers_joined
    (of_decide_eq_true (by kernel_rfl)) (by unfold Func.isWrapper; first | (rw [if_pos (by decide +kernel)]; kernel_rfl) | (rw [if_neg (by decide +kernel)]; exact ⟨rfl, rfl⟩))
    (λos started H enc _ => deriveAnswers_lifted os started H enc)
theorem deriveAnswers_card_holds : Rows.DeriveAnswersCardSaid :=
  Claim7.holds_tied_plain_at .later [] [.data, .data, .data, .sentinel, .sentinel, .data, .data, .widerDeep] true Rows.deriveAnswersCard.stood.harness true
    deriveAnswers_holds (λ_ h => by cases h) (by kernel_rfl) (λ_ h => by cases h) deriveAnswers_row_tie rfl ⟨rfl, rfl⟩ (by kernel_rfl) rfl
    (λf fn hf qf => by
      obtain rfl : f = 7 := Option.some.inj ((show Tryz.prog.funcNamed Rows.deriveAnswersRow.func = some 7 by kernel_rfl).symm.trans hf) |>.symm
      obtain rfl : fn = Tryz.f7 := (Option.some.inj (Tryz.func7.symm.trans qf)).symm
      exact ⟨by kernel_rfl, λj t ht => by
        rw [Tryz.params7] at ht
        have hm : t ∈ Tryz.f7.params.toList := by rw [Tryz.params7]; simpa using Array.mem_of_getElem? ht
        have aA : (Tryz.f7.params.toList.all λu => !Tryz.prog.wantsStandIn u) = true := by kernel_rfl
        exact (show Tryz.prog.wantsStandIn t = false by simpa using List.all_eq_true.1 aA t hm)⟩)
    (Zwn Zwl rfl)
end Go.Proofs.YtipfkbkkndacjaaGreatDoor
