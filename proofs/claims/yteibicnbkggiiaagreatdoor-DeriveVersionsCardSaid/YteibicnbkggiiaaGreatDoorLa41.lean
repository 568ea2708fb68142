
/-
DeriveVersions: for all rules and days of cases and all versions of facts made from numbers, the deadlines of the facts known after an operation do not depend on later versions, and are the same after a fact was struck and recorded again. Condition: the listed variables read as the program's text lays them (the card ties them).
-/
import Derived.Test.YteibicnbkggiiaaGreatDoorQ8
import Derived.Deep.DeepLaidRun
namespace Go.Proofs.YteibicnbkggiiaaGreatDoor
open Go Go.Eng Go.RowKit Go.Proofs Go.ChangeShapes Go.WideShapes Go.Deep
set_option linter.unusedVariables false
theorem deriveVersions_spec : Zlo Rows.deriveVersionsSpec 4 := ⟨rfl, λH ds hl => by
  match ds, hl with
  | [d0, d1, d2, d3], _ => exact ⟨rfl, rfl, rfl⟩⟩
theorem deriveVersions_met (os : Os) (args : Array Value) : laidMetH Tryz.prog Rows.deriveVersionsRow.laid ((World.doorLaid Tryz.prog 300 os).forCall (λ_ _ => 0) ⟨#[], args, []⟩).memory :=
  laidMetH_of_parts3 (fuel := 8) (laidMet_of_run3 8 (by kernel_rfl) (by kernel_rfl) (by kernel_rfl)) (by kernel_rfl) (by kernel_rfl)
set_option maxRecDepth 100000 in
theorem deriveVersions_lifted (os : Os) (started : os.Started) (H : Type) (enc : TypeId × Value -> H) :
    ReturnsInHanded {} Tryz.checked os 4 .any (λw args => (Rows.deriveVersionsSpec.pre enc Tryz.prog Tryz.f4 [] false w args /\ laidMetH Tryz.prog Rows.deriveVersionsRow.laid w) /\ sizedMet enc Tryz.prog Tryz.f4 (OpenSpec.ofChange Rows.deriveVersionsSpec) false w args) (Rows.deriveVersionsSpec.post enc Tryz.prog Tryz.f4 false true false false) := by
  refine Zi5 (C := Tryz.checked) (X := λw _ => laidMetH Tryz.prog Rows.deriveVersionsRow.laid w) (λ_ _ _ hh h => h.of_heap hh) Zvi started (by kernel_rfl) Tryz.func4
    (ChangeSpec.witness_shaped (enc := enc) (C := Tryz.checked) (os := os) (X := λw _ => laidMetH Tryz.prog Rows.deriveVersionsRow.laid w) false (World.doorLaid Tryz.prog 300 os) #[.slice none 0 0, .slice none 0 0, .int .i64 0, .int .i64 0] 8 rfl (World.shaped_of_RefB (by kernel_rfl) (by kernel_rfl)) (by kernel_rfl) (by kernel_rfl) (by kernel_rfl) (deriveVersions_met os _)) ?_
  intro W base args ds gs before hval0 hW hsz0 hL dL
  have oE : ∀ (j : Nat) t v, Tryz.f4.params[j]? = some t -> args[j]? = some v -> Value.okWide Tryz.prog W .any base t v := hval0
  refine ZuB ZuE (by kernel_rfl) (tb := 4) rfl Tryz.underlying4 deriveVersions_spec hW ?_
  obtain ⟨p, q, sw, hV, _⟩ := hW
  obtain ⟨rfl, rfl⟩ := trodVars_none hV
  have hA : DataW.TrodAll enc Tryz.prog W 0 (λ_ => true) true Tryz.f4.params.toList args.toList ds p := sw
  have hF : SlV [] W Z2S Zd := (ZrS hL).2
  rw [Tryz.params4] at hA oE
  obtain ⟨v0, v1, v2, v3, d0, d1, d2, d3, p0, p1, p2, p3, rfl, rfl, rfl, h0, h1, h2, h3⟩ := trodAll_four hA
  obtain ⟨l, hs, hl, -⟩ := ZrT (oE 0 _ v0 rfl rfl) h0
  obtain ⟨ns, hn, jg, -⟩ := ZrT (oE 1 _ v1 rfl rfl) h1
  obtain ⟨op, rfl, fW⟩ := ZuF (oE 2 _ v2 rfl rfl) h2
  obtain ⟨at_, rfl, bO⟩ := ZuF (oE 3 _ v3 rfl rfl) h3
  obtain ⟨m, hm⟩ := Tryz.laysM144.s1_3 W dL
  obtain ⟨⟨hLn, hMv, er, h4_, cb⟩, -⟩ := ZrS hL
  exact Znm v0 v1 l ns op at_ er m W hs hl hn jg fW bO hF hLn hMv hm h4_ cb
theorem deriveVersions_j1 : Rows.deriveVersionsRow.wf (OpenSpec.ofChange Rows.deriveVersionsSpec) = true := by kernel_rfl
theorem deriveVersions_j2 : (Rows.deriveVersionsRow.inPlace == Tryz.prog.inPlace 4) = true := by kernel_rfl
theorem deriveVersions_j3 : (Rows.deriveVersionsRow.unfollowed == Tryz.prog.unfollowed 4) = true := by kernel_rfl
theorem deriveVersions_j4 : (Rows.deriveVersionsRow.recurses == Tryz.prog.recurses 4) = true := by kernel_rfl
theorem deriveVersions_j5 : (Rows.deriveVersionsRow.named == Tryz.prog.varsNamed 4) = true := by kernel_rfl
theorem deriveVersions_joined : joinedFacts Tryz.prog 4 Tryz.f4 Rows.deriveVersionsSpec Rows.deriveVersionsRow = true :=
  Zn6 deriveVersions_j1 ZuE Zvg (by kernel_rfl) (by kernel_rfl) (by kernel_rfl) deriveVersions_j2 deriveVersions_j3 deriveVersions_j4 deriveVersions_j5 (by kernel_rfl)
theorem deriveVersions_holds : Rows.DeriveVersionsSaid :=
  OpenClaim.holds_of_wide 4 Tryz.f4 rfl rfl rfl rfl rfl rfl rfl ⟨rfl, rfl, rfl, rfl, rfl⟩ rfl rfl rfl rfl rfl (by kernel_rfl) Tryz.func4 deriveVersions_joined
    (of_decide_eq_true (by kernel_rfl)) (by unfold Func.isWrapper; first | (rw [if_pos (by decide +kernel)]; kernel_rfl) | (rw [if_neg (by decide +kernel)]; exact ⟨rfl, rfl⟩))
    (λos started H enc _ => deriveVersions_lifted os started H enc)
theorem deriveVersions_card_holds : Rows.DeriveVersionsCardSaid :=
  Claim7.holds_tied_plain_at .later [] [.data, .data, .data, .sentinel, .sentinel, .data, .data, .widerDeep] true Rows.deriveVersionsCard.stood.harness true
    deriveVersions_holds (λ_ h => by cases h) (by kernel_rfl) (λ_ h => by cases h) deriveVersions_row_tie rfl ⟨rfl, rfl⟩ (by kernel_rfl) rfl
    (λf fn hf kK => by
      obtain rfl : f = 4 := Option.some.inj ((show Tryz.prog.funcNamed Rows.deriveVersionsRow.func = some 4 by kernel_rfl).symm.trans hf) |>.symm
      obtain rfl : fn = Tryz.f4 := (Option.some.inj (Tryz.func4.symm.trans kK)).symm
      exact ⟨by kernel_rfl, λj t ht => by
        rw [Tryz.params4] at ht
        have hm : t ∈ Tryz.f4.params.toList := by rw [Tryz.params4]; simpa using Array.mem_of_getElem? ht
        have aD : (Tryz.f4.params.toList.all λu => !Tryz.prog.wantsStandIn u) = true := by kernel_rfl
        exact (show Tryz.prog.wantsStandIn t = false by simpa using List.all_eq_true.1 aD t hm)⟩)
    (Zvj Zvh rfl)
end Go.Proofs.YteibicnbkggiiaaGreatDoor
