
/-
DeriveServes: for all papers and ways made from numbers whose returns are recorded, the rule "due served + extra days" sets a deadline for the entry of a paper exactly if a carrier without tolerance returned it as delivered, on the day that it returned plus the extra days, with the attempt as a reason. Condition: the listed variables read as the program's text lays them (the card ties them).
-/
import Derived.Test.YtkojegdemoahlaaGreatDoorM6
import Derived.Deep.DeepLaidRun
namespace Go.Proofs.YtkojegdemoahlaaGreatDoor
open Go Go.Eng Go.RowKit Go.Proofs Go.ChangeShapes Go.WideShapes Go.Deep
set_option linter.unusedVariables false
theorem deriveServes_spec : Zfy Rows.deriveServesSpec 3 := ⟨rfl, λH ds hl => by
  match ds, hl with
  | [d0, d1, d2], _ => exact ⟨rfl, rfl, rfl⟩⟩
theorem deriveServes_met (os : Os) (args : Array Value) : laidMetH Tryz.prog Rows.deriveServesRow.laid ((World.doorLaid Tryz.prog 300 os).forCall (λ_ _ => 0) ⟨#[], args, []⟩).memory :=
  laidMetH_of_parts3 (fuel := 8) (laidMet_of_run3 8 (by kernel_rfl) (by kernel_rfl) (by kernel_rfl)) (by kernel_rfl) (by kernel_rfl)
set_option maxRecDepth 100000 in
theorem deriveServes_lifted (os : Os) (started : os.Started) (H : Type) (enc : TypeId × Value -> H) :
    ReturnsInHanded {} Tryz.checked os 3 .any (λw args => (Rows.deriveServesSpec.pre enc Tryz.prog Tryz.f3 [] false w args /\ laidMetH Tryz.prog Rows.deriveServesRow.laid w) /\ sizedMet enc Tryz.prog Tryz.f3 (OpenSpec.ofChange Rows.deriveServesSpec) false w args) (Rows.deriveServesSpec.post enc Tryz.prog Tryz.f3 false true false false) := by
  refine Zcp (C := Tryz.checked) (X := λw _ => laidMetH Tryz.prog Rows.deriveServesRow.laid w) (λ_ _ _ hh h => h.of_heap hh) ZpK started (by kernel_rfl) Tryz.func3
    (ChangeSpec.witness_shaped (enc := enc) (C := Tryz.checked) (os := os) (X := λw _ => laidMetH Tryz.prog Rows.deriveServesRow.laid w) false (World.doorLaid Tryz.prog 300 os) #[.slice none 0 0, .slice none 0 0, .int .i64 0] 8 rfl (World.shaped_of_RefB (by kernel_rfl) (by kernel_rfl)) (by kernel_rfl) (by kernel_rfl) (by kernel_rfl) (deriveServes_met os _)) ?_
  intro W base args ds gs before hval0 hW hsz0 hL gv
  have lz : ∀ (j : Nat) t v, Tryz.f3.params[j]? = some t -> args[j]? = some v -> Value.okWide Tryz.prog W .any base t v := hval0
  refine Zmn Zp3 (by kernel_rfl) (tb := 4) rfl Tryz.underlying4 deriveServes_spec hW ?_
  obtain ⟨p, q, oa, hV, _⟩ := hW
  obtain ⟨rfl, rfl⟩ := trodVars_none hV
  have hA : DataW.TrodAll enc Tryz.prog W 0 (λ_ => true) true Tryz.f3.params.toList args.toList ds p := oa
  have hF : SlV [] W Z1w Za := (Zmj hL).2
  rw [Tryz.params3] at hA lz
  obtain ⟨v0, v1, v2, d0, d1, d2, p0, p1, p2, rfl, rfl, rfl, h0, h1, h2⟩ := trodAll_three hA
  obtain ⟨l, hs, hl, -⟩ := Zmk (lz 0 _ v0 rfl rfl) h0
  obtain ⟨q, hq, sA, -⟩ := Zmk (lz 1 _ v1 rfl rfl) h1
  obtain ⟨b, rfl, hb⟩ := Zp4 (lz 2 _ v2 rfl rfl) h2
  obtain ⟨m, hm⟩ := Tryz.laysM144.s1_3 W gv
  obtain ⟨⟨hLn, hMv, er, h4_, bJ⟩, -⟩ := Zmj hL
  exact Zml v0 v1 l q b er m W hs hl hq sA hb hF hLn hMv hm h4_ bJ
theorem deriveServes_j1 : Rows.deriveServesRow.wf (OpenSpec.ofChange Rows.deriveServesSpec) = true := by kernel_rfl
theorem deriveServes_j2 : (Rows.deriveServesRow.inPlace == Tryz.prog.inPlace 3) = true := by kernel_rfl
theorem deriveServes_j3 : (Rows.deriveServesRow.unfollowed == Tryz.prog.unfollowed 3) = true := by kernel_rfl
theorem deriveServes_j4 : (Rows.deriveServesRow.recurses == Tryz.prog.recurses 3) = true := by kernel_rfl
theorem deriveServes_j5 : (Rows.deriveServesRow.named == Tryz.prog.varsNamed 3) = true := by kernel_rfl
theorem deriveServes_joined : joinedFacts Tryz.prog 3 Tryz.f3 Rows.deriveServesSpec Rows.deriveServesRow = true :=
  Ziq deriveServes_j1 Zp3 ZpI (by kernel_rfl) (by kernel_rfl) (by kernel_rfl) deriveServes_j2 deriveServes_j3 deriveServes_j4 deriveServes_j5 (by kernel_rfl)
theorem deriveServes_holds : Rows.DeriveServesSaid :=
  OpenClaim.holds_of_wide 3 Tryz.f3 rfl rfl rfl rfl rfl rfl rfl ⟨rfl, rfl, rfl, rfl, rfl⟩ rfl rfl rfl rfl rfl (by kernel_rfl) Tryz.func3 deriveServes_joined
    (of_decide_eq_true (by kernel_rfl)) (by unfold Func.isWrapper; first | (rw [if_pos (by decide +kernel)]; kernel_rfl) | (rw [if_neg (by decide +kernel)]; exact ⟨rfl, rfl⟩))
    (λos started H enc _ => deriveServes_lifted os started H enc)
theorem deriveServes_card_holds : Rows.DeriveServesCardSaid :=
  Claim7.holds_tied_plain_at .later [] [.data, .data, .data, .sentinel, .sentinel, .data, .data, .widerDeep] true Rows.deriveServesCard.stood.harness true
    deriveServes_holds (λ_ h => by cases h) (by kernel_rfl) (λ_ h => by cases h) deriveServes_row_tie rfl ⟨rfl, rfl⟩ (by kernel_rfl) rfl
    (λf fn hf lx => by
      obtain rfl : f = 3 := Option.some.inj ((show Tryz.prog.funcNamed Rows.deriveServesRow.func = some 3 by kernel_rfl).symm.trans hf) |>.symm
      obtain rfl : fn = Tryz.f3 := (Option.some.inj (Tryz.func3.symm.trans lx)).symm
      exact ⟨by kernel_rfl, λj t ht => by
        rw [Tryz.params3] at ht
        have hm : t ∈ Tryz.f3.params.toList := by rw [Tryz.params3]; simpa using Array.mem_of_getElem? ht
        have aM : (Tryz.f3.params.toList.all λu => !Tryz.prog.wantsStandIn u) = true := by kernel_rfl
        exact (show Tryz.prog.wantsStandIn t = false by simpa using List.all_eq_true.1 aM t hm)⟩)
    (ZpL ZpJ rfl)
end Go.Proofs.YtkojegdemoahlaaGreatDoor
