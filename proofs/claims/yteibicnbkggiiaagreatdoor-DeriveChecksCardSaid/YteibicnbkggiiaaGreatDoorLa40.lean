
/-
DeriveChecks: for all cases made from numbers, also with one part replaced or added, Check returns the specified error. Condition: the listed variables read as the program's text lays them (the card ties them).
-/
import Derived.Test.YteibicnbkggiiaaGreatDoorM6
import Derived.Deep.DeepLaidRun
namespace Go.Proofs.YteibicnbkggiiaaGreatDoor
open Go Go.Eng Go.RowKit Go.Proofs Go.ChangeShapes Go.WideShapes Go.Deep
set_option linter.unusedVariables false
theorem deriveChecks_spec : Zgf Rows.deriveChecksSpec 2 := ⟨rfl, λH ds hl => by
  match ds, hl with
  | [d0, d1], _ => exact ⟨rfl, rfl, rfl⟩⟩
theorem deriveChecks_met (os : Os) (args : Array Value) : laidMetH Tryz.prog Rows.deriveChecksRow.laid ((World.doorLaid Tryz.prog 300 os).forCall (λ_ _ => 0) ⟨#[], args, []⟩).memory :=
  laidMetH_of_parts3 (fuel := 8) (laidMet_of_run3 8 (by kernel_rfl) (by kernel_rfl) (by kernel_rfl)) (by kernel_rfl) (by kernel_rfl)
set_option maxRecDepth 100000 in
theorem deriveChecks_lifted (os : Os) (started : os.Started) (H : Type) (enc : TypeId × Value -> H) :
    ReturnsInHanded {} Tryz.checked os 3 .any (λw args => (Rows.deriveChecksSpec.pre enc Tryz.prog Tryz.f3 [] false w args /\ laidMetH Tryz.prog Rows.deriveChecksRow.laid w) /\ sizedMet enc Tryz.prog Tryz.f3 (OpenSpec.ofChange Rows.deriveChecksSpec) false w args) (Rows.deriveChecksSpec.post enc Tryz.prog Tryz.f3 false true false false) := by
  refine ZdE (C := Tryz.checked) (X := λw _ => laidMetH Tryz.prog Rows.deriveChecksRow.laid w) (λ_ _ _ hh h => h.of_heap hh) Zog started (by kernel_rfl) Tryz.func3
    (ChangeSpec.witness_shaped (enc := enc) (C := Tryz.checked) (os := os) (X := λw _ => laidMetH Tryz.prog Rows.deriveChecksRow.laid w) false (World.doorLaid Tryz.prog 300 os) #[.slice none 0 0, .agg #[.int .i64 0, .int .i64 0, .int .i64 0, .string ⟨#[]⟩, .int .i64 0, .int .i64 0, .int .i64 0, .int .i64 0, .string ⟨#[]⟩, .int .i64 0, .string ⟨#[]⟩, .slice none 0 0, .slice none 0 0, .string ⟨#[]⟩, .string ⟨#[]⟩, .int .i64 0, .int .i64 0, .int .i64 0, .int .i64 0, .int .i64 0, .int .i64 0, .slice none 0 0]] 8 rfl (World.shaped_of_RefB (by kernel_rfl) (by kernel_rfl)) (by kernel_rfl) (by kernel_rfl) (by kernel_rfl) (deriveChecks_met os _)) ?_
  intro W base args ds gs before hval0 hW hsz0 hL cE
  have lw : ∀ (j : Nat) t v, Tryz.f3.params[j]? = some t -> args[j]? = some v -> Value.okWide Tryz.prog W .any base t v := hval0
  refine Znv ZnN (by kernel_rfl) (tb := 4) rfl Tryz.underlying4 deriveChecks_spec hW ?_
  obtain ⟨p, q, oe, hV, _⟩ := hW
  obtain ⟨rfl, rfl⟩ := trodVars_none hV
  have hA : DataW.TrodAll enc Tryz.prog W 0 (λ_ => true) true Tryz.f3.params.toList args.toList ds p := oe
  have hF : SlV [] W Z1R Zb := (Zl3 hL).2
  rw [Tryz.params3] at hA lw
  obtain ⟨v0, v1, d0, d1, p0, p1, rfl, rfl, rfl, h0, h1⟩ := trodAll_two hA
  obtain ⟨l, hs, hl, -⟩ := Zl4 (lw 0 _ v0 rfl rfl) h0
  obtain ⟨x, kc, kd, rv, rfl, hx⟩ := Zof (lw 1 _ v1 rfl rfl) h1
  obtain ⟨m, hm⟩ := Tryz.laysM144.s1_3 W cE
  obtain ⟨⟨hLn, hMv, er, h4_, gw⟩, -⟩ := Zl3 hL
  exact Zl5 v0 l x kc kd rv er m W hs hl hx hF hLn hMv hm h4_ gw
theorem deriveChecks_j1 : Rows.deriveChecksRow.wf (OpenSpec.ofChange Rows.deriveChecksSpec) = true := by kernel_rfl
theorem deriveChecks_j2 : (Rows.deriveChecksRow.inPlace == Tryz.prog.inPlace 3) = true := by kernel_rfl
theorem deriveChecks_j3 : (Rows.deriveChecksRow.unfollowed == Tryz.prog.unfollowed 3) = true := by kernel_rfl
theorem deriveChecks_j4 : (Rows.deriveChecksRow.recurses == Tryz.prog.recurses 3) = true := by kernel_rfl
theorem deriveChecks_j5 : (Rows.deriveChecksRow.named == Tryz.prog.varsNamed 3) = true := by kernel_rfl
theorem deriveChecks_joined : joinedFacts Tryz.prog 3 Tryz.f3 Rows.deriveChecksSpec Rows.deriveChecksRow = true :=
  Zht deriveChecks_j1 ZnN Zoa (by kernel_rfl) (by kernel_rfl) (by kernel_rfl) deriveChecks_j2 deriveChecks_j3 deriveChecks_j4 deriveChecks_j5 (by kernel_rfl)
theorem deriveChecks_holds : Rows.DeriveChecksSaid :=
  OpenClaim.holds_of_wide 3 Tryz.f3 rfl rfl rfl rfl rfl rfl rfl ⟨rfl, rfl, rfl, rfl, rfl⟩ rfl rfl rfl rfl rfl (by kernel_rfl) Tryz.func3 deriveChecks_joined
    (of_decide_eq_true (by kernel_rfl)) (by unfold Func.isWrapper; first | (rw [if_pos (by decide +kernel)]; kernel_rfl) | (rw [if_neg (by decide +kernel)]; exact ⟨rfl, rfl⟩))
    (λos started H enc _ => deriveChecks_lifted os started H enc)
theorem deriveChecks_card_holds : Rows.DeriveChecksCardSaid :=
  Claim7.holds_tied_plain_at .later [] [.data, .data, .data, .sentinel, .sentinel, .data, .data, .widerDeep] true Rows.deriveChecksCard.stood.harness true
    deriveChecks_holds (λ_ h => by cases h) (by kernel_rfl) (λ_ h => by cases h) deriveChecks_row_tie rfl ⟨rfl, rfl⟩ (by kernel_rfl) rfl
    (λf fn hf ls => by
      obtain rfl : f = 3 := Option.some.inj ((show Tryz.prog.funcNamed Rows.deriveChecksRow.func = some 3 by kernel_rfl).symm.trans hf) |>.symm
      obtain rfl : fn = Tryz.f3 := (Option.some.inj (Tryz.func3.symm.trans ls)).symm
      exact ⟨by kernel_rfl, λj t ht => by
        rw [Tryz.params3] at ht
        have hm : t ∈ Tryz.f3.params.toList := by rw [Tryz.params3]; simpa using Array.mem_of_getElem? ht
        have ar : (Tryz.f3.params.toList.all λu => !Tryz.prog.wantsStandIn u) = true := by kernel_rfl
        exact (show Tryz.prog.wantsStandIn t = false by simpa using List.all_eq_true.1 ar t hm)⟩)
    (Zoh Zob rfl)
end Go.Proofs.YteibicnbkggiiaaGreatDoor
