
/-
DeriveRoots: for all cases made from numbers, also without one of the facts, all deadlines and events have the entry of a filed fact. Condition: the listed variables read as the program's text lays them (the card ties them).
-/
import Derived.Test.YtipfkbkkndacjaaGreatDoorM7
import Derived.Deep.DeepLaidRun
namespace Go.Proofs.YtipfkbkkndacjaaGreatDoor
open Go Go.Eng Go.RowKit Go.Proofs Go.ChangeShapes Go.WideShapes Go.Deep
set_option linter.unusedVariables false
theorem deriveRoots_spec : ZmT Rows.deriveRootsSpec 2 := ⟨rfl, fun H ds hl => by
  match ds, hl with
  | [d0, d1], _ => exact ⟨rfl, rfl, rfl⟩⟩
theorem deriveRoots_met (os : Os) (args : Array Value) : laidMetH Tryz.prog Rows.deriveRootsRow.laid ((World.doorLaid Tryz.prog 300 os).forCall (fun _ _ => 0) ⟨#[], args, []⟩).memory :=
  laidMetH_of_parts3 (fuel := 8) (laidMet_of_run3 8 (by kernel_rfl) (by kernel_rfl) (by kernel_rfl)) (by kernel_rfl) (by kernel_rfl)
set_option maxRecDepth 100000 in
theorem deriveRoots_lifted (os : Os) (started : os.Started) (H : Type) (enc : TypeId × Value → H) :
    ReturnsInHanded {} Tryz.checked os 5 .any (fun w args => (Rows.deriveRootsSpec.pre enc Tryz.prog Tryz.f5 [] false w args ∧ laidMetH Tryz.prog Rows.deriveRootsRow.laid w) ∧ sizedMet enc Tryz.prog Tryz.f5 (OpenSpec.ofChange Rows.deriveRootsSpec) false w args) (Rows.deriveRootsSpec.post enc Tryz.prog Tryz.f5 false true false false) := by
  refine Zjt (C := Tryz.checked) (X := fun w _ => laidMetH Tryz.prog Rows.deriveRootsRow.laid w) (fun _ _ _ hh h => h.of_heap hh) Zxu started (by kernel_rfl) Tryz.func5
    (ChangeSpec.witness_shaped (enc := enc) (C := Tryz.checked) (os := os) (X := fun w _ => laidMetH Tryz.prog Rows.deriveRootsRow.laid w) false (World.doorLaid Tryz.prog 300 os) #[.slice none 0 0, .int .i64 0] 8 rfl (World.shaped_of_RefB (by kernel_rfl) (by kernel_rfl)) (by kernel_rfl) (by kernel_rfl) (by kernel_rfl) (deriveRoots_met os _)) ?_
  intro W base args ds gs before hval0 hW hsz0 hL hsh
  have hval : ∀ (j : Nat) t v, Tryz.f5.params[j]? = some t → args[j]? = some v → Value.okWide Tryz.prog W .any base t v := hval0
  refine ZwN ZwT (by kernel_rfl) (tb := 4) rfl Tryz.underlying4 deriveRoots_spec hW ?_
  obtain ⟨p, q, hA0, hV, _⟩ := hW
  obtain ⟨rfl, rfl⟩ := trodVars_none hV
  have hA : DataW.TrodAll enc Tryz.prog W 0 (fun _ => true) true Tryz.f5.params.toList args.toList ds p := hA0
  have hF : SlV [] W Z2q Zf := (ZtV hL).2
  rw [Tryz.params5] at hA hval
  obtain ⟨v0, v1, d0, d1, p0, p1, rfl, rfl, rfl, h0, h1⟩ := trodAll_two hA
  obtain ⟨l, hs, hl, -⟩ := ZtW (hval 0 _ v0 rfl rfl) h0
  obtain ⟨at_, rfl, ha⟩ := ZwU (hval 1 _ v1 rfl rfl) h1
  obtain ⟨m, hm⟩ := Tryz.laysM144.s1_3 W hsh
  obtain ⟨⟨hLn, hMv, er, h4_, hev⟩, -⟩ := ZtV hL
  exact Zxr v0 l at_ er m W hs hl ha hF hLn hMv hm h4_ hev
theorem deriveRoots_j1 : Rows.deriveRootsRow.wf (OpenSpec.ofChange Rows.deriveRootsSpec) = true := by kernel_rfl
theorem deriveRoots_j2 : (Rows.deriveRootsRow.inPlace == Tryz.prog.inPlace 5) = true := by kernel_rfl
theorem deriveRoots_j3 : (Rows.deriveRootsRow.unfollowed == Tryz.prog.unfollowed 5) = true := by kernel_rfl
theorem deriveRoots_j4 : (Rows.deriveRootsRow.recurses == Tryz.prog.recurses 5) = true := by kernel_rfl
theorem deriveRoots_j5 : (Rows.deriveRootsRow.named == Tryz.prog.varsNamed 5) = true := by kernel_rfl
theorem deriveRoots_joined : joinedFacts Tryz.prog 5 Tryz.f5 Rows.deriveRootsSpec Rows.deriveRootsRow = true :=
  Zoi deriveRoots_j1 ZwT Zxs (by kernel_rfl) (by kernel_rfl) (by kernel_rfl) deriveRoots_j2 deriveRoots_j3 deriveRoots_j4 deriveRoots_j5 (by kernel_rfl)
theorem deriveRoots_holds : Rows.DeriveRootsSaid :=
  OpenClaim.holds_of_wide 5 Tryz.f5 rfl rfl rfl rfl rfl rfl rfl ⟨rfl, rfl, rfl, rfl, rfl⟩ rfl rfl rfl rfl rfl (by kernel_rfl) Tryz.func5 deriveRoots_joined
    (of_decide_eq_true (by kernel_rfl)) (by unfold Func.isWrapper; first | (rw [if_pos (by decide +kernel)]; kernel_rfl) | (rw [if_neg (by decide +kernel)]; exact ⟨rfl, rfl⟩))
    (fun os started H enc _ => deriveRoots_lifted os started H enc)
theorem deriveRoots_card_holds : Rows.DeriveRootsCardSaid :=
  Claim7.holds_tied_plain_at .later [] [.data, .data, .data, .sentinel, .sentinel, .data, .data, .widerDeep] true Rows.deriveRootsCard.stood.harness true
    deriveRoots_holds (fun _ h => by cases h) (by kernel_rfl) (fun _ h => by cases h) deriveRoots_row_tie rfl ⟨rfl, rfl⟩ (by kernel_rfl) rfl
    (fun f fn hf hfn => by
      obtain rfl : f = 5 := Option.some.inj ((show Tryz.prog.funcNamed Rows.deriveRootsRow.func = some 5 by kernel_rfl).symm.trans hf) |>.symm
      obtain rfl : fn = Tryz.f5 := (Option.some.inj (Tryz.func5.symm.trans hfn)).symm
      exact ⟨by kernel_rfl, fun j t ht => by
        rw [Tryz.params5] at ht
        have hm : t ∈ Tryz.f5.params.toList := by rw [Tryz.params5]; simpa using Array.mem_of_getElem? ht
        have hall : (Tryz.f5.params.toList.all fun u => !Tryz.prog.wantsStandIn u) = true := by kernel_rfl
        exact (show Tryz.prog.wantsStandIn t = false by simpa using List.all_eq_true.1 hall t hm)⟩)
    (Zxv Zxt rfl)
end Go.Proofs.YtipfkbkkndacjaaGreatDoor
