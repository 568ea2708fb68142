
/-
DeriveTexts: for all facts of cases made from numbers and all rules of the form "on k; due day + n days", printed, parsed and compiled, the deadlines are the days of the facts of this kind plus n, passed exactly if today is later. Condition: the listed variables read as the program's text lays them (the card ties them).
-/
import Derived.Test.YtipfkbkkndacjaaGreatDoorM7
import Derived.Deep.DeepLaidRun
namespace Go.Proofs.YtipfkbkkndacjaaGreatDoor
open Go Go.Eng Go.RowKit Go.Proofs Go.ChangeShapes Go.WideShapes Go.Deep
set_option linter.unusedVariables false
theorem laid8_tab {W : World} (h : laidMetH Tryz.prog ZdL W) : Zcz W := by
  rw [MakeChecks.laidMetH_plain _ _ _ (by kernel_rfl)] at h
  obtain ⟨ps, h, _⟩ := h
  have h1 := Z4n _ _ h "internal/strconv.uint64pow10" Rows.laid_internal_strconv_uint64pow10 (by simp [ZdL, Z9h])
  exact ZhN (k := .u64) (zs := Lib.pow10Tab) (g := 1) (t := 360) (e := 222) (n := 20) h1 (by kernel_rfl) (by kernel_rfl) Tryz.underlying360 Tryz.underlying222 (by kernel_rfl) (by kernel_rfl)
theorem deriveTexts_spec : Znc Rows.deriveTextsSpec 4 := ⟨rfl, λH ds hl => by
  match ds, hl with
  | [d0, d1, d2, d3], _ => exact ⟨rfl, rfl, rfl⟩⟩
theorem deriveTexts_met (os : Os) (args : Array Value) : laidMetH Tryz.prog Rows.deriveTextsRow.laid ((World.doorLaid Tryz.prog 300 os).forCall (λ_ _ => 0) ⟨#[], args, []⟩).memory :=
  laidMetH_of_parts3 (fuel := 8) (laidMet_of_run3 8 (by kernel_rfl) (by kernel_rfl) (by kernel_rfl)) (by kernel_rfl) (by kernel_rfl)
set_option maxRecDepth 100000 in
theorem deriveTexts_lifted (os : Os) (started : os.Started) (H : Type) (enc : TypeId × Value -> H) :
    ReturnsInHanded {} Tryz.checked os 9 .any (λw args => (Rows.deriveTextsSpec.pre enc Tryz.prog Tryz.f9 [] false w args /\ laidMetH Tryz.prog Rows.deriveTextsRow.laid w) /\ sizedMet enc Tryz.prog Tryz.f9 (OpenSpec.ofChange Rows.deriveTextsSpec) false w args) (Rows.deriveTextsSpec.post enc Tryz.prog Tryz.f9 false true false false) := by
  refine ZjZ (C := Tryz.checked) (X := λw _ => laidMetH Tryz.prog Rows.deriveTextsRow.laid w) (λ_ _ _ hh h => h.of_heap hh) ZxE started (by kernel_rfl) Tryz.func9
    (ChangeSpec.witness_shaped (enc := enc) (C := Tryz.checked) (os := os) (X := λw _ => laidMetH Tryz.prog Rows.deriveTextsRow.laid w) false (World.doorLaid Tryz.prog 300 os) #[.slice none 0 0, .int .i64 0, .int .i64 0, .int .i64 0] 8 rfl (World.shaped_of_RefB (by kernel_rfl) (by kernel_rfl)) (by kernel_rfl) (by kernel_rfl) (by kernel_rfl) (deriveTexts_met os _)) ?_
  intro W base args ds gs before hval0 hW hsz0 hL dQ
  have qH : ∀ (j : Nat) t v, Tryz.f9.params[j]? = some t -> args[j]? = some v -> Value.okWide Tryz.prog W .any base t v := hval0
  refine ZwP ZwV (by kernel_rfl) (tb := 4) rfl Tryz.underlying4 deriveTexts_spec hW ?_
  obtain ⟨p, q, hA0, hV, _⟩ := hW
  obtain ⟨rfl, rfl⟩ := trodVars_none hV
  have hA : DataW.TrodAll enc Tryz.prog W 0 (λ_ => true) true Tryz.f9.params.toList args.toList ds p := hA0
  have hF : SlV [] W Z21 Ze := (ZtQ hL).2
  rw [Tryz.params9] at hA qH
  obtain ⟨v0, v1, v2, v3, d0, d1, d2, d3, p0, p1, p2, p3, rfl, rfl, rfl, h0, h1, h2, h3⟩ := trodAll_four hA
  obtain ⟨l, hs, hl, -⟩ := ZtR (qH 0 _ v0 rfl rfl) h0
  obtain ⟨a, rfl, ha⟩ := ZwW (qH 1 _ v1 rfl rfl) h1
  obtain ⟨b, rfl, hb⟩ := ZwW (qH 2 _ v2 rfl rfl) h2
  obtain ⟨c, rfl, hc⟩ := ZwW (qH 3 _ v3 rfl rfl) h3
  obtain ⟨m, hm⟩ := Tryz.laysM144.s1_3 W dQ
  obtain ⟨⟨hLn, hMv, er, h4_, bD⟩, -⟩ := ZtQ hL
  exact ZxB v0 l a b c er m W hs hl ha hb hc hF hLn hMv (laid8_tab hL) hm h4_ bD
theorem deriveTexts_j1 : Rows.deriveTextsRow.wf (OpenSpec.ofChange Rows.deriveTextsSpec) = true := by kernel_rfl
theorem deriveTexts_j2 : (Rows.deriveTextsRow.inPlace == Tryz.prog.inPlace 9) = true := by kernel_rfl
theorem deriveTexts_j3 : (Rows.deriveTextsRow.unfollowed == Tryz.prog.unfollowed 9) = true := by kernel_rfl
theorem deriveTexts_j4 : (Rows.deriveTextsRow.recurses == Tryz.prog.recurses 9) = true := by kernel_rfl
theorem deriveTexts_j5 : (Rows.deriveTextsRow.named == Tryz.prog.varsNamed 9) = true := by kernel_rfl
theorem deriveTexts_joined : joinedFacts Tryz.prog 9 Tryz.f9 Rows.deriveTextsSpec Rows.deriveTextsRow = true :=
  ZoB deriveTexts_j1 ZwV ZxC (by kernel_rfl) (by kernel_rfl) (by kernel_rfl) deriveTexts_j2 deriveTexts_j3 deriveTexts_j4 deriveTexts_j5 (by kernel_rfl)
theorem deriveTexts_holds : Rows.DeriveTextsSaid :=
  OpenClaim.holds_of_wide 9 Tryz.f9 rfl rfl rfl rfl rfl rfl rfl ⟨rfl, rfl, rfl, rfl, rfl⟩ rfl rfl rfl rfl rfl (by kernel_rfl) Tryz.func9 deriveTexts_joined
    (of_decide_eq_true (by kernel_rfl)) (by unfold Func.isWrapper; first | (rw [if_pos (by decide +kernel)]; kernel_rfl) | (rw [if_neg (by decide +kernel)]; exact ⟨rfl, rfl⟩))
    (λos started H enc _ => deriveTexts_lifted os started H enc)
theorem deriveTexts_card_holds : Rows.DeriveTextsCardSaid :=
  Claim7.holds_tied_plain_at .later [] [.data, .data, .data, .sentinel, .sentinel, .data, .data, .widerDeep] true Rows.deriveTextsCard.stood.harness true
    deriveTexts_holds (λ_ h => by cases h) (by kernel_rfl) (λ_ h => by cases h) deriveTexts_row_tie rfl ⟨rfl, rfl⟩ (by kernel_rfl) rfl
    (λf fn hf qF => by
      obtain rfl : f = 9 := Option.some.inj ((show Tryz.prog.funcNamed Rows.deriveTextsRow.func = some 9 by kernel_rfl).symm.trans hf) |>.symm
      obtain rfl : fn = Tryz.f9 := (Option.some.inj (Tryz.func9.symm.trans qF)).symm
      exact ⟨by kernel_rfl, λj t ht => by
        rw [Tryz.params9] at ht
        have hm : t ∈ Tryz.f9.params.toList := by rw [Tryz.params9]; simpa using Array.mem_of_getElem? ht
        have aB : (Tryz.f9.params.toList.all λu => !Tryz.prog.wantsStandIn u) = true := by kernel_rfl
        exact (show Tryz.prog.wantsStandIn t = false by simpa using List.all_eq_true.1 aB t hm)⟩)
    (ZxF ZxD rfl)
end Go.Proofs.YtipfkbkkndacjaaGreatDoor
