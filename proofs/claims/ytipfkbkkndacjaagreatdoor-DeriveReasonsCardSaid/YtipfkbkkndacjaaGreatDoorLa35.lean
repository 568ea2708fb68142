
/-
DeriveReasons: for all cases made from numbers with a further fact, closure, stay and attempt, each deadline to which none of these is relevant by its reasons is set as before. Condition: the listed variables read as the program's text lays them (the card ties them).
-/
import Derived.Test.YtipfkbkkndacjaaGreatDoorQ7
import Derived.Deep.DeepLaidRun
namespace Go.Proofs.YtipfkbkkndacjaaGreatDoor
open Go Go.Eng Go.RowKit Go.Proofs Go.ChangeShapes Go.WideShapes Go.Deep
set_option linter.unusedVariables false
set_option maxRecDepth 100000 in
theorem fur_read {H : Type} {enc : TypeId × Value -> H} {w : World} {base : Nat} {spare : Nat -> Bool} {bK : Bool} {r : Reach} {b0 : Nat} {v : Value} {d : DataW H} {p : List MemPlace} (hv : Value.okWide Tryz.prog w r b0 70 v) (h : DataW.Trod enc Tryz.prog w base spare bK 70 v d p) :
    ∃ a0 a1 a2 a3 a4 a5 a6 a7 : Int, v = .agg #[.int .i64 a0, .int .i64 a1, .int .i64 a2, .int .i64 a3, .int .i64 a4, .int .i64 a5, .int .i64 a6, .int .i64 a7] /\ I64 a0 /\ I64 a1 /\ I64 a2 /\ I64 a3 /\ I64 a4 /\ I64 a5 /\ I64 a6 /\ I64 a7 := by
  obtain ⟨cs, rfl, bG⟩ := okWide_struct Tryz.underlying70 hv
  obtain ⟨fuel, h⟩ := h
  have hl : cs.toList.length = 8 := by
    have hc : Tryz.prog.cellsOf 70 = 8 := by kernel_rfl
    rw [hc] at bG
    simpa using bG
  obtain ⟨zs, h1, h2, h3⟩ := Z8a (k := 8) (by kernel_rfl) hl h
  match zs, h1 with
  | [a0, a1, a2, a3, a4, a5, a6, a7], _ =>
    refine ⟨a0, a1, a2, a3, a4, a5, a6, a7, ?_, h3 a0 (by simp), h3 a1 (by simp), h3 a2 (by simp), h3 a3 (by simp), h3 a4 (by simp), h3 a5 (by simp), h3 a6 (by simp), h3 a7 (by simp)⟩
    have bh : cs.toList = [.int .i64 a0, .int .i64 a1, .int .i64 a2, .int .i64 a3, .int .i64 a4, .int .i64 a5, .int .i64 a6, .int .i64 a7] := h2
    rw [<- Array.toArray_toList (xs := cs), bh]
theorem deriveReasons_spec : Zn0 Rows.deriveReasonsSpec 2 := ⟨rfl, λH ds hl => by
  match ds, hl with
  | [d0, d1], _ => exact ⟨rfl, rfl, rfl⟩⟩
theorem deriveReasons_met (os : Os) (args : Array Value) : laidMetH Tryz.prog Rows.deriveReasonsRow.laid ((World.doorLaid Tryz.prog 300 os).forCall (λ_ _ => 0) ⟨#[], args, []⟩).memory :=
  laidMetH_of_parts3 (fuel := 8) (laidMet_of_run3 8 (by kernel_rfl) (by kernel_rfl) (by kernel_rfl)) (by kernel_rfl) (by kernel_rfl)
set_option maxRecDepth 100000 in
theorem deriveReasons_lifted (os : Os) (started : os.Started) (H : Type) (enc : TypeId × Value -> H) :
    ReturnsInHanded {} Tryz.checked os 8 .any (λw args => (Rows.deriveReasonsSpec.pre enc Tryz.prog Tryz.f8 [] false w args /\ laidMetH Tryz.prog Rows.deriveReasonsRow.laid w) /\ sizedMet enc Tryz.prog Tryz.f8 (OpenSpec.ofChange Rows.deriveReasonsSpec) false w args) (Rows.deriveReasonsSpec.post enc Tryz.prog Tryz.f8 false true false false) := by
  refine Zju (C := Tryz.checked) (X := λw _ => laidMetH Tryz.prog Rows.deriveReasonsRow.laid w) (λ_ _ _ hh h => h.of_heap hh) Zxd started (by kernel_rfl) Tryz.func8
    (ChangeSpec.witness_shaped (enc := enc) (C := Tryz.checked) (os := os) (X := λw _ => laidMetH Tryz.prog Rows.deriveReasonsRow.laid w) false (World.doorLaid Tryz.prog 300 os) #[.slice none 0 0, .agg #[.int .i64 0, .int .i64 0, .int .i64 0, .int .i64 0, .int .i64 0, .int .i64 0, .int .i64 0, .int .i64 0]] 8 rfl (World.shaped_of_RefB (by kernel_rfl) (by kernel_rfl)) (by kernel_rfl) (by kernel_rfl) (by kernel_rfl) (deriveReasons_met os _)) ?_
  intro W base args ds gs before hval0 hW hsz0 hL dJ
  have qu : ∀ (j : Nat) t v, Tryz.f8.params[j]? = some t -> args[j]? = some v -> Value.okWide Tryz.prog W .any base t v := hval0
  refine Zwu ZwA (by kernel_rfl) (tb := 4) rfl Tryz.underlying4 deriveReasons_spec hW ?_
  obtain ⟨p, q, hA0, hV, _⟩ := hW
  obtain ⟨rfl, rfl⟩ := trodVars_none hV
  have hA : DataW.TrodAll enc Tryz.prog W 0 (λ_ => true) true Tryz.f8.params.toList args.toList ds p := hA0
  have hF : SlV [] W Z2e Ze := (Zty hL).2
  rw [Tryz.params8] at hA qu
  obtain ⟨v0, v1, d0, d1, p0, p1, rfl, rfl, rfl, h0, h1⟩ := trodAll_two hA
  obtain ⟨l, hs, hl, -⟩ := Ztz (qu 0 _ v0 rfl rfl) h0
  obtain ⟨a0, a1, a2, a3, a4, a5, a6, a7, rfl, g0, g1, g2, g3, g4, g5, g6, g7⟩ := fur_read (qu 1 _ v1 rfl rfl) h1
  obtain ⟨m, hm⟩ := Tryz.laysM144.s1_3 W dJ
  obtain ⟨⟨hLn, hMv, er, h4_, bF⟩, -⟩ := Zty hL
  exact Ztw v0 l a0 a1 a2 a3 a4 a5 a6 a7 er m W hs hl g0 g1 g2 g3 g4 g5 g6 g7 hF hLn hMv hm h4_ bF
theorem deriveReasons_j1 : Rows.deriveReasonsRow.wf (OpenSpec.ofChange Rows.deriveReasonsSpec) = true := by kernel_rfl
theorem deriveReasons_j2 : (Rows.deriveReasonsRow.inPlace == Tryz.prog.inPlace 8) = true := by kernel_rfl
theorem deriveReasons_j3 : (Rows.deriveReasonsRow.unfollowed == Tryz.prog.unfollowed 8) = true := by kernel_rfl
theorem deriveReasons_j4 : (Rows.deriveReasonsRow.recurses == Tryz.prog.recurses 8) = true := by kernel_rfl
theorem deriveReasons_j5 : (Rows.deriveReasonsRow.named == Tryz.prog.varsNamed 8) = true := by kernel_rfl
theorem deriveReasons_joined : joinedFacts Tryz.prog 8 Tryz.f8 Rows.deriveReasonsSpec Rows.deriveReasonsRow = true :=
  Zop deriveReasons_j1 ZwA Zxb (by kernel_rfl) (by kernel_rfl) (by kernel_rfl) deriveReasons_j2 deriveReasons_j3 deriveReasons_j4 deriveReasons_j5 (by kernel_rfl)
theorem deriveReasons_holds : Rows.DeriveReasonsSaid :=
  OpenClaim.holds_of_wide 8 Tryz.f8 rfl rfl rfl rfl rfl rfl rfl ⟨rfl, rfl, rfl, rfl, rfl⟩ rfl rfl rfl rfl rfl (by kernel_rfl) Tryz.func8 deriveReasons_joined
    (of_decide_eq_true (by kernel_rfl)) (by unfold Func.isWrapper; first | (rw [if_pos (by decide +kernel)]; kernel_rfl) | (rw [if_neg (by decide +kernel)]; exact ⟨rfl, rfl⟩))
    (λos started H enc _ => deriveReasons_lifted os started H enc)
theorem deriveReasons_card_holds : Rows.DeriveReasonsCardSaid :=
  Claim7.holds_tied_plain_at .later [] [.data, .data, .data, .sentinel, .sentinel, .data, .data, .widerDeep] true Rows.deriveReasonsCard.stood.harness true
    deriveReasons_holds (λ_ h => by cases h) (by kernel_rfl) (λ_ h => by cases h) deriveReasons_row_tie rfl ⟨rfl, rfl⟩ (by kernel_rfl) rfl
    (λf fn hf qr => by
      obtain rfl : f = 8 := Option.some.inj ((show Tryz.prog.funcNamed Rows.deriveReasonsRow.func = some 8 by kernel_rfl).symm.trans hf) |>.symm
      obtain rfl : fn = Tryz.f8 := (Option.some.inj (Tryz.func8.symm.trans qr)).symm
      exact ⟨by kernel_rfl, λj t ht => by
        rw [Tryz.params8] at ht
        have hm : t ∈ Tryz.f8.params.toList := by rw [Tryz.params8]; simpa using Array.mem_of_getElem? ht
        have aB : (Tryz.f8.params.toList.all λu => !Tryz.prog.wantsStandIn u) = true := by kernel_rfl
        exact (show Tryz.prog.wantsStandIn t = false by simpa using List.all_eq_true.1 aB t hm)⟩)
    (Zxe Zxc rfl)
end Go.Proofs.YtipfkbkkndacjaaGreatDoor
