/-
CompileExpressions: for all expressions, cut to a nesting of 13, to 4 kids of each node and to 400 nodes, and all expressions with a type made from numbers, Expression returns the specified code or error. Condition: the variable types.fields reads as the program's text lays it (the card ties it).
-/
import Derived.Test.YtfjmlobgjdmecaaDoorM4
namespace Go.Proofs.YtfjmlobgjdmecaaDoor
open Go Go.Eng Go.RowKit Go.Proofs Go.ChangeShapes Go.WideShapes Go.Deep
set_option linter.unusedVariables false
theorem expressionsLaw (v lv : Value) (x : Nd) (l : List Int) (kind : Int) (w : World) (hF : SlV [] w flds fieldNames) (hx : NdV [] w v x) (hs : SlV [] w lv l) (hl : ∀ a ∈ l, I64 a) (hk : I64 kind) :
    Calls Tryd.prog 3 #[v, lv, .int .i64 kind] w (Ret fun r w' => r = .bool true ∧ Stp [] w w') := by
  obtain ⟨kv, rfl, hkv⟩ := hx
  refine calls_of_WC3 (n := 63) Tryd.func3 rfl rfl rfl ?_
  refine W ?_
  refine WL_eff (OE_box rfl) rfl ?_
  rintro _ w1 ⟨b3, rfl, hb3, e3, hS⟩
  replace e3 : Blk w1 b3 _ (ndC x kv) := e3
  refine W ?_
  refine WL_eff (OE_call rfl (evs2 rfl rfl) (Pruned_any [] _ x _ 13 (by decide) (by decide) (by simp) ⟨kv, rfl, hkv.up hS⟩)) rfl ?_
  rintro _ w2 ⟨y, ⟨ky, rfl, hky⟩, hsz, hT⟩
  replace hS := hS.trans hT
  clear hT e3
  refine WL_eff OE_alloc rfl ?_
  rintro _ w3 ⟨b7, rfl, hb7, e7, hT⟩
  refine WL_eff0 (OE_storeA (us := ndC y ky) rfl rfl rfl rfl (ndC_one hky) e7 rfl) ?_
  rintro _ w4 ⟨hT2, e7'⟩
  have hT3 := hT.own hT2 (fun b hb => .inr (by simp at hb; omega))
  replace hky := hky.up hT3
  replace hS := hS.trans hT3
  clear hT hT2 hT3 e7
  refine W ?_
  refine WL_eff (OE_call rfl (evs1 rfl) (Expression_any _ y _ (by omega) ⟨_, rfl, hky⟩ (hF.up hS))) rfl ?_
  rintro _ w5 ⟨va, rfl, ha, hT⟩
  replace ha := ha [] (by simp)
  replace hky := hky.up hT
  replace hS := hS.trans hT
  replace e7' := e7'.up hT
  clear hT
  have hn := nest_le_size y
  refine W ?_
  refine WL_eff (OE_call rfl (evs1 rfl) (ExpressionR_any _ y _ (by omega) (by omega) ⟨_, rfl, hky⟩)) rfl ?_
  rintro _ w6 ⟨vb, rfl, hb, hT⟩
  replace hb := hb [] (by simp)
  replace ha := ha.up hT
  replace hS := hS.trans hT
  clear hT hky e7' hn
  generalize hL1 : (if errX y = 0 then exprF y else []) = L1 at *
  refine W ?_
  refine WL_eff (OE_call rfl (evs3 rfl rfl rfl) (Expr_any [] lv l kind 6 6 _ (by decide) (by decide) rfl hk (hs.up hS) hl (by simp))) rfl ?_
  rintro _ w7 ⟨z, ⟨kz, rfl, hkz⟩, hszz, hT⟩
  replace ha := ha.up hT
  replace hb := hb.up hT
  replace hS := hS.trans hT
  clear hT
  refine WL_eff OE_alloc rfl ?_
  rintro _ w8 ⟨b12, rfl, hb12, e12, hT⟩
  refine WL_eff0 (OE_storeA (us := ndC z kz) rfl rfl rfl rfl (ndC_one hkz) e12 rfl) ?_
  rintro _ w9 ⟨hT2, e12'⟩
  have hT3 := hT.own hT2 (fun b hb => .inr (by simp at hb; omega))
  replace hkz := hkz.up hT3
  replace ha := ha.up hT3
  replace hb := hb.up hT3
  replace hS := hS.trans hT3
  clear hT hT2 hT3 e12
  refine W ?_
  refine WL_eff (OE_call rfl (evs1 rfl) (Expression_any _ z _ (by omega) ⟨_, rfl, hkz⟩ (hF.up hS))) rfl ?_
  rintro _ w5 ⟨vc, rfl, hc, hT⟩
  replace hc := hc [] (by simp)
  replace hkz := hkz.up hT
  replace ha := ha.up hT
  replace hb := hb.up hT
  replace hS := hS.trans hT
  replace e12' := e12'.up hT
  clear hT
  have hn := nest_le_size z
  refine W ?_
  refine WL_eff (OE_call rfl (evs1 rfl) (ExpressionR_any _ z _ (by omega) (by omega) ⟨_, rfl, hkz⟩)) rfl ?_
  rintro _ w6 ⟨vd, rfl, hd, hT⟩
  replace hd := hd [] (by simp)
  replace ha := ha.up hT
  replace hb := hb.up hT
  replace hc := hc.up hT
  replace hS := hS.trans hT
  clear hT hkz e12' hn
  generalize hL2 : (if errX z = 0 then exprF z else []) = L2 at *
  refine W ?_
  refine WL_eff (OE_call rfl (evs2 rfl rfl) (SameCode_any _ _ L1 L1 _ ha hb)) rfl ?_
  rintro _ w10 ⟨rfl, hT⟩
  replace hc := hc.up hT
  replace hd := hd.up hT
  replace hS := hS.trans hT
  clear hT
  rw [decide_eq_true (rfl : L1 = L1)]
  repeat' (first | refine W1 ?_ | (exfalso; omega) | refine WL_split rfl rfl (fun hg => ?_) (fun hg => ?_) | refine WL_splitB rfl rfl (fun hg => ?_) (fun hg => ?_) | refine WC_cond rfl (fun hc => ?_) (fun hc => ?_) | refine WC_condB rfl (fun hc => ?_) (fun hc => ?_))
  all_goals try (exact absurd rfl (by assumption))
  refine WL_eff (OE_call rfl (evs2 rfl rfl) (SameCode_any _ _ L2 L2 _ hc hd)) rfl ?_
  rintro _ w11 ⟨rfl, hT⟩
  replace hS := hS.trans hT
  clear hT
  rw [decide_eq_true (rfl : L2 = L2)]
  repeat' (first | refine W1 ?_ | (exfalso; omega) | refine WL_split rfl rfl (fun hg => ?_) (fun hg => ?_) | refine WL_splitB rfl rfl (fun hg => ?_) (fun hg => ?_) | refine WC_cond rfl (fun hc => ?_) (fun hc => ?_) | refine WC_condB rfl (fun hc => ?_) (fun hc => ?_))
  all_goals try (exact absurd rfl (by assumption))
  refine WL_eff (OE_call rfl evs0 (lives15_any _ (hF.up hS))) rfl ?_
  rintro _ w12 ⟨rfl, hT⟩
  refine W ?_
  first | refine WQ_ret1 rfl rfl ?_ | refine WQ_ret2 rfl rfl rfl ?_ | refine WQ_ret3 rfl rfl rfl rfl ?_ | refine WQ_ret0 rfl ?_ | refine WQ_end0 rfl ?_
  exact .mk ⟨rfl, hS.trans hT⟩
theorem compileExpressions_spec : LawSpec Rows.compileExpressionsSpec 3 := ⟨rfl, fun H ds hl => by
  match ds, hl with
  | [d0, d1, d2], _ => exact ⟨rfl, rfl, rfl⟩⟩
theorem compileExpressions_met (os : Os) (args : Array Value) : laidMetH Tryd.prog Rows.compileExpressionsRow.laid ((World.doorLaid Tryd.prog 14 os).forCall (fun _ _ => 0) ⟨#[], args, []⟩).memory :=
  laidMetH_of_parts3 (fuel := 8) (laidMet_of_run' 8 (by kernel_rfl) (by kernel_rfl)) (by kernel_rfl) (by kernel_rfl)
set_option maxRecDepth 100000 in
theorem compileExpressions_lifted (os : Os) (started : os.Started) (H : Type) (enc : TypeId × Value → H) :
    ReturnsInHanded {} Tryd.checked os 3 .any (fun w args => (Rows.compileExpressionsSpec.pre enc Tryd.prog Tryd.f3 [] false w args ∧ laidMetH Tryd.prog Rows.compileExpressionsRow.laid w) ∧ sizedMet enc Tryd.prog Tryd.f3 (OpenSpec.ofChange Rows.compileExpressionsSpec) false w args) (Rows.compileExpressionsSpec.post enc Tryd.prog Tryd.f3 false true false false) := by
  refine ret_and_shaped (C := Tryd.checked) (X := fun w _ => laidMetH Tryd.prog Rows.compileExpressionsRow.laid w) (fun _ _ _ hh h => h.of_heap hh) law_own started (by kernel_rfl) Tryd.func3
    (ChangeSpec.witness_shaped (enc := enc) (C := Tryd.checked) (os := os) (X := fun w _ => laidMetH Tryd.prog Rows.compileExpressionsRow.laid w) false (World.doorLaid Tryd.prog 14 os) #[.agg #[.int .i64 0, .int .i64 0, .string ⟨#[]⟩, .slice none 0 0], .slice none 0 0, .int .i64 0] 8 rfl (World.shaped_of_RefB (by kernel_rfl) (by kernel_rfl)) (by kernel_rfl) (by kernel_rfl) (by kernel_rfl) (compileExpressions_met os _)) ?_
  intro W base args ds gs before hval0 hW hsz0 hL hsh
  have hval : ∀ (j : Nat) t v, Tryd.f3.params[j]? = some t → args[j]? = some v → Value.okWide Tryd.prog W .any base t v := hval0
  refine law_post law_laid (by kernel_rfl) (tb := 4) rfl Tryd.underlying4 compileExpressions_spec hW ?_
  obtain ⟨p, q, hA0, hV, _⟩ := hW
  obtain ⟨rfl, rfl⟩ := trodVars_none hV
  have hA : DataW.TrodAll enc Tryd.prog W 0 (fun _ => true) true Tryd.f3.params.toList args.toList ds p := hA0
  have hF : SlV [] W flds fieldNames := flds_of_laid hL
  rw [Tryd.params3] at hA hval
  obtain ⟨v0, v1, v2, d0, d1, d2, p0, p1, p2, rfl, rfl, rfl, h0, h1, h2⟩ := trodAll_three hA
  obtain ⟨x, hx⟩ := nd_read (hval 0 _ v0 rfl rfl) h0
  obtain ⟨l, hs, hl, -⟩ := ints_read (hval 1 _ v1 rfl rfl) h1
  obtain ⟨kind, rfl, hk⟩ := open_i64 (hval 2 _ v2 rfl rfl) h2
  exact expressionsLaw v0 v1 x l kind W hF hx hs hl hk
theorem compileExpressions_holds : Rows.CompileExpressionsSaid :=
  OpenClaim.holds_of_wide 3 Tryd.f3 rfl rfl rfl rfl rfl rfl rfl ⟨rfl, rfl, rfl, rfl, rfl⟩ rfl rfl rfl rfl rfl (by kernel_rfl) Tryd.func3 (by kernel_rfl)
    (of_decide_eq_true (by kernel_rfl)) (by unfold Func.isWrapper; first | (rw [if_pos (by decide +kernel)]; kernel_rfl) | (rw [if_neg (by decide +kernel)]; exact ⟨rfl, rfl⟩))
    (fun os started H enc _ => compileExpressions_lifted os started H enc)
theorem compileExpressions_card_holds : Rows.CompileExpressionsCardSaid :=
  Claim7.holds_tied_plain_at .later [] [.widerDeep] true Rows.compileExpressionsCard.stood.harness false
    compileExpressions_holds (fun _ h => by cases h) (by kernel_rfl) (fun _ h => by cases h) compileExpressions_row_tie rfl ⟨rfl, rfl⟩ (by kernel_rfl) rfl
    (fun f fn hf hfn => by
      obtain rfl : f = 3 := Option.some.inj ((show Tryd.prog.funcNamed Rows.compileExpressionsRow.func = some 3 by kernel_rfl).symm.trans hf) |>.symm
      obtain rfl : fn = Tryd.f3 := (Option.some.inj (Tryd.func3.symm.trans hfn)).symm
      exact ⟨by kernel_rfl, fun j t ht => by
        rw [Tryd.params3] at ht
        have hm : t ∈ Tryd.f3.params.toList := by rw [Tryd.params3]; simpa using Array.mem_of_getElem? ht
        have hall : (Tryd.f3.params.toList.all fun u => !Tryd.prog.wantsStandIn u) = true := by kernel_rfl
        exact (show Tryd.prog.wantsStandIn t = false by simpa using List.all_eq_true.1 hall t hm)⟩)
    (by kernel_rfl)
end Go.Proofs.YtfjmlobgjdmecaaDoor
