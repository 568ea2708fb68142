/-
CompileWalks: for all lists of up to 200 instructions that Verify accepts, and all code of expressions made from numbers, every execution, whatever the results of the conditions, takes only what is there, and ends with one value of the type of the code. Condition: the variable types.fields reads as the program's text lays it (the card ties it).
-/
import Derived.Test.YtfjmlobgjdmecaaDoorM5
namespace Go.Proofs.YtfjmlobgjdmecaaDoor
open Go Go.Eng Go.RowKit Go.Proofs Go.ChangeShapes Go.WideShapes Go.Deep
set_option linter.unusedVariables false
theorem buildSSl2 (p q : Option Addr) (l m c d : Nat) (w : World) : (Instr.buildSlice 39 2 #[(0, .slice p l c), (1, .slice q m d)]).run Tryd.prog w = .ok (.slice (some ⟨w.heap.size, 0, none⟩) 2 2) (w.alloc (.cells #[.slice p l c, .slice q m d] 27)) := by kernel_rfl
theorem walksLaw (v lv tv : Value) (raw : List Ins) (l : List Int) (kind : Int) (turns : List Bool) (w : World) (hF : SlV [] w flds fieldNames) (hr : SlV [] w v raw) (hs : SlV [] w lv l) (hl : ∀ a ∈ l, I64 a) (hk : I64 kind) (ht : SlV [] w tv turns) :
    Calls Tryd.prog 5 #[v, lv, .int .i64 kind, tv] w (Ret fun r w' => r = .bool true ∧ Stp [] w w') := by
  have hm := hr.max
  refine calls_of_WC4 (n := 79) Tryd.func5 rfl rfl rfl ?_
  refine W ?_
  have hmin : min (raw.length : Int) 200 = ((min raw.length 200 : Nat) : Int) := by omega
  have hml : min raw.length 200 ≤ raw.length := by omega
  refine WL_slice_h rfl hr rfl hmin hml rfl ?_
  have hx := hr.slc (l := 0) (r := min raw.length 200) (by omega) hml
  rw [List.drop_zero] at hx
  replace hx : SlV [] w (slc v 0 (min raw.length 200) 2) (raw.take (min raw.length 200)) := hx
  generalize slc v 0 (min raw.length 200) 2 = vx at *
  generalize raw.take (min raw.length 200) = cx at *
  refine W ?_
  refine WL_eff (OE_call rfl (evs3 rfl rfl rfl) (Expr_any [] lv l kind 6 6 _ (by decide) (by decide) rfl hk hs hl (by simp))) rfl ?_
  rintro z w1 ⟨y, hz, hsz, -, hS⟩
  refine W ?_
  refine WL_eff (OE_call rfl (evs1 rfl) (Expression_any _ y _ (by omega) hz (hF.up hS))) rfl ?_
  rintro _ w2 ⟨ve, rfl, he, hT⟩
  replace he := he [] (by simp)
  replace hS := hS.trans hT
  replace hx := hx.up hS
  replace ht := ht.up hS
  clear hT hz hr hs
  refine W ?_
  have hgo : ∃ (vy : Value) (cy : List Ins), (if errX y = 0 then ve else vx) = vy ∧ SlV [] w2 vy cy := by
    by_cases h0 : errX y = 0
    · rw [if_pos h0] at he
      exact ⟨ve, exprF y, by rw [if_pos h0], he⟩
    · exact ⟨vx, cx, by rw [if_neg h0], hx⟩
  obtain ⟨vy, cy, hvy, hy⟩ := hgo
  refine WC_cutQ (σ := Unit) (fun _ => [(0, v), (3, tv), (9, vx), (10, vy)]) (fun _ w' => w' = w2) ?_ ?_
  · by_cases h0 : errX y = 0
    · rw [if_pos h0] at hvy
      subst hvy
      repeat' (first | refine W1 ?_ | (exfalso; omega) | refine WL_split rfl rfl (fun hg => ?_) (fun hg => ?_) | refine WL_splitB rfl rfl (fun hg => ?_) (fun hg => ?_) | refine WC_cond rfl (fun hc => ?_) (fun hc => ?_) | refine WC_condB rfl (fun hc => ?_) (fun hc => ?_))
      exact WQ_cut () ⟨rfl, rfl, rfl, rfl, trivial⟩ rfl
    · rw [if_neg h0] at hvy
      subst hvy
      repeat' (first | refine W1 ?_ | (exfalso; omega) | refine WL_split rfl rfl (fun hg => ?_) (fun hg => ?_) | refine WL_splitB rfl rfl (fun hg => ?_) (fun hg => ?_) | refine WC_cond rfl (fun hc => ?_) (fun hc => ?_) | refine WC_condB rfl (fun hc => ?_) (fun hc => ?_))
      exact WQ_cut () ⟨rfl, rfl, rfl, rfl, trivial⟩ rfl
  rintro _ w3 rfl
  clear he hvy
  obtain ⟨px, kx, rfl⟩ := hx.len
  obtain ⟨py, ky, rfl⟩ := hy.len
  refine W ?_
  refine WL_eff (OE_buildSlice (vs := [(0, .slice px cx.length kx), (1, .slice py cy.length ky)]) rfl (buildSSl2 _ _ _ _ _ _)) rfl ?_
  rintro bv w4 hN
  have hb : SlV [] w4 bv [(⟨cx⟩ : Sl Ins), ⟨cy⟩] := hN.slvS (X := []) (by simp) rfl rfl (fun i hi hi' => match i, hi with | 0, _ => hx | 1, _ => hy) (by simp [maxLen])
  have hT := NewSl.stp hN
  clear hN
  replace hS := hS.trans hT
  replace ht := ht.up hT
  clear hT hx hy
  generalize hbl : [(⟨cx⟩ : Sl Ins), ⟨cy⟩] = both at *
  have h2 : both.length = 2 := by rw [← hbl]; rfl
  refine W ?_
  refine WC_loop (σ := Nat) (fun i => [(0, v), (3, tv), (12, bv), (13, .int .i64 (i : Int))]) (fun i w' => i ≤ 2 ∧ Stp [] w4 w') (fun i => 2 - i) 0 ⟨rfl, rfl, rfl, rfl, trivial⟩ ⟨by decide, Stp.refl _ _⟩ ?_
  rintro i w5 ⟨hi, hS5⟩
  try dsimp only at hi ⊢
  replace hb := hb.up hS5
  replace ht := ht.up hS5
  replace hS := hS.trans hS5
  by_cases hlt : i < 2
  case neg =>
    repeat' (first | refine W1 ?_ | (exfalso; omega) | refine WL_split rfl rfl (fun hg => ?_) (fun hg => ?_) | refine WL_splitB rfl rfl (fun hg => ?_) (fun hg => ?_) | refine WC_cond rfl (fun hc => ?_) (fun hc => ?_) | refine WC_condB rfl (fun hc => ?_) (fun hc => ?_))
    refine WL_eff (OE_call rfl evs0 (lives15_any _ (hF.up hS))) rfl ?_
    rintro _ w6 ⟨rfl, hT⟩
    refine W ?_
    first | refine WQ_ret1 rfl rfl ?_ | refine WQ_ret2 rfl rfl rfl ?_ | refine WQ_ret3 rfl rfl rfl rfl ?_ | refine WQ_ret0 rfl ?_ | refine WQ_end0 rfl ?_
    exact .mk ⟨rfl, hS.trans hT⟩
  have hib : i < both.length := by omega
  obtain ⟨u, hcell, hsu⟩ := hb.sub hib
  generalize hcd : both[i].l = code at *
  repeat' (first | refine W1 ?_ | (exfalso; omega) | refine WL_split rfl rfl (fun hg => ?_) (fun hg => ?_) | refine WL_splitB rfl rfl (fun hg => ?_) (fun hg => ?_) | refine WC_cond rfl (fun hc => ?_) (fun hc => ?_) | refine WC_condB rfl (fun hc => ?_) (fun hc => ?_))
  apply WL_pure (PR_load1 rfl rfl hcell) rfl
  refine W ?_
  refine WL_eff (OE_call rfl (evs1 rfl) (Verify_any _ _ _ hsu)) rfl ?_
  rintro _ w6 ⟨rfl, hT⟩
  replace hsu := hsu.up hT
  replace hb := hb.up hT
  replace ht := ht.up hT
  obtain ⟨u', hcell', hsu'⟩ := hb.sub hib
  rw [hcd] at hsu'
  replace hS5 := hS5.trans hT
  replace hS := hS.trans hT
  clear hT
  by_cases hv0 : (verM code).2 = 0
  case neg =>
    repeat' (first | refine W1 ?_ | (exfalso; omega) | refine WL_split rfl rfl (fun hg => ?_) (fun hg => ?_) | refine WL_splitB rfl rfl (fun hg => ?_) (fun hg => ?_) | refine WC_cond rfl (fun hc => ?_) (fun hc => ?_) | refine WC_condB rfl (fun hc => ?_) (fun hc => ?_))
    exact WQ_loop (i + 1) ⟨rfl, rfl, rfl, rfl, trivial⟩ ⟨hlt, hS5⟩ (Nat.sub_lt_sub_left hlt (Nat.lt_succ_self i))
  have hv : verM code = ((verM code).1, 0) := Prod.ext rfl hv0
  generalize (verM code).1 = t at *
  repeat' (first | refine W1 ?_ | (exfalso; omega) | refine WL_split rfl rfl (fun hg => ?_) (fun hg => ?_) | refine WL_splitB rfl rfl (fun hg => ?_) (fun hg => ?_) | refine WC_cond rfl (fun hc => ?_) (fun hc => ?_) | refine WC_condB rfl (fun hc => ?_) (fun hc => ?_))
  apply WL_pure (PR_load1 rfl rfl hcell') rfl
  refine W ?_
  refine WL_eff (OE_call rfl (evs2 rfl rfl) (walk_any u' tv code turns t _ hsu' ht hv)) rfl ?_
  rintro _ w7 ⟨ht3, rfl, hT⟩
  replace hS5 := hS5.trans hT
  replace hS := hS.trans hT
  replace hb := hb.up hT
  replace ht := ht.up hT
  have h13 : 1 ≤ t ∧ t ≤ 3 := by omega
  obtain ⟨q, hq⟩ : ∃ q : Nat, t - 1 = (q : Int) := ⟨(t - 1).toNat, by omega⟩
  have hq3 : q < ([[110], [98], [100]] : List Str).length := by show q < 3; omega
  repeat' (first | refine W1 ?_ | (exfalso; omega) | refine WL_split rfl rfl (fun hg => ?_) (fun hg => ?_) | refine WL_splitB rfl rfl (fun hg => ?_) (fun hg => ?_) | refine WC_cond rfl (fun hc => ?_) (fun hc => ?_) | refine WC_condB rfl (fun hc => ?_) (fun hc => ?_))
  refine WL_eff (OE_buildSlice (vs := [(0, str [110]), (1, str [98]), (2, str [100])]) rfl (buildSS3 _ _ _)) rfl ?_
  rintro nv w8 hN
  have hnv : SlV [] w8 nv ([[110], [98], [100]] : List Str) := hN.slv (by simp) rfl rfl (by simp [maxLen])
  have hT2 := NewSl.stp hN
  clear hN
  replace hS5 := hS5.trans hT2
  replace hS := hS.trans hT2
  have heq : [tyB t] = ([[110], [98], [100]] : List Str)[q] := by
    rcases ht3 with rfl | rfl | rfl
    · obtain rfl : q = 0 := by omega
      rfl
    · obtain rfl : q = 1 := by omega
      rfl
    · obtain rfl : q = 2 := by omega
      rfl
  repeat' (first | refine W1 ?_ | (exfalso; omega) | refine WL_split rfl rfl (fun hg => ?_) (fun hg => ?_) | refine WL_splitB rfl rfl (fun hg => ?_) (fun hg => ?_) | refine WC_cond rfl (fun hc => ?_) (fun hc => ?_) | refine WC_condB rfl (fun hc => ?_) (fun hc => ?_))
  all_goals first
    | exact absurd heq (by assumption)
    | exact WQ_loop (i + 1) ⟨rfl, rfl, rfl, rfl, trivial⟩ ⟨hlt, hS5⟩ (Nat.sub_lt_sub_left hlt (Nat.lt_succ_self i))
set_option maxRecDepth 100000 in
theorem bools_read {H : Type} {enc : TypeId × Value → H} {w : World} {base : Nat} {spare : Nat → Bool} {held : Bool} {r : Reach} {b0 : Nat} {v : Value} {d : DataW H} {p : List MemPlace} (hv : Value.okWide Tryd.prog w r b0 38 v) (h : DataW.Trod enc Tryd.prog w base spare held 38 v d p) :
    ∃ l : List Bool, SlV [] w v l := by
  obtain ⟨fuel, h⟩ := h
  obtain ⟨u, l, hu, hs, -, -⟩ := slv_of_trod (α := Bool) (ok := fun _ => True) Tryd.underlying38 (by kernel_rfl) (by decide) (fun n cs y hl hy => by
    obtain ⟨b, rfl, -⟩ := DataW.trod_bool Tryd.underlying4 hy
    exact ⟨b, rfl, trivial⟩) h
  obtain ⟨a, m, c, rfl⟩ := okWide_slice Tryd.underlying38 hv
  have hu' : Value.slice a m c = u := by simpa [Value.cells] using hu
  subst hu'
  exact ⟨l, hs⟩
theorem compileWalks_spec : LawSpec Rows.compileWalksSpec 4 := ⟨rfl, fun H ds hl => by
  match ds, hl with
  | [d0, d1, d2, d3], _ => exact ⟨rfl, rfl, rfl⟩⟩
theorem compileWalks_met (os : Os) (args : Array Value) : laidMetH Tryd.prog Rows.compileWalksRow.laid ((World.doorLaid Tryd.prog 14 os).forCall (fun _ _ => 0) ⟨#[], args, []⟩).memory :=
  laidMetH_of_parts3 (fuel := 8) (laidMet_of_run' 8 (by kernel_rfl) (by kernel_rfl)) (by kernel_rfl) (by kernel_rfl)
set_option maxRecDepth 100000 in
theorem compileWalks_lifted (os : Os) (started : os.Started) (H : Type) (enc : TypeId × Value → H) :
    ReturnsInHanded {} Tryd.checked os 5 .any (fun w args => (Rows.compileWalksSpec.pre enc Tryd.prog Tryd.f5 [] false w args ∧ laidMetH Tryd.prog Rows.compileWalksRow.laid w) ∧ sizedMet enc Tryd.prog Tryd.f5 (OpenSpec.ofChange Rows.compileWalksSpec) false w args) (Rows.compileWalksSpec.post enc Tryd.prog Tryd.f5 false true false false) := by
  refine ret_and_shaped (C := Tryd.checked) (X := fun w _ => laidMetH Tryd.prog Rows.compileWalksRow.laid w) (fun _ _ _ hh h => h.of_heap hh) law_own started (by kernel_rfl) Tryd.func5
    (ChangeSpec.witness_shaped (enc := enc) (C := Tryd.checked) (os := os) (X := fun w _ => laidMetH Tryd.prog Rows.compileWalksRow.laid w) false (World.doorLaid Tryd.prog 14 os) #[.slice none 0 0, .slice none 0 0, .int .i64 0, .slice none 0 0] 8 rfl (World.shaped_of_RefB (by kernel_rfl) (by kernel_rfl)) (by kernel_rfl) (by kernel_rfl) (by kernel_rfl) (compileWalks_met os _)) ?_
  intro W base args ds gs before hval0 hW hsz0 hL hsh
  have hval : ∀ (j : Nat) t v, Tryd.f5.params[j]? = some t → args[j]? = some v → Value.okWide Tryd.prog W .any base t v := hval0
  refine law_post law_laid (by kernel_rfl) (tb := 4) rfl Tryd.underlying4 compileWalks_spec hW ?_
  obtain ⟨p, q, hA0, hV, _⟩ := hW
  obtain ⟨rfl, rfl⟩ := trodVars_none hV
  have hA : DataW.TrodAll enc Tryd.prog W 0 (fun _ => true) true Tryd.f5.params.toList args.toList ds p := hA0
  have hF : SlV [] W flds fieldNames := flds_of_laid hL
  rw [Tryd.params5] at hA hval
  obtain ⟨v0, v1, v2, v3, d0, d1, d2, d3, p0, p1, p2, p3, rfl, rfl, rfl, h0, h1, h2, h3⟩ := trodAll_four hA
  obtain ⟨raw, hr, -, -⟩ := inss_read (hval 0 _ v0 rfl rfl) h0
  obtain ⟨l, hs, hl, -⟩ := ints_read (hval 1 _ v1 rfl rfl) h1
  obtain ⟨kind, rfl, hk⟩ := open_i64 (hval 2 _ v2 rfl rfl) h2
  obtain ⟨turns, ht⟩ := bools_read (hval 3 _ v3 rfl rfl) h3
  exact walksLaw v0 v1 v3 raw l kind turns W hF hr hs hl hk ht
theorem compileWalks_holds : Rows.CompileWalksSaid :=
  OpenClaim.holds_of_wide 5 Tryd.f5 rfl rfl rfl rfl rfl rfl rfl ⟨rfl, rfl, rfl, rfl, rfl⟩ rfl rfl rfl rfl rfl (by kernel_rfl) Tryd.func5 (by kernel_rfl)
    (of_decide_eq_true (by kernel_rfl)) (by unfold Func.isWrapper; first | (rw [if_pos (by decide +kernel)]; kernel_rfl) | (rw [if_neg (by decide +kernel)]; exact ⟨rfl, rfl⟩))
    (fun os started H enc _ => compileWalks_lifted os started H enc)
theorem compileWalks_card_holds : Rows.CompileWalksCardSaid :=
  Claim7.holds_tied_plain_at .later [] [.widerDeep] true Rows.compileWalksCard.stood.harness false
    compileWalks_holds (fun _ h => by cases h) (by kernel_rfl) (fun _ h => by cases h) compileWalks_row_tie rfl ⟨rfl, rfl⟩ (by kernel_rfl) rfl
    (fun f fn hf hfn => by
      obtain rfl : f = 5 := Option.some.inj ((show Tryd.prog.funcNamed Rows.compileWalksRow.func = some 5 by kernel_rfl).symm.trans hf) |>.symm
      obtain rfl : fn = Tryd.f5 := (Option.some.inj (Tryd.func5.symm.trans hfn)).symm
      exact ⟨by kernel_rfl, fun j t ht => by
        rw [Tryd.params5] at ht
        have hm : t ∈ Tryd.f5.params.toList := by rw [Tryd.params5]; simpa using Array.mem_of_getElem? ht
        have hall : (Tryd.f5.params.toList.all fun u => !Tryd.prog.wantsStandIn u) = true := by kernel_rfl
        exact (show Tryd.prog.wantsStandIn t = false by simpa using List.all_eq_true.1 hall t hm)⟩)
    (by kernel_rfl)
end Go.Proofs.YtfjmlobgjdmecaaDoor
