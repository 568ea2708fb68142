/-
Merged by program out of own texts: Gen4, Gen5, Gen6, Gen7, Rg1, Rt1, Rt2, Rt3, LexM, Lex1, Rt4, Rt5, Rt6, Rt7, Ok1, Eng26, Eng27, Psr9.
-/
import Derived.Test.YtgpibcgebpgmiaaGreatDoorM3
import Derived.Lib.ItoaNum
import Derived.Recover

namespace Go.Proofs.YtgpibcgebpgmiaaGreatDoor
open Go Go.Eng Go.RowKit
set_option linter.unusedVariables false

theorem number_step (d : Nat) (hd1 : 1 ≤ d) (hd2 : d ≤ 6) (ih : 2 ≤ d → GenP 98 (d - 1) ∧ GenP 53 (d - 1) ∧ GenP 54 (d - 1)) : GenP 98 d := by
  intro X w bm lv l i z hz hmk hsl hl hi hX
  subst hz
  have hsz := szD_eq hd1
  have hsp : 2 ≤ d → 1 ≤ szD (d - 1) := fun h => by have := szD_eq (d := d - 1) (by omega); omega
  refine calls_of_WC2 (n := 82) Tryz.func98 rfl rfl rfl ?_
  refine W ?_
  refine WL_eff OE_alloc rfl ?_
  rintro _ w1 ⟨b4, rfl, hb4, hblk4, hS0⟩
  have gm : G (b4 :: bm :: X) w1 w1 bm b4 lv l i := ⟨hmk.up hS0, hsl.up hS0, Stp.refl _ _, ⟨_, rfl, hblk4⟩, fun h => by have := hmk.lt; omega, fun c hc => by
    simp only [List.mem_cons] at hc
    have h1 := hblk4.lt
    have h2 := hmk.lt
    have h3 := hS0.size
    rcases hc with rfl | rfl | hc
    · exact h1
    · omega
    · have := hX c hc; omega⟩
  clear hblk4
  refine W ?_
  refine WL_eff (OE_call rfl (evs2 rfl rfl) (Next_any bm lv l _ 8 _ (by decide) (by omega) gm.mkr gm.sl hl)) rfl ?_
  rintro _ w2 ⟨q, rfl, hq, hm, hS⟩
  replace gm := gm.nxt hm hS
  clear hm hS
  refine W ?_
  refine WC_cutQ (σ := Nat) (fun k => [(0, .pointer (some ⟨bm, 0, none⟩)), (1, .int .i64 (d : Int)), (4, .pointer (some ⟨b4, 0, none⟩)), (5, .int .i64 (k : Int))]) (fun k w' => w' = w2 ∧ k < 8 ∧ (d = 1 → k < 3)) ?_ ?_
  · by_cases h1 : d = 1
    · repeat' (first | refine W1 ?_ | (exfalso; omega) | refine WL_split rfl rfl (fun hg => ?_) (fun hg => ?_) | refine WL_splitB rfl rfl (fun hg => ?_) (fun hg => ?_) | refine WC_cond rfl (fun hc => ?_) (fun hc => ?_) | refine WC_condB rfl (fun hc => ?_) (fun hc => ?_))
      exact WQ_cut (q % 3) ⟨rfl, rfl, rfl, rfl, trivial⟩ ⟨rfl, by omega, fun _ => by omega⟩
    · repeat' (first | refine W1 ?_ | (exfalso; omega) | refine WL_split rfl rfl (fun hg => ?_) (fun hg => ?_) | refine WL_splitB rfl rfl (fun hg => ?_) (fun hg => ?_) | refine WC_cond rfl (fun hc => ?_) (fun hc => ?_) | refine WC_condB rfl (fun hc => ?_) (fun hc => ?_))
      exact WQ_cut q ⟨rfl, rfl, rfl, rfl, trivial⟩ ⟨rfl, by omega, fun h => absurd h h1⟩
  rintro k w3 ⟨rfl, hkn, hk1⟩
  clear hq
  by_cases k0 : k ≤ 1
  · repeat' (first | refine W1 ?_ | (exfalso; omega) | refine WL_split rfl rfl (fun hg => ?_) (fun hg => ?_) | refine WL_splitB rfl rfl (fun hg => ?_) (fun hg => ?_) | refine WC_cond rfl (fun hc => ?_) (fun hc => ?_) | refine WC_condB rfl (fun hc => ?_) (fun hc => ?_))
    all_goals
      refine WL_eff (OE_buildSlice (vs := [(0, .int .i64 1), (1, .int .i64 2), (2, .int .i64 7), (3, .int .i64 14), (4, .int .i64 30), (5, .int .i64 0), (6, .int .i64 60), (7, .int .i64 365)]) rfl (buildSI8 _ _ _ _ _ _ _ _)) rfl ?_
      rintro iv wq hN
      have hws : SlV [bm] wq iv [(1 : Int), 2, 7, 14, 30, 0, 60, 365] := hN.slv (fun c hc => gm.hX c (by simp at hc; subst hc; simp)) rfl rfl (by decide)
      have hT := NewSl.stp hN
      clear hN
      replace gm := gm.up hT
      clear hT
      refine W ?_
      refine WL_eff (OE_call rfl (evs2 rfl rfl) (Next_any bm lv l _ 8 _ (by decide) (by omega) gm.mkr gm.sl hl)) rfl ?_
      rintro _ wq ⟨q', rfl, hq', hm, hS⟩
      replace gm := gm.nxt hm hS
      replace hws := hws.ext hS (by simp) (fun _ h => .inl h)
      clear hm hS
      have hqn : q' < [(1 : Int), 2, 7, 14, 30, 0, 60, 365].length := by show q' < 8; omega
      refine W ?_
      apply WL_build (vs := [(0, .int .i64 1), (1, .int .i64 _)]) rfl (buildN01 _ _) rfl
      have hy : SlV (α := Nd) (b4 :: bm :: X) wq (.slice none 0 0) [] := nilSlv _ _
      obtain ⟨cs, hcl, hcb⟩ := gm.blk
      refine WL_eff0 (OE_storeA (us := ndC (.mk 1 [(1 : Int), 2, 7, 14, 30, 0, 60, 365][q'] [] []) _) rfl rfl rfl rfl (ndC_one (x := (.mk 1 [(1 : Int), 2, 7, 14, 30, 0, 60, 365][q'] [] [])) hy) hcb hcl.symm) ?_
      rintro _ wz ⟨hz, hbz⟩
      refine W ?_
      refine WQ_retc rfl rfl rfl hbz rfl ?_
      have hf := gm.fin (y := (.mk 1 [(1 : Int), 2, 7, 14, 30, 0, 60, 365][q'] [] [])) hS0 hb4 hy hz
      exact .mk ⟨_, _, hf.1, by rw [size0]; omega, ⟨ty0 (lN1 _ hqn), by rw [nest0]; omega⟩, hf.2.1, by omega, hf.2.2⟩
  by_cases k2 : k = 2
  · repeat' (first | refine W1 ?_ | (exfalso; omega) | refine WL_split rfl rfl (fun hg => ?_) (fun hg => ?_) | refine WL_splitB rfl rfl (fun hg => ?_) (fun hg => ?_) | refine WC_cond rfl (fun hc => ?_) (fun hc => ?_) | refine WC_condB rfl (fun hc => ?_) (fun hc => ?_))
    refine WL_eff (OE_call rfl evs0 (Fields_any [bm] _ (fun c hc => gm.hX c (by simp at hc; subst hc; simp)))) rfl ?_
    rintro fv wq ⟨hr, hT⟩
    have hws := hr.slv (fun c hc => gm.hX c (by simp at hc; subst hc; simp))
    replace gm := gm.up hT
    clear hr hT
    refine W ?_
    refine WL_eff (OE_call rfl (evs2 rfl rfl) (Next_any bm lv l _ 5 _ (by decide) (by omega) gm.mkr gm.sl hl)) rfl ?_
    rintro _ wq ⟨q', rfl, hq', hm, hS⟩
    replace gm := gm.nxt hm hS
    replace hws := hws.ext hS (by simp) (fun _ h => .inl h)
    clear hm hS
    have hqn : 2 + q' < fieldNames.length := by show 2 + q' < 7; omega
    refine W ?_
    apply WL_build (vs := [(0, .int .i64 4), (2, str _)]) rfl (buildN02 _ _) rfl
    have hy : SlV (α := Nd) (b4 :: bm :: X) wq (.slice none 0 0) [] := nilSlv _ _
    obtain ⟨cs, hcl, hcb⟩ := gm.blk
    refine WL_eff0 (OE_storeA (us := ndC (.mk 4 0 fieldNames[2 + q'] []) _) rfl rfl rfl rfl (ndC_one (x := (.mk 4 0 fieldNames[2 + q'] [])) hy) hcb hcl.symm) ?_
    rintro _ wz ⟨hz, hbz⟩
    refine W ?_
    refine WQ_retc rfl rfl rfl hbz rfl ?_
    have hf := gm.fin (y := (.mk 4 0 fieldNames[2 + q'] [])) hS0 hb4 hy hz
    exact .mk ⟨_, _, hf.1, by rw [size0]; omega, ⟨ty0 (lF1 _ (by omega) hqn), by rw [nest0]; omega⟩, hf.2.1, by omega, hf.2.2⟩
  by_cases k3 : k = 3
  · have h2 : 2 ≤ d := by omega
    replace ih := ih h2
    replace hsp := hsp h2
    repeat' (first | refine W1 ?_ | (exfalso; omega) | refine WL_split rfl rfl (fun hg => ?_) (fun hg => ?_) | refine WL_splitB rfl rfl (fun hg => ?_) (fun hg => ?_) | refine WC_cond rfl (fun hc => ?_) (fun hc => ?_) | refine WC_condB rfl (fun hc => ?_) (fun hc => ?_))
    refine W ?_
    refine WL_eff (OE_call rfl (evs2 rfl rfl) ((ih.1) (b4 :: bm :: X) _ bm lv l _ _ (by omega) gm.mkr gm.sl hl (by omega) gm.hX)) rfl ?_
    rintro _ wq ⟨y0, i0, ⟨k0, rfl, s0⟩, z0, ⟨ty0, ne0⟩, hm, hi0, hS⟩
    obtain ⟨p0, c0, rfl, -⟩ := id s0
    replace gm := gm.nxt hm hS
    clear hm hS
    refine W ?_
    refine WL_eff (OE_buildSlice (vs := [(0, .agg #[.int .i64 y0.kind, .int .i64 y0.num, str y0.word, .slice p0 y0.kids.length c0])]) rfl (buildSN1 _ _ _ _ _ _)) rfl ?_
    rintro bv wq hN
    have hbv : SlV (b4 :: bm :: X) wq bv [y0] := hN.slvG (css := [ndC y0 _]) gm.hX rfl rfl rfl (reps1 s0) (by simp [maxLen])
    have hT := NewSl.stp hN
    clear hN
    replace gm := gm.up hT
    clear hT
    refine W ?_
    refine WL_eff (OE_call rfl (evs3 rfl rfl rfl) (node14_any (b4 :: bm :: X) 5 [45] bv [y0] _ gm.hX hbv)) rfl ?_
    rintro _ wq ⟨⟨ky, rfl, hy⟩, hT⟩
    replace gm := gm.up hT
    clear hT hbv
    refine W ?_
    obtain ⟨cs, hcl, hcb⟩ := gm.blk
    refine WL_eff0 (OE_storeA (us := ndC (.mk 5 0 [45] [y0]) _) rfl rfl rfl rfl (ndC_one (x := (.mk 5 0 [45] [y0])) hy) hcb hcl.symm) ?_
    rintro _ wz ⟨hz, hbz⟩
    refine W ?_
    refine WQ_retc rfl rfl rfl hbz rfl ?_
    have hf := gm.fin (y := (.mk 5 0 [45] [y0])) hS0 hb4 hy hz
    exact .mk ⟨_, _, hf.1, by rw [size1]; omega, ⟨ty1 ty0 (rfl), by rw [nest1]; omega⟩, hf.2.1, by omega, hf.2.2⟩
  by_cases k4 : k = 4
  · have h2 : 2 ≤ d := by omega
    replace ih := ih h2
    replace hsp := hsp h2
    repeat' (first | refine W1 ?_ | (exfalso; omega) | refine WL_split rfl rfl (fun hg => ?_) (fun hg => ?_) | refine WL_splitB rfl rfl (fun hg => ?_) (fun hg => ?_) | refine WC_cond rfl (fun hc => ?_) (fun hc => ?_) | refine WC_condB rfl (fun hc => ?_) (fun hc => ?_))
    refine W ?_
    refine WL_eff (OE_call rfl (evs2 rfl rfl) ((ih.2.2) (b4 :: bm :: X) _ bm lv l _ _ (by omega) gm.mkr gm.sl hl (by omega) gm.hX)) rfl ?_
    rintro _ wq ⟨y0, i0, ⟨k0, rfl, s0⟩, z0, ⟨ty0, ne0⟩, hm, hi0, hS⟩
    obtain ⟨p0, c0, rfl, -⟩ := id s0
    replace gm := gm.nxt hm hS
    clear hm hS
    refine W ?_
    refine WL_eff (OE_call rfl (evs2 rfl rfl) ((ih.2.2) (b4 :: bm :: X) _ bm lv l _ _ (by omega) gm.mkr gm.sl hl (by omega) gm.hX)) rfl ?_
    rintro _ wq ⟨y1, i1, ⟨k1, rfl, s1⟩, z1, ⟨ty1, ne1⟩, hm, hi1, hS⟩
    obtain ⟨p1, c1, rfl, -⟩ := id s1
    replace gm := gm.nxt hm hS
    replace s0 := s0.ext hS (by simp) (fun _ h => .inl h)
    clear hm hS
    refine W ?_
    refine WL_eff (OE_buildSlice (vs := [(0, .agg #[.int .i64 y0.kind, .int .i64 y0.num, str y0.word, .slice p0 y0.kids.length c0]), (1, .agg #[.int .i64 y1.kind, .int .i64 y1.num, str y1.word, .slice p1 y1.kids.length c1])]) rfl (buildSN2 _ _ _ _ _ _ _ _ _ _ _ _)) rfl ?_
    rintro bv wq hN
    have hbv : SlV (b4 :: bm :: X) wq bv [y0, y1] := hN.slvG (css := [ndC y0 _, ndC y1 _]) gm.hX rfl rfl rfl (reps2 s0 s1) (by simp [maxLen])
    have hT := NewSl.stp hN
    clear hN
    replace gm := gm.up hT
    clear hT
    refine W ?_
    refine WL_eff (OE_call rfl (evs3 rfl rfl rfl) (node14_any (b4 :: bm :: X) 10 [98, 101, 116, 119, 101, 101, 110] bv [y0, y1] _ gm.hX hbv)) rfl ?_
    rintro _ wq ⟨⟨ky, rfl, hy⟩, hT⟩
    replace gm := gm.up hT
    clear hT hbv
    refine W ?_
    obtain ⟨cs, hcl, hcb⟩ := gm.blk
    refine WL_eff0 (OE_storeA (us := ndC (.mk 10 0 [98, 101, 116, 119, 101, 101, 110] [y0, y1]) _) rfl rfl rfl rfl (ndC_one (x := (.mk 10 0 [98, 101, 116, 119, 101, 101, 110] [y0, y1])) hy) hcb hcl.symm) ?_
    rintro _ wz ⟨hz, hbz⟩
    refine W ?_
    refine WQ_retc rfl rfl rfl hbz rfl ?_
    have hf := gm.fin (y := (.mk 10 0 [98, 101, 116, 119, 101, 101, 110] [y0, y1])) hS0 hb4 hy hz
    exact .mk ⟨_, _, hf.1, by rw [size2]; omega, ⟨ty2 ty0 ty1 (rfl), by rw [nest2]; omega⟩, hf.2.1, by omega, hf.2.2⟩
  by_cases k5 : k = 5
  · have h2 : 2 ≤ d := by omega
    replace ih := ih h2
    replace hsp := hsp h2
    repeat' (first | refine W1 ?_ | (exfalso; omega) | refine WL_split rfl rfl (fun hg => ?_) (fun hg => ?_) | refine WL_splitB rfl rfl (fun hg => ?_) (fun hg => ?_) | refine WC_cond rfl (fun hc => ?_) (fun hc => ?_) | refine WC_condB rfl (fun hc => ?_) (fun hc => ?_))
    refine W ?_
    refine WL_eff (OE_call rfl (evs2 rfl rfl) ((ih.2.1) (b4 :: bm :: X) _ bm lv l _ _ (by omega) gm.mkr gm.sl hl (by omega) gm.hX)) rfl ?_
    rintro _ wq ⟨y0, i0, ⟨k0, rfl, s0⟩, z0, ⟨ty0, ne0⟩, hm, hi0, hS⟩
    obtain ⟨p0, c0, rfl, -⟩ := id s0
    replace gm := gm.nxt hm hS
    clear hm hS
    refine W ?_
    refine WL_eff (OE_call rfl (evs2 rfl rfl) ((ih.1) (b4 :: bm :: X) _ bm lv l _ _ (by omega) gm.mkr gm.sl hl (by omega) gm.hX)) rfl ?_
    rintro _ wq ⟨y1, i1, ⟨k1, rfl, s1⟩, z1, ⟨ty1, ne1⟩, hm, hi1, hS⟩
    obtain ⟨p1, c1, rfl, -⟩ := id s1
    replace gm := gm.nxt hm hS
    replace s0 := s0.ext hS (by simp) (fun _ h => .inl h)
    clear hm hS
    refine W ?_
    refine WL_eff (OE_call rfl (evs2 rfl rfl) ((ih.1) (b4 :: bm :: X) _ bm lv l _ _ (by omega) gm.mkr gm.sl hl (by omega) gm.hX)) rfl ?_
    rintro _ wq ⟨y2, i2, ⟨k2, rfl, s2⟩, z2, ⟨ty2, ne2⟩, hm, hi2, hS⟩
    obtain ⟨p2, c2, rfl, -⟩ := id s2
    replace gm := gm.nxt hm hS
    replace s0 := s0.ext hS (by simp) (fun _ h => .inl h)
    replace s1 := s1.ext hS (by simp) (fun _ h => .inl h)
    clear hm hS
    refine W ?_
    refine WL_eff (OE_buildSlice (vs := [(0, .agg #[.int .i64 y0.kind, .int .i64 y0.num, str y0.word, .slice p0 y0.kids.length c0]), (1, .agg #[.int .i64 y1.kind, .int .i64 y1.num, str y1.word, .slice p1 y1.kids.length c1]), (2, .agg #[.int .i64 y2.kind, .int .i64 y2.num, str y2.word, .slice p2 y2.kids.length c2])]) rfl (buildSN3 _ _ _ _ _ _ _ _ _ _ _ _ _ _ _ _ _ _)) rfl ?_
    rintro bv wq hN
    have hbv : SlV (b4 :: bm :: X) wq bv [y0, y1, y2] := hN.slvG (css := [ndC y0 _, ndC y1 _, ndC y2 _]) gm.hX rfl rfl rfl (reps3 s0 s1 s2) (by simp [maxLen])
    have hT := NewSl.stp hN
    clear hN
    replace gm := gm.up hT
    clear hT
    refine W ?_
    refine WL_eff (OE_call rfl (evs3 rfl rfl rfl) (node14_any (b4 :: bm :: X) 9 [] bv [y0, y1, y2] _ gm.hX hbv)) rfl ?_
    rintro _ wq ⟨⟨ky, rfl, hy⟩, hT⟩
    replace gm := gm.up hT
    clear hT hbv
    refine W ?_
    obtain ⟨cs, hcl, hcb⟩ := gm.blk
    refine WL_eff0 (OE_storeA (us := ndC (.mk 9 0 [] [y0, y1, y2]) _) rfl rfl rfl rfl (ndC_one (x := (.mk 9 0 [] [y0, y1, y2])) hy) hcb hcl.symm) ?_
    rintro _ wz ⟨hz, hbz⟩
    refine W ?_
    refine WQ_retc rfl rfl rfl hbz rfl ?_
    have hf := gm.fin (y := (.mk 9 0 [] [y0, y1, y2])) hS0 hb4 hy hz
    exact .mk ⟨_, _, hf.1, by rw [size3]; omega, ⟨ty3 ty0 ty1 ty2 (rfl), by rw [nest3]; omega⟩, hf.2.1, by omega, hf.2.2⟩
  have h2 : 2 ≤ d := by omega
  replace ih := ih h2
  replace hsp := hsp h2
  repeat' (first | refine W1 ?_ | (exfalso; omega) | refine WL_split rfl rfl (fun hg => ?_) (fun hg => ?_) | refine WL_splitB rfl rfl (fun hg => ?_) (fun hg => ?_) | refine WC_cond rfl (fun hc => ?_) (fun hc => ?_) | refine WC_condB rfl (fun hc => ?_) (fun hc => ?_))
  refine WC_drawn 16 ([b4, bm]) [] [(1, 0), (5, 0), (6, 0), (7, 0), (9, 0), (10, 0), (11, 0), (0, 2), (2, 2), (3, 0), (4, 1), (8, 2), (12, 2), (13, 2), (14, 2), (15, 2)] rfl mixed (by kernel_rfl) (by kernel_rfl) (by kernel_rfl) (fun w1 hS1 => ?_)
  replace gm := gm.up hS1
  refine D ?_
  refine WD_eff rfl trivial (OE_call rfl (evs1 rfl) (words_any [b4, bm] [43, 32, 45, 32, 42] _ (fun c hc => gm.hX c (by simp at hc; rcases hc with rfl | rfl <;> simp)) (by decide))) (fun _ _ h => h.2.mono (by simp)) rfl ?_
  rintro wv wq ⟨hr, hT⟩
  rw [show wordsOf [43, 32, 45, 32, 42] = opsA by decide] at hr
  have hws := hr.slv (fun c hc => gm.hX c (by simp at hc; rcases hc with rfl | rfl <;> simp))
  replace gm := gm.up hT
  clear hr hT
  refine D ?_
  refine WD_eff rfl trivial (OE_call rfl (evs2 rfl rfl) (Next_any bm lv l _ 3 _ (by decide) (by omega) gm.mkr gm.sl hl)) (fun _ _ h => h.choose_spec.2.2.2.mono (by simp)) rfl ?_
  rintro _ wq ⟨q, rfl, hq, hm, hS⟩
  replace gm := gm.nxt hm hS
  replace hws := hws.ext hS (by simp) (fun _ h => .inl h)
  clear hm hS
  have hqn : q < opsA.length := by show q < 3; omega
  refine D ?_
  refine WD_eff rfl trivial (OE_call rfl (evs2 rfl rfl) ((ih.1) (b4 :: bm :: X) _ bm lv l _ _ (by omega) gm.mkr gm.sl hl (by omega) gm.hX)) (fun _ _ h => by obtain ⟨_, _, _, _, _, _, _, h⟩ := h; exact h.mono (by simp)) rfl ?_
  rintro _ wq ⟨y0, i0, ⟨k0, rfl, s0⟩, z0, ⟨ty0, ne0⟩, hm, hi0, hS⟩
  obtain ⟨p0, c0, rfl, -⟩ := id s0
  replace gm := gm.nxt hm hS
  replace hws := hws.ext hS (by simp) (fun _ h => .inl h)
  clear hm hS
  refine D ?_
  refine WD_eff rfl trivial (OE_call rfl (evs2 rfl rfl) ((ih.1) (b4 :: bm :: X) _ bm lv l _ _ (by omega) gm.mkr gm.sl hl (by omega) gm.hX)) (fun _ _ h => by obtain ⟨_, _, _, _, _, _, _, h⟩ := h; exact h.mono (by simp)) rfl ?_
  rintro _ wq ⟨y1, i1, ⟨k1, rfl, s1⟩, z1, ⟨ty1, ne1⟩, hm, hi1, hS⟩
  obtain ⟨p1, c1, rfl, -⟩ := id s1
  replace gm := gm.nxt hm hS
  replace hws := hws.ext hS (by simp) (fun _ h => .inl h)
  replace s0 := s0.ext hS (by simp) (fun _ h => .inl h)
  clear hm hS
  refine D ?_
  refine WD_eff rfl trivial (OE_buildSlice (vs := [(0, .agg #[.int .i64 y0.kind, .int .i64 y0.num, str y0.word, .slice p0 y0.kids.length c0]), (1, .agg #[.int .i64 y1.kind, .int .i64 y1.num, str y1.word, .slice p1 y1.kids.length c1])]) rfl (buildSN2 _ _ _ _ _ _ _ _ _ _ _ _)) (fun _ _ h => (NewSl.stp h).mono (by simp)) rfl ?_
  rintro bv wq hN
  have hbv : SlV (b4 :: bm :: X) wq bv [y0, y1] := hN.slvG (css := [ndC y0 _, ndC y1 _]) gm.hX rfl rfl rfl (reps2 s0 s1) (by simp [maxLen])
  have hT := NewSl.stp hN
  clear hN
  replace gm := gm.up hT
  replace hws := hws.up hT
  clear hT
  refine D ?_
  refine WD_eff rfl trivial (OE_call rfl (evs3 rfl rfl rfl) (node14_any (b4 :: bm :: X) 6 opsA[q] bv [y0, y1] _ gm.hX hbv)) (fun _ _ h => h.2.mono (by simp)) rfl ?_
  rintro _ wq ⟨⟨ky, rfl, hy⟩, hT⟩
  replace gm := gm.up hT
  clear hT hbv
  refine D ?_
  obtain ⟨cs, hcl, hcb⟩ := gm.blk
  refine WD_eff0 rfl trivial (OE_storeA (us := ndC (.mk 6 0 opsA[q] [y0, y1]) _) rfl rfl rfl rfl (ndC_one (x := (.mk 6 0 opsA[q] [y0, y1])) hy) hcb hcl.symm) (fun _ _ h => h.1.mono (by simp)) ?_
  rintro _ wz ⟨hz, hbz⟩
  refine D ?_
  refine W ?_
  refine WQ_retc rfl rfl rfl hbz rfl ?_
  have hf := gm.fin (y := (.mk 6 0 opsA[q] [y0, y1])) hS0 hb4 hy hz
  exact .mk ⟨_, _, hf.1, by rw [size2]; omega, ⟨ty2 ty0 ty1 (tA _ hqn), by rw [nest2]; omega⟩, hf.2.1, by omega, hf.2.2⟩
end Go.Proofs.YtgpibcgebpgmiaaGreatDoor


namespace Go.Proofs.YtgpibcgebpgmiaaGreatDoor
open Go Go.Eng Go.RowKit
set_option linter.unusedVariables false

theorem boolean_step (d : Nat) (hd1 : 1 ≤ d) (hd2 : d ≤ 6) (ih : 2 ≤ d → GenP 98 (d - 1) ∧ GenP 53 (d - 1) ∧ GenP 54 (d - 1)) : GenP 53 d := by
  intro X w bm lv l i z hz hmk hsl hl hi hX
  subst hz
  have hsz := szD_eq hd1
  have hsp : 2 ≤ d → 1 ≤ szD (d - 1) := fun h => by have := szD_eq (d := d - 1) (by omega); omega
  refine calls_of_WC2 (n := 89) Tryz.func53 rfl rfl rfl ?_
  refine W ?_
  refine WL_eff OE_alloc rfl ?_
  rintro _ w1 ⟨b4, rfl, hb4, hblk4, hS0⟩
  have gm : G (b4 :: bm :: X) w1 w1 bm b4 lv l i := ⟨hmk.up hS0, hsl.up hS0, Stp.refl _ _, ⟨_, rfl, hblk4⟩, fun h => by have := hmk.lt; omega, fun c hc => by
    simp only [List.mem_cons] at hc
    have h1 := hblk4.lt
    have h2 := hmk.lt
    have h3 := hS0.size
    rcases hc with rfl | rfl | hc
    · exact h1
    · omega
    · have := hX c hc; omega⟩
  clear hblk4
  refine W ?_
  refine WL_eff (OE_call rfl (evs2 rfl rfl) (Next_any bm lv l _ 7 _ (by decide) (by omega) gm.mkr gm.sl hl)) rfl ?_
  rintro _ w2 ⟨q, rfl, hq, hm, hS⟩
  replace gm := gm.nxt hm hS
  clear hm hS
  refine W ?_
  refine WC_cutQ (σ := Nat) (fun k => [(0, .pointer (some ⟨bm, 0, none⟩)), (1, .int .i64 (d : Int)), (4, .pointer (some ⟨b4, 0, none⟩)), (5, .int .i64 (k : Int))]) (fun k w' => w' = w2 ∧ k < 7 ∧ (d = 1 → k = 0)) ?_ ?_
  · by_cases h1 : d = 1
    · repeat' (first | refine W1 ?_ | (exfalso; omega) | refine WL_split rfl rfl (fun hg => ?_) (fun hg => ?_) | refine WL_splitB rfl rfl (fun hg => ?_) (fun hg => ?_) | refine WC_cond rfl (fun hc => ?_) (fun hc => ?_) | refine WC_condB rfl (fun hc => ?_) (fun hc => ?_))
      exact WQ_cut 0 ⟨rfl, rfl, rfl, rfl, trivial⟩ ⟨rfl, by omega, fun _ => by omega⟩
    · repeat' (first | refine W1 ?_ | (exfalso; omega) | refine WL_split rfl rfl (fun hg => ?_) (fun hg => ?_) | refine WL_splitB rfl rfl (fun hg => ?_) (fun hg => ?_) | refine WC_cond rfl (fun hc => ?_) (fun hc => ?_) | refine WC_condB rfl (fun hc => ?_) (fun hc => ?_))
      exact WQ_cut q ⟨rfl, rfl, rfl, rfl, trivial⟩ ⟨rfl, by omega, fun h => absurd h h1⟩
  rintro k w3 ⟨rfl, hkn, hk1⟩
  clear hq
  by_cases k0 : k = 0
  · repeat' (first | refine W1 ?_ | (exfalso; omega) | refine WL_split rfl rfl (fun hg => ?_) (fun hg => ?_) | refine WL_splitB rfl rfl (fun hg => ?_) (fun hg => ?_) | refine WC_cond rfl (fun hc => ?_) (fun hc => ?_) | refine WC_condB rfl (fun hc => ?_) (fun hc => ?_))
    refine W ?_
    refine WL_eff (OE_call rfl (evs2 rfl rfl) (Next_any bm lv l _ 2 _ (by decide) (by omega) gm.mkr gm.sl hl)) rfl ?_
    rintro _ wq ⟨q', rfl, hq', hm, hS⟩
    replace gm := gm.nxt hm hS
    clear hm hS
    refine W ?_
    apply WL_build (vs := [(0, .int .i64 2), (1, .int .i64 _)]) rfl (buildN01 _ _) rfl
    have hy : SlV (α := Nd) (b4 :: bm :: X) wq (.slice none 0 0) [] := nilSlv _ _
    obtain ⟨cs, hcl, hcb⟩ := gm.blk
    refine WL_eff0 (OE_storeA (us := ndC (.mk 2 (q' : Int) [] []) _) rfl rfl rfl rfl (ndC_one (x := (.mk 2 (q' : Int) [] [])) hy) hcb hcl.symm) ?_
    rintro _ wz ⟨hz, hbz⟩
    refine W ?_
    refine WQ_retc rfl rfl rfl hbz rfl ?_
    have hf := gm.fin (y := (.mk 2 (q' : Int) [] [])) hS0 hb4 hy hz
    exact .mk ⟨_, _, hf.1, by rw [size0]; omega, ⟨ty0 (lB2 _ (by omega)), by rw [nest0]; omega⟩, hf.2.1, by omega, hf.2.2⟩
  by_cases k1 : k = 1
  · have h2 : 2 ≤ d := by omega
    replace ih := ih h2
    replace hsp := hsp h2
    repeat' (first | refine W1 ?_ | (exfalso; omega) | refine WL_split rfl rfl (fun hg => ?_) (fun hg => ?_) | refine WL_splitB rfl rfl (fun hg => ?_) (fun hg => ?_) | refine WC_cond rfl (fun hc => ?_) (fun hc => ?_) | refine WC_condB rfl (fun hc => ?_) (fun hc => ?_))
    refine W ?_
    refine WL_eff (OE_call rfl (evs2 rfl rfl) ((ih.2.1) (b4 :: bm :: X) _ bm lv l _ _ (by omega) gm.mkr gm.sl hl (by omega) gm.hX)) rfl ?_
    rintro _ wq ⟨y0, i0, ⟨k0, rfl, s0⟩, z0, ⟨ty0, ne0⟩, hm, hi0, hS⟩
    obtain ⟨p0, c0, rfl, -⟩ := id s0
    replace gm := gm.nxt hm hS
    clear hm hS
    refine W ?_
    refine WL_eff (OE_buildSlice (vs := [(0, .agg #[.int .i64 y0.kind, .int .i64 y0.num, str y0.word, .slice p0 y0.kids.length c0])]) rfl (buildSN1 _ _ _ _ _ _)) rfl ?_
    rintro bv wq hN
    have hbv : SlV (b4 :: bm :: X) wq bv [y0] := hN.slvG (css := [ndC y0 _]) gm.hX rfl rfl rfl (reps1 s0) (by simp [maxLen])
    have hT := NewSl.stp hN
    clear hN
    replace gm := gm.up hT
    clear hT
    refine W ?_
    refine WL_eff (OE_call rfl (evs3 rfl rfl rfl) (node14_any (b4 :: bm :: X) 5 [110, 111, 116] bv [y0] _ gm.hX hbv)) rfl ?_
    rintro _ wq ⟨⟨ky, rfl, hy⟩, hT⟩
    replace gm := gm.up hT
    clear hT hbv
    refine W ?_
    obtain ⟨cs, hcl, hcb⟩ := gm.blk
    refine WL_eff0 (OE_storeA (us := ndC (.mk 5 0 [110, 111, 116] [y0]) _) rfl rfl rfl rfl (ndC_one (x := (.mk 5 0 [110, 111, 116] [y0])) hy) hcb hcl.symm) ?_
    rintro _ wz ⟨hz, hbz⟩
    refine W ?_
    refine WQ_retc rfl rfl rfl hbz rfl ?_
    have hf := gm.fin (y := (.mk 5 0 [110, 111, 116] [y0])) hS0 hb4 hy hz
    exact .mk ⟨_, _, hf.1, by rw [size1]; omega, ⟨ty1 ty0 (rfl), by rw [nest1]; omega⟩, hf.2.1, by omega, hf.2.2⟩
  by_cases k2 : k = 2
  · have h2 : 2 ≤ d := by omega
    replace ih := ih h2
    replace hsp := hsp h2
    repeat' (first | refine W1 ?_ | (exfalso; omega) | refine WL_split rfl rfl (fun hg => ?_) (fun hg => ?_) | refine WL_splitB rfl rfl (fun hg => ?_) (fun hg => ?_) | refine WC_cond rfl (fun hc => ?_) (fun hc => ?_) | refine WC_condB rfl (fun hc => ?_) (fun hc => ?_))
    refine WC_drawn 16 ([b4, bm]) [] [(1, 0), (5, 0), (6, 0), (7, 0), (9, 0), (10, 0), (11, 0), (0, 2), (2, 2), (3, 0), (4, 1), (8, 2), (12, 2), (13, 2), (14, 2), (15, 2)] rfl mixed (by kernel_rfl) (by kernel_rfl) (by kernel_rfl) (fun w1 hS1 => ?_)
    replace gm := gm.up hS1
    refine D ?_
    refine WD_eff rfl trivial (OE_call rfl (evs1 rfl) (words_any [b4, bm] [97, 110, 100, 32, 111, 114] _ (fun c hc => gm.hX c (by simp at hc; rcases hc with rfl | rfl <;> simp)) (by decide))) (fun _ _ h => h.2.mono (by simp)) rfl ?_
    rintro wv wq ⟨hr, hT⟩
    rw [show wordsOf [97, 110, 100, 32, 111, 114] = opsL by decide] at hr
    have hws := hr.slv (fun c hc => gm.hX c (by simp at hc; rcases hc with rfl | rfl <;> simp))
    replace gm := gm.up hT
    clear hr hT
    refine D ?_
    refine WD_eff rfl trivial (OE_call rfl (evs2 rfl rfl) (Next_any bm lv l _ 2 _ (by decide) (by omega) gm.mkr gm.sl hl)) (fun _ _ h => h.choose_spec.2.2.2.mono (by simp)) rfl ?_
    rintro _ wq ⟨q, rfl, hq, hm, hS⟩
    replace gm := gm.nxt hm hS
    replace hws := hws.ext hS (by simp) (fun _ h => .inl h)
    clear hm hS
    have hqn : q < opsL.length := by show q < 2; omega
    refine D ?_
    refine WD_eff rfl trivial (OE_call rfl (evs2 rfl rfl) ((ih.2.1) (b4 :: bm :: X) _ bm lv l _ _ (by omega) gm.mkr gm.sl hl (by omega) gm.hX)) (fun _ _ h => by obtain ⟨_, _, _, _, _, _, _, h⟩ := h; exact h.mono (by simp)) rfl ?_
    rintro _ wq ⟨y0, i0, ⟨k0, rfl, s0⟩, z0, ⟨ty0, ne0⟩, hm, hi0, hS⟩
    obtain ⟨p0, c0, rfl, -⟩ := id s0
    replace gm := gm.nxt hm hS
    replace hws := hws.ext hS (by simp) (fun _ h => .inl h)
    clear hm hS
    refine D ?_
    refine WD_eff rfl trivial (OE_call rfl (evs2 rfl rfl) ((ih.2.1) (b4 :: bm :: X) _ bm lv l _ _ (by omega) gm.mkr gm.sl hl (by omega) gm.hX)) (fun _ _ h => by obtain ⟨_, _, _, _, _, _, _, h⟩ := h; exact h.mono (by simp)) rfl ?_
    rintro _ wq ⟨y1, i1, ⟨k1, rfl, s1⟩, z1, ⟨ty1, ne1⟩, hm, hi1, hS⟩
    obtain ⟨p1, c1, rfl, -⟩ := id s1
    replace gm := gm.nxt hm hS
    replace hws := hws.ext hS (by simp) (fun _ h => .inl h)
    replace s0 := s0.ext hS (by simp) (fun _ h => .inl h)
    clear hm hS
    refine D ?_
    refine WD_eff rfl trivial (OE_buildSlice (vs := [(0, .agg #[.int .i64 y0.kind, .int .i64 y0.num, str y0.word, .slice p0 y0.kids.length c0]), (1, .agg #[.int .i64 y1.kind, .int .i64 y1.num, str y1.word, .slice p1 y1.kids.length c1])]) rfl (buildSN2 _ _ _ _ _ _ _ _ _ _ _ _)) (fun _ _ h => (NewSl.stp h).mono (by simp)) rfl ?_
    rintro bv wq hN
    have hbv : SlV (b4 :: bm :: X) wq bv [y0, y1] := hN.slvG (css := [ndC y0 _, ndC y1 _]) gm.hX rfl rfl rfl (reps2 s0 s1) (by simp [maxLen])
    have hT := NewSl.stp hN
    clear hN
    replace gm := gm.up hT
    replace hws := hws.up hT
    clear hT
    refine D ?_
    refine WD_eff rfl trivial (OE_call rfl (evs3 rfl rfl rfl) (node14_any (b4 :: bm :: X) 6 opsL[q] bv [y0, y1] _ gm.hX hbv)) (fun _ _ h => h.2.mono (by simp)) rfl ?_
    rintro _ wq ⟨⟨ky, rfl, hy⟩, hT⟩
    replace gm := gm.up hT
    clear hT hbv
    refine D ?_
    obtain ⟨cs, hcl, hcb⟩ := gm.blk
    refine WD_eff0 rfl trivial (OE_storeA (us := ndC (.mk 6 0 opsL[q] [y0, y1]) _) rfl rfl rfl rfl (ndC_one (x := (.mk 6 0 opsL[q] [y0, y1])) hy) hcb hcl.symm) (fun _ _ h => h.1.mono (by simp)) ?_
    rintro _ wz ⟨hz, hbz⟩
    refine D ?_
    refine W ?_
    refine WQ_retc rfl rfl rfl hbz rfl ?_
    have hf := gm.fin (y := (.mk 6 0 opsL[q] [y0, y1])) hS0 hb4 hy hz
    exact .mk ⟨_, _, hf.1, by rw [size2]; omega, ⟨ty2 ty0 ty1 (tL _ hqn), by rw [nest2]; omega⟩, hf.2.1, by omega, hf.2.2⟩
  by_cases k3 : k = 3
  · have h2 : 2 ≤ d := by omega
    replace ih := ih h2
    replace hsp := hsp h2
    repeat' (first | refine W1 ?_ | (exfalso; omega) | refine WL_split rfl rfl (fun hg => ?_) (fun hg => ?_) | refine WL_splitB rfl rfl (fun hg => ?_) (fun hg => ?_) | refine WC_cond rfl (fun hc => ?_) (fun hc => ?_) | refine WC_condB rfl (fun hc => ?_) (fun hc => ?_))
    refine W ?_
    refine WL_eff (OE_call rfl (evs2 rfl rfl) ((ih.2.1) (b4 :: bm :: X) _ bm lv l _ _ (by omega) gm.mkr gm.sl hl (by omega) gm.hX)) rfl ?_
    rintro _ wq ⟨y0, i0, ⟨k0, rfl, s0⟩, z0, ⟨ty0, ne0⟩, hm, hi0, hS⟩
    obtain ⟨p0, c0, rfl, -⟩ := id s0
    replace gm := gm.nxt hm hS
    clear hm hS
    refine W ?_
    refine WL_eff (OE_call rfl (evs2 rfl rfl) ((ih.2.1) (b4 :: bm :: X) _ bm lv l _ _ (by omega) gm.mkr gm.sl hl (by omega) gm.hX)) rfl ?_
    rintro _ wq ⟨y1, i1, ⟨k1, rfl, s1⟩, z1, ⟨ty1, ne1⟩, hm, hi1, hS⟩
    obtain ⟨p1, c1, rfl, -⟩ := id s1
    replace gm := gm.nxt hm hS
    replace s0 := s0.ext hS (by simp) (fun _ h => .inl h)
    clear hm hS
    refine W ?_
    refine WL_eff (OE_call rfl (evs2 rfl rfl) ((ih.2.1) (b4 :: bm :: X) _ bm lv l _ _ (by omega) gm.mkr gm.sl hl (by omega) gm.hX)) rfl ?_
    rintro _ wq ⟨y2, i2, ⟨k2, rfl, s2⟩, z2, ⟨ty2, ne2⟩, hm, hi2, hS⟩
    obtain ⟨p2, c2, rfl, -⟩ := id s2
    replace gm := gm.nxt hm hS
    replace s0 := s0.ext hS (by simp) (fun _ h => .inl h)
    replace s1 := s1.ext hS (by simp) (fun _ h => .inl h)
    clear hm hS
    refine W ?_
    refine WL_eff (OE_buildSlice (vs := [(0, .agg #[.int .i64 y0.kind, .int .i64 y0.num, str y0.word, .slice p0 y0.kids.length c0]), (1, .agg #[.int .i64 y1.kind, .int .i64 y1.num, str y1.word, .slice p1 y1.kids.length c1]), (2, .agg #[.int .i64 y2.kind, .int .i64 y2.num, str y2.word, .slice p2 y2.kids.length c2])]) rfl (buildSN3 _ _ _ _ _ _ _ _ _ _ _ _ _ _ _ _ _ _)) rfl ?_
    rintro bv wq hN
    have hbv : SlV (b4 :: bm :: X) wq bv [y0, y1, y2] := hN.slvG (css := [ndC y0 _, ndC y1 _, ndC y2 _]) gm.hX rfl rfl rfl (reps3 s0 s1 s2) (by simp [maxLen])
    have hT := NewSl.stp hN
    clear hN
    replace gm := gm.up hT
    clear hT
    refine W ?_
    refine WL_eff (OE_call rfl (evs3 rfl rfl rfl) (node14_any (b4 :: bm :: X) 9 [] bv [y0, y1, y2] _ gm.hX hbv)) rfl ?_
    rintro _ wq ⟨⟨ky, rfl, hy⟩, hT⟩
    replace gm := gm.up hT
    clear hT hbv
    refine W ?_
    obtain ⟨cs, hcl, hcb⟩ := gm.blk
    refine WL_eff0 (OE_storeA (us := ndC (.mk 9 0 [] [y0, y1, y2]) _) rfl rfl rfl rfl (ndC_one (x := (.mk 9 0 [] [y0, y1, y2])) hy) hcb hcl.symm) ?_
    rintro _ wz ⟨hz, hbz⟩
    refine W ?_
    refine WQ_retc rfl rfl rfl hbz rfl ?_
    have hf := gm.fin (y := (.mk 9 0 [] [y0, y1, y2])) hS0 hb4 hy hz
    exact .mk ⟨_, _, hf.1, by rw [size3]; omega, ⟨ty3 ty0 ty1 ty2 (rfl), by rw [nest3]; omega⟩, hf.2.1, by omega, hf.2.2⟩
  by_cases k4 : k = 4
  · have h2 : 2 ≤ d := by omega
    replace ih := ih h2
    replace hsp := hsp h2
    repeat' (first | refine W1 ?_ | (exfalso; omega) | refine WL_split rfl rfl (fun hg => ?_) (fun hg => ?_) | refine WL_splitB rfl rfl (fun hg => ?_) (fun hg => ?_) | refine WC_cond rfl (fun hc => ?_) (fun hc => ?_) | refine WC_condB rfl (fun hc => ?_) (fun hc => ?_))
    refine WC_drawn 16 ([b4, bm]) [] [(1, 0), (5, 0), (6, 0), (7, 0), (9, 0), (10, 0), (11, 0), (0, 2), (2, 2), (3, 0), (4, 1), (8, 2), (12, 2), (13, 2), (14, 2), (15, 2)] rfl mixed (by kernel_rfl) (by kernel_rfl) (by kernel_rfl) (fun w1 hS1 => ?_)
    replace gm := gm.up hS1
    refine D ?_
    refine WD_eff rfl trivial (OE_call rfl (evs1 rfl) (words_any [b4, bm] [60, 32, 60, 61, 32, 61, 32, 33, 61, 32, 62, 32, 62, 61] _ (fun c hc => gm.hX c (by simp at hc; rcases hc with rfl | rfl <;> simp)) (by decide))) (fun _ _ h => h.2.mono (by simp)) rfl ?_
    rintro wv wq ⟨hr, hT⟩
    rw [show wordsOf [60, 32, 60, 61, 32, 61, 32, 33, 61, 32, 62, 32, 62, 61] = opsC by decide] at hr
    have hws := hr.slv (fun c hc => gm.hX c (by simp at hc; rcases hc with rfl | rfl <;> simp))
    replace gm := gm.up hT
    clear hr hT
    refine D ?_
    refine WD_eff rfl trivial (OE_call rfl (evs2 rfl rfl) (Next_any bm lv l _ 6 _ (by decide) (by omega) gm.mkr gm.sl hl)) (fun _ _ h => h.choose_spec.2.2.2.mono (by simp)) rfl ?_
    rintro _ wq ⟨q, rfl, hq, hm, hS⟩
    replace gm := gm.nxt hm hS
    replace hws := hws.ext hS (by simp) (fun _ h => .inl h)
    clear hm hS
    have hqn : q < opsC.length := by show q < 6; omega
    refine D ?_
    refine WD_eff rfl trivial (OE_call rfl (evs2 rfl rfl) ((ih.2.2) (b4 :: bm :: X) _ bm lv l _ _ (by omega) gm.mkr gm.sl hl (by omega) gm.hX)) (fun _ _ h => by obtain ⟨_, _, _, _, _, _, _, h⟩ := h; exact h.mono (by simp)) rfl ?_
    rintro _ wq ⟨y0, i0, ⟨k0, rfl, s0⟩, z0, ⟨ty0, ne0⟩, hm, hi0, hS⟩
    obtain ⟨p0, c0, rfl, -⟩ := id s0
    replace gm := gm.nxt hm hS
    replace hws := hws.ext hS (by simp) (fun _ h => .inl h)
    clear hm hS
    refine D ?_
    refine WD_eff rfl trivial (OE_call rfl (evs2 rfl rfl) ((ih.2.2) (b4 :: bm :: X) _ bm lv l _ _ (by omega) gm.mkr gm.sl hl (by omega) gm.hX)) (fun _ _ h => by obtain ⟨_, _, _, _, _, _, _, h⟩ := h; exact h.mono (by simp)) rfl ?_
    rintro _ wq ⟨y1, i1, ⟨k1, rfl, s1⟩, z1, ⟨ty1, ne1⟩, hm, hi1, hS⟩
    obtain ⟨p1, c1, rfl, -⟩ := id s1
    replace gm := gm.nxt hm hS
    replace hws := hws.ext hS (by simp) (fun _ h => .inl h)
    replace s0 := s0.ext hS (by simp) (fun _ h => .inl h)
    clear hm hS
    refine D ?_
    refine WD_eff rfl trivial (OE_buildSlice (vs := [(0, .agg #[.int .i64 y0.kind, .int .i64 y0.num, str y0.word, .slice p0 y0.kids.length c0]), (1, .agg #[.int .i64 y1.kind, .int .i64 y1.num, str y1.word, .slice p1 y1.kids.length c1])]) rfl (buildSN2 _ _ _ _ _ _ _ _ _ _ _ _)) (fun _ _ h => (NewSl.stp h).mono (by simp)) rfl ?_
    rintro bv wq hN
    have hbv : SlV (b4 :: bm :: X) wq bv [y0, y1] := hN.slvG (css := [ndC y0 _, ndC y1 _]) gm.hX rfl rfl rfl (reps2 s0 s1) (by simp [maxLen])
    have hT := NewSl.stp hN
    clear hN
    replace gm := gm.up hT
    replace hws := hws.up hT
    clear hT
    refine D ?_
    refine WD_eff rfl trivial (OE_call rfl (evs3 rfl rfl rfl) (node14_any (b4 :: bm :: X) 6 opsC[q] bv [y0, y1] _ gm.hX hbv)) (fun _ _ h => h.2.mono (by simp)) rfl ?_
    rintro _ wq ⟨⟨ky, rfl, hy⟩, hT⟩
    replace gm := gm.up hT
    clear hT hbv
    refine D ?_
    obtain ⟨cs, hcl, hcb⟩ := gm.blk
    refine WD_eff0 rfl trivial (OE_storeA (us := ndC (.mk 6 0 opsC[q] [y0, y1]) _) rfl rfl rfl rfl (ndC_one (x := (.mk 6 0 opsC[q] [y0, y1])) hy) hcb hcl.symm) (fun _ _ h => h.1.mono (by simp)) ?_
    rintro _ wz ⟨hz, hbz⟩
    refine D ?_
    refine W ?_
    refine WQ_retc rfl rfl rfl hbz rfl ?_
    have hf := gm.fin (y := (.mk 6 0 opsC[q] [y0, y1])) hS0 hb4 hy hz
    exact .mk ⟨_, _, hf.1, by rw [size2]; omega, ⟨ty2 ty0 ty1 (tCd _ hqn), by rw [nest2]; omega⟩, hf.2.1, by omega, hf.2.2⟩
  have h2 : 2 ≤ d := by omega
  replace ih := ih h2
  replace hsp := hsp h2
  repeat' (first | refine W1 ?_ | (exfalso; omega) | refine WL_split rfl rfl (fun hg => ?_) (fun hg => ?_) | refine WL_splitB rfl rfl (fun hg => ?_) (fun hg => ?_) | refine WC_cond rfl (fun hc => ?_) (fun hc => ?_) | refine WC_condB rfl (fun hc => ?_) (fun hc => ?_))
  refine WC_drawn 16 ([b4, bm]) [] [(1, 0), (5, 0), (6, 0), (7, 0), (9, 0), (10, 0), (11, 0), (0, 2), (2, 2), (3, 0), (4, 1), (8, 2), (12, 2), (13, 2), (14, 2), (15, 2)] rfl mixed (by kernel_rfl) (by kernel_rfl) (by kernel_rfl) (fun w1 hS1 => ?_)
  replace gm := gm.up hS1
  refine D ?_
  refine WD_eff rfl trivial (OE_call rfl (evs1 rfl) (words_any [b4, bm] [60, 32, 60, 61, 32, 61, 32, 33, 61, 32, 62, 32, 62, 61] _ (fun c hc => gm.hX c (by simp at hc; rcases hc with rfl | rfl <;> simp)) (by decide))) (fun _ _ h => h.2.mono (by simp)) rfl ?_
  rintro wv wq ⟨hr, hT⟩
  rw [show wordsOf [60, 32, 60, 61, 32, 61, 32, 33, 61, 32, 62, 32, 62, 61] = opsC by decide] at hr
  have hws := hr.slv (fun c hc => gm.hX c (by simp at hc; rcases hc with rfl | rfl <;> simp))
  replace gm := gm.up hT
  clear hr hT
  refine D ?_
  refine WD_eff rfl trivial (OE_call rfl (evs2 rfl rfl) (Next_any bm lv l _ 6 _ (by decide) (by omega) gm.mkr gm.sl hl)) (fun _ _ h => h.choose_spec.2.2.2.mono (by simp)) rfl ?_
  rintro _ wq ⟨q, rfl, hq, hm, hS⟩
  replace gm := gm.nxt hm hS
  replace hws := hws.ext hS (by simp) (fun _ h => .inl h)
  clear hm hS
  have hqn : q < opsC.length := by show q < 6; omega
  refine D ?_
  refine WD_eff rfl trivial (OE_call rfl (evs2 rfl rfl) ((ih.1) (b4 :: bm :: X) _ bm lv l _ _ (by omega) gm.mkr gm.sl hl (by omega) gm.hX)) (fun _ _ h => by obtain ⟨_, _, _, _, _, _, _, h⟩ := h; exact h.mono (by simp)) rfl ?_
  rintro _ wq ⟨y0, i0, ⟨k0, rfl, s0⟩, z0, ⟨ty0, ne0⟩, hm, hi0, hS⟩
  obtain ⟨p0, c0, rfl, -⟩ := id s0
  replace gm := gm.nxt hm hS
  replace hws := hws.ext hS (by simp) (fun _ h => .inl h)
  clear hm hS
  refine D ?_
  refine WD_eff rfl trivial (OE_call rfl (evs2 rfl rfl) ((ih.1) (b4 :: bm :: X) _ bm lv l _ _ (by omega) gm.mkr gm.sl hl (by omega) gm.hX)) (fun _ _ h => by obtain ⟨_, _, _, _, _, _, _, h⟩ := h; exact h.mono (by simp)) rfl ?_
  rintro _ wq ⟨y1, i1, ⟨k1, rfl, s1⟩, z1, ⟨ty1, ne1⟩, hm, hi1, hS⟩
  obtain ⟨p1, c1, rfl, -⟩ := id s1
  replace gm := gm.nxt hm hS
  replace hws := hws.ext hS (by simp) (fun _ h => .inl h)
  replace s0 := s0.ext hS (by simp) (fun _ h => .inl h)
  clear hm hS
  refine D ?_
  refine WD_eff rfl trivial (OE_buildSlice (vs := [(0, .agg #[.int .i64 y0.kind, .int .i64 y0.num, str y0.word, .slice p0 y0.kids.length c0]), (1, .agg #[.int .i64 y1.kind, .int .i64 y1.num, str y1.word, .slice p1 y1.kids.length c1])]) rfl (buildSN2 _ _ _ _ _ _ _ _ _ _ _ _)) (fun _ _ h => (NewSl.stp h).mono (by simp)) rfl ?_
  rintro bv wq hN
  have hbv : SlV (b4 :: bm :: X) wq bv [y0, y1] := hN.slvG (css := [ndC y0 _, ndC y1 _]) gm.hX rfl rfl rfl (reps2 s0 s1) (by simp [maxLen])
  have hT := NewSl.stp hN
  clear hN
  replace gm := gm.up hT
  replace hws := hws.up hT
  clear hT
  refine D ?_
  refine WD_eff rfl trivial (OE_call rfl (evs3 rfl rfl rfl) (node14_any (b4 :: bm :: X) 6 opsC[q] bv [y0, y1] _ gm.hX hbv)) (fun _ _ h => h.2.mono (by simp)) rfl ?_
  rintro _ wq ⟨⟨ky, rfl, hy⟩, hT⟩
  replace gm := gm.up hT
  clear hT hbv
  refine D ?_
  obtain ⟨cs, hcl, hcb⟩ := gm.blk
  refine WD_eff0 rfl trivial (OE_storeA (us := ndC (.mk 6 0 opsC[q] [y0, y1]) _) rfl rfl rfl rfl (ndC_one (x := (.mk 6 0 opsC[q] [y0, y1])) hy) hcb hcl.symm) (fun _ _ h => h.1.mono (by simp)) ?_
  rintro _ wz ⟨hz, hbz⟩
  refine D ?_
  refine W ?_
  refine WQ_retc rfl rfl rfl hbz rfl ?_
  have hf := gm.fin (y := (.mk 6 0 opsC[q] [y0, y1])) hS0 hb4 hy hz
  exact .mk ⟨_, _, hf.1, by rw [size2]; omega, ⟨ty2 ty0 ty1 (tCn _ hqn), by rw [nest2]; omega⟩, hf.2.1, by omega, hf.2.2⟩
end Go.Proofs.YtgpibcgebpgmiaaGreatDoor


namespace Go.Proofs.YtgpibcgebpgmiaaGreatDoor
open Go Go.Eng Go.RowKit
set_option linter.unusedVariables false

theorem date_step (d : Nat) (hd1 : 1 ≤ d) (hd2 : d ≤ 6) (ih : 2 ≤ d → GenP 98 (d - 1) ∧ GenP 53 (d - 1) ∧ GenP 54 (d - 1)) : GenP 54 d := by
  intro X w bm lv l i z hz hmk hsl hl hi hX
  subst hz
  have hsz := szD_eq hd1
  have hsp : 2 ≤ d → 1 ≤ szD (d - 1) := fun h => by have := szD_eq (d := d - 1) (by omega); omega
  refine calls_of_WC2 (n := 94) Tryz.func54 rfl rfl rfl ?_
  refine W ?_
  refine WL_eff OE_alloc rfl ?_
  rintro _ w1 ⟨b4, rfl, hb4, hblk4, hS0⟩
  have gm : G (b4 :: bm :: X) w1 w1 bm b4 lv l i := ⟨hmk.up hS0, hsl.up hS0, Stp.refl _ _, ⟨_, rfl, hblk4⟩, fun h => by have := hmk.lt; omega, fun c hc => by
    simp only [List.mem_cons] at hc
    have h1 := hblk4.lt
    have h2 := hmk.lt
    have h3 := hS0.size
    rcases hc with rfl | rfl | hc
    · exact h1
    · omega
    · have := hX c hc; omega⟩
  clear hblk4
  refine W ?_
  refine WL_eff (OE_call rfl (evs2 rfl rfl) (Next_any bm lv l _ 9 _ (by decide) (by omega) gm.mkr gm.sl hl)) rfl ?_
  rintro _ w2 ⟨q, rfl, hq, hm, hS⟩
  replace gm := gm.nxt hm hS
  clear hm hS
  refine W ?_
  refine WC_cutQ (σ := Nat) (fun k => [(0, .pointer (some ⟨bm, 0, none⟩)), (1, .int .i64 (d : Int)), (4, .pointer (some ⟨b4, 0, none⟩)), (5, .int .i64 (k : Int))]) (fun k w' => w' = w2 ∧ k < 9 ∧ (d = 1 → k < 3)) ?_ ?_
  · by_cases h1 : d = 1
    · repeat' (first | refine W1 ?_ | (exfalso; omega) | refine WL_split rfl rfl (fun hg => ?_) (fun hg => ?_) | refine WL_splitB rfl rfl (fun hg => ?_) (fun hg => ?_) | refine WC_cond rfl (fun hc => ?_) (fun hc => ?_) | refine WC_condB rfl (fun hc => ?_) (fun hc => ?_))
      exact WQ_cut (q % 3) ⟨rfl, rfl, rfl, rfl, trivial⟩ ⟨rfl, by omega, fun _ => by omega⟩
    · repeat' (first | refine W1 ?_ | (exfalso; omega) | refine WL_split rfl rfl (fun hg => ?_) (fun hg => ?_) | refine WL_splitB rfl rfl (fun hg => ?_) (fun hg => ?_) | refine WC_cond rfl (fun hc => ?_) (fun hc => ?_) | refine WC_condB rfl (fun hc => ?_) (fun hc => ?_))
      exact WQ_cut q ⟨rfl, rfl, rfl, rfl, trivial⟩ ⟨rfl, by omega, fun h => absurd h h1⟩
  rintro k w3 ⟨rfl, hkn, hk1⟩
  clear hq
  by_cases k0 : k ≤ 1
  · repeat' (first | refine W1 ?_ | (exfalso; omega) | refine WL_split rfl rfl (fun hg => ?_) (fun hg => ?_) | refine WL_splitB rfl rfl (fun hg => ?_) (fun hg => ?_) | refine WC_cond rfl (fun hc => ?_) (fun hc => ?_) | refine WC_condB rfl (fun hc => ?_) (fun hc => ?_))
    all_goals
      refine WL_eff (OE_call rfl evs0 (Fields_any [bm] _ (fun c hc => gm.hX c (by simp at hc; subst hc; simp)))) rfl ?_
      rintro fv wq ⟨hr, hT⟩
      have hws := hr.slv (fun c hc => gm.hX c (by simp at hc; subst hc; simp))
      replace gm := gm.up hT
      clear hr hT
      refine W ?_
      refine WL_eff (OE_call rfl (evs2 rfl rfl) (Next_any bm lv l _ 3 _ (by decide) (by omega) gm.mkr gm.sl hl)) rfl ?_
      rintro _ wq ⟨q', rfl, hq', hm, hS⟩
      replace gm := gm.nxt hm hS
      replace hws := hws.ext hS (by simp) (fun _ h => .inl h)
      clear hm hS
      have hqn : q' / 2 < fieldNames.length := by show q' / 2 < 7; omega
      refine W ?_
      apply WL_build (vs := [(0, .int .i64 4), (2, str _)]) rfl (buildN02 _ _) rfl
      have hy : SlV (α := Nd) (b4 :: bm :: X) wq (.slice none 0 0) [] := nilSlv _ _
      obtain ⟨cs, hcl, hcb⟩ := gm.blk
      refine WL_eff0 (OE_storeA (us := ndC (.mk 4 0 fieldNames[q' / 2] []) _) rfl rfl rfl rfl (ndC_one (x := (.mk 4 0 fieldNames[q' / 2] [])) hy) hcb hcl.symm) ?_
      rintro _ wz ⟨hz, hbz⟩
      refine W ?_
      refine WQ_retc rfl rfl rfl hbz rfl ?_
      have hf := gm.fin (y := (.mk 4 0 fieldNames[q' / 2] [])) hS0 hb4 hy hz
      exact .mk ⟨_, _, hf.1, by rw [size0]; omega, ⟨ty0 (lF3 _ (by omega) hqn), by rw [nest0]; omega⟩, hf.2.1, by omega, hf.2.2⟩
  by_cases k2 : k = 2
  · repeat' (first | refine W1 ?_ | (exfalso; omega) | refine WL_split rfl rfl (fun hg => ?_) (fun hg => ?_) | refine WL_splitB rfl rfl (fun hg => ?_) (fun hg => ?_) | refine WC_cond rfl (fun hc => ?_) (fun hc => ?_) | refine WC_condB rfl (fun hc => ?_) (fun hc => ?_))
    refine W ?_
    refine WL_eff (OE_call rfl (evs2 rfl rfl) (Next_any bm lv l _ 200 _ (by decide) (by omega) gm.mkr gm.sl hl)) rfl ?_
    rintro _ wq ⟨q', rfl, hq', hm, hS⟩
    replace gm := gm.nxt hm hS
    clear hm hS
    refine W ?_
    apply WL_build (vs := [(0, .int .i64 3), (1, .int .i64 _)]) rfl (buildN01 _ _) rfl
    have hy : SlV (α := Nd) (b4 :: bm :: X) wq (.slice none 0 0) [] := nilSlv _ _
    obtain ⟨cs, hcl, hcb⟩ := gm.blk
    refine WL_eff0 (OE_storeA (us := ndC (.mk 3 (739600 + (q' : Int)) [] []) _) rfl rfl rfl rfl (ndC_one (x := (.mk 3 (739600 + (q' : Int)) [] [])) hy) hcb hcl.symm) ?_
    rintro _ wz ⟨hz, hbz⟩
    refine W ?_
    refine WQ_retc rfl rfl rfl hbz rfl ?_
    have hf := gm.fin (y := (.mk 3 (739600 + (q' : Int)) [] [])) hS0 hb4 hy hz
    exact .mk ⟨_, _, hf.1, by rw [size0]; omega, ⟨ty0 (lD3 _ (by omega)), by rw [nest0]; omega⟩, hf.2.1, by omega, hf.2.2⟩
  by_cases k3 : k = 3
  · have h2 : 2 ≤ d := by omega
    replace ih := ih h2
    replace hsp := hsp h2
    repeat' (first | refine W1 ?_ | (exfalso; omega) | refine WL_split rfl rfl (fun hg => ?_) (fun hg => ?_) | refine WL_splitB rfl rfl (fun hg => ?_) (fun hg => ?_) | refine WC_cond rfl (fun hc => ?_) (fun hc => ?_) | refine WC_condB rfl (fun hc => ?_) (fun hc => ?_))
    refine WC_drawn 12 ([b4, bm]) [] [(1, 0), (5, 0), (6, 0), (7, 0), (0, 2), (2, 2), (3, 0), (4, 1), (8, 2), (9, 2), (10, 2), (11, 2)] rfl mixed (by kernel_rfl) (by kernel_rfl) (by kernel_rfl) (fun w1 hS1 => ?_)
    replace gm := gm.up hS1
    refine D ?_
    refine WD_eff rfl trivial (OE_call rfl (evs1 rfl) (words_any [b4, bm] [110, 101, 120, 116, 32, 112, 114, 101, 118] _ (fun c hc => gm.hX c (by simp at hc; rcases hc with rfl | rfl <;> simp)) (by decide))) (fun _ _ h => h.2.mono (by simp)) rfl ?_
    rintro wv wq ⟨hr, hT⟩
    rw [show wordsOf [110, 101, 120, 116, 32, 112, 114, 101, 118] = opsN by decide] at hr
    have hws := hr.slv (fun c hc => gm.hX c (by simp at hc; rcases hc with rfl | rfl <;> simp))
    replace gm := gm.up hT
    clear hr hT
    refine D ?_
    refine WD_eff rfl trivial (OE_call rfl (evs2 rfl rfl) (Next_any bm lv l _ 2 _ (by decide) (by omega) gm.mkr gm.sl hl)) (fun _ _ h => h.choose_spec.2.2.2.mono (by simp)) rfl ?_
    rintro _ wq ⟨q, rfl, hq, hm, hS⟩
    replace gm := gm.nxt hm hS
    replace hws := hws.ext hS (by simp) (fun _ h => .inl h)
    clear hm hS
    have hqn : q < opsN.length := by show q < 2; omega
    refine D ?_
    refine WD_eff rfl trivial (OE_call rfl (evs2 rfl rfl) ((ih.2.2) (b4 :: bm :: X) _ bm lv l _ _ (by omega) gm.mkr gm.sl hl (by omega) gm.hX)) (fun _ _ h => by obtain ⟨_, _, _, _, _, _, _, h⟩ := h; exact h.mono (by simp)) rfl ?_
    rintro _ wq ⟨y0, i0, ⟨k0, rfl, s0⟩, z0, ⟨ty0, ne0⟩, hm, hi0, hS⟩
    obtain ⟨p0, c0, rfl, -⟩ := id s0
    replace gm := gm.nxt hm hS
    replace hws := hws.ext hS (by simp) (fun _ h => .inl h)
    clear hm hS
    refine D ?_
    refine WD_eff rfl trivial (OE_buildSlice (vs := [(0, .agg #[.int .i64 y0.kind, .int .i64 y0.num, str y0.word, .slice p0 y0.kids.length c0])]) rfl (buildSN1 _ _ _ _ _ _)) (fun _ _ h => (NewSl.stp h).mono (by simp)) rfl ?_
    rintro bv wq hN
    have hbv : SlV (b4 :: bm :: X) wq bv [y0] := hN.slvG (css := [ndC y0 _]) gm.hX rfl rfl rfl (reps1 s0) (by simp [maxLen])
    have hT := NewSl.stp hN
    clear hN
    replace gm := gm.up hT
    replace hws := hws.up hT
    clear hT
    refine D ?_
    refine WD_eff rfl trivial (OE_call rfl (evs3 rfl rfl rfl) (node14_any (b4 :: bm :: X) 10 opsN[q] bv [y0] _ gm.hX hbv)) (fun _ _ h => h.2.mono (by simp)) rfl ?_
    rintro _ wq ⟨⟨ky, rfl, hy⟩, hT⟩
    replace gm := gm.up hT
    clear hT hbv
    refine D ?_
    obtain ⟨cs, hcl, hcb⟩ := gm.blk
    refine WD_eff0 rfl trivial (OE_storeA (us := ndC (.mk 10 0 opsN[q] [y0]) _) rfl rfl rfl rfl (ndC_one (x := (.mk 10 0 opsN[q] [y0])) hy) hcb hcl.symm) (fun _ _ h => h.1.mono (by simp)) ?_
    rintro _ wz ⟨hz, hbz⟩
    refine D ?_
    refine W ?_
    refine WQ_retc rfl rfl rfl hbz rfl ?_
    have hf := gm.fin (y := (.mk 10 0 opsN[q] [y0])) hS0 hb4 hy hz
    exact .mk ⟨_, _, hf.1, by rw [size1]; omega, ⟨ty1 ty0 (tN _ hqn), by rw [nest1]; omega⟩, hf.2.1, by omega, hf.2.2⟩
  by_cases k4 : k = 4
  · have h2 : 2 ≤ d := by omega
    replace ih := ih h2
    replace hsp := hsp h2
    repeat' (first | refine W1 ?_ | (exfalso; omega) | refine WL_split rfl rfl (fun hg => ?_) (fun hg => ?_) | refine WL_splitB rfl rfl (fun hg => ?_) (fun hg => ?_) | refine WC_cond rfl (fun hc => ?_) (fun hc => ?_) | refine WC_condB rfl (fun hc => ?_) (fun hc => ?_))
    refine WC_drawn 16 ([b4, bm]) [] [(1, 0), (5, 0), (6, 0), (7, 0), (9, 0), (10, 0), (11, 0), (0, 2), (2, 2), (3, 0), (4, 1), (8, 2), (12, 2), (13, 2), (14, 2), (15, 2)] rfl mixed (by kernel_rfl) (by kernel_rfl) (by kernel_rfl) (fun w1 hS1 => ?_)
    replace gm := gm.up hS1
    refine D ?_
    refine WD_eff rfl trivial (OE_call rfl (evs1 rfl) (words_any [b4, bm] [108, 97, 116, 101, 114, 32, 101, 97, 114, 108, 105, 101, 114] _ (fun c hc => gm.hX c (by simp at hc; rcases hc with rfl | rfl <;> simp)) (by decide))) (fun _ _ h => h.2.mono (by simp)) rfl ?_
    rintro wv wq ⟨hr, hT⟩
    rw [show wordsOf [108, 97, 116, 101, 114, 32, 101, 97, 114, 108, 105, 101, 114] = opsE by decide] at hr
    have hws := hr.slv (fun c hc => gm.hX c (by simp at hc; rcases hc with rfl | rfl <;> simp))
    replace gm := gm.up hT
    clear hr hT
    refine D ?_
    refine WD_eff rfl trivial (OE_call rfl (evs2 rfl rfl) (Next_any bm lv l _ 2 _ (by decide) (by omega) gm.mkr gm.sl hl)) (fun _ _ h => h.choose_spec.2.2.2.mono (by simp)) rfl ?_
    rintro _ wq ⟨q, rfl, hq, hm, hS⟩
    replace gm := gm.nxt hm hS
    replace hws := hws.ext hS (by simp) (fun _ h => .inl h)
    clear hm hS
    have hqn : q < opsE.length := by show q < 2; omega
    refine D ?_
    refine WD_eff rfl trivial (OE_call rfl (evs2 rfl rfl) ((ih.2.2) (b4 :: bm :: X) _ bm lv l _ _ (by omega) gm.mkr gm.sl hl (by omega) gm.hX)) (fun _ _ h => by obtain ⟨_, _, _, _, _, _, _, h⟩ := h; exact h.mono (by simp)) rfl ?_
    rintro _ wq ⟨y0, i0, ⟨k0, rfl, s0⟩, z0, ⟨ty0, ne0⟩, hm, hi0, hS⟩
    obtain ⟨p0, c0, rfl, -⟩ := id s0
    replace gm := gm.nxt hm hS
    replace hws := hws.ext hS (by simp) (fun _ h => .inl h)
    clear hm hS
    refine D ?_
    refine WD_eff rfl trivial (OE_call rfl (evs2 rfl rfl) ((ih.2.2) (b4 :: bm :: X) _ bm lv l _ _ (by omega) gm.mkr gm.sl hl (by omega) gm.hX)) (fun _ _ h => by obtain ⟨_, _, _, _, _, _, _, h⟩ := h; exact h.mono (by simp)) rfl ?_
    rintro _ wq ⟨y1, i1, ⟨k1, rfl, s1⟩, z1, ⟨ty1, ne1⟩, hm, hi1, hS⟩
    obtain ⟨p1, c1, rfl, -⟩ := id s1
    replace gm := gm.nxt hm hS
    replace hws := hws.ext hS (by simp) (fun _ h => .inl h)
    replace s0 := s0.ext hS (by simp) (fun _ h => .inl h)
    clear hm hS
    refine D ?_
    refine WD_eff rfl trivial (OE_buildSlice (vs := [(0, .agg #[.int .i64 y0.kind, .int .i64 y0.num, str y0.word, .slice p0 y0.kids.length c0]), (1, .agg #[.int .i64 y1.kind, .int .i64 y1.num, str y1.word, .slice p1 y1.kids.length c1])]) rfl (buildSN2 _ _ _ _ _ _ _ _ _ _ _ _)) (fun _ _ h => (NewSl.stp h).mono (by simp)) rfl ?_
    rintro bv wq hN
    have hbv : SlV (b4 :: bm :: X) wq bv [y0, y1] := hN.slvG (css := [ndC y0 _, ndC y1 _]) gm.hX rfl rfl rfl (reps2 s0 s1) (by simp [maxLen])
    have hT := NewSl.stp hN
    clear hN
    replace gm := gm.up hT
    replace hws := hws.up hT
    clear hT
    refine D ?_
    refine WD_eff rfl trivial (OE_call rfl (evs3 rfl rfl rfl) (node14_any (b4 :: bm :: X) 10 opsE[q] bv [y0, y1] _ gm.hX hbv)) (fun _ _ h => h.2.mono (by simp)) rfl ?_
    rintro _ wq ⟨⟨ky, rfl, hy⟩, hT⟩
    replace gm := gm.up hT
    clear hT hbv
    refine D ?_
    obtain ⟨cs, hcl, hcb⟩ := gm.blk
    refine WD_eff0 rfl trivial (OE_storeA (us := ndC (.mk 10 0 opsE[q] [y0, y1]) _) rfl rfl rfl rfl (ndC_one (x := (.mk 10 0 opsE[q] [y0, y1])) hy) hcb hcl.symm) (fun _ _ h => h.1.mono (by simp)) ?_
    rintro _ wz ⟨hz, hbz⟩
    refine D ?_
    refine W ?_
    refine WQ_retc rfl rfl rfl hbz rfl ?_
    have hf := gm.fin (y := (.mk 10 0 opsE[q] [y0, y1])) hS0 hb4 hy hz
    exact .mk ⟨_, _, hf.1, by rw [size2]; omega, ⟨ty2 ty0 ty1 (tE _ hqn), by rw [nest2]; omega⟩, hf.2.1, by omega, hf.2.2⟩
  by_cases k5 : k = 5
  · have h2 : 2 ≤ d := by omega
    replace ih := ih h2
    replace hsp := hsp h2
    repeat' (first | refine W1 ?_ | (exfalso; omega) | refine WL_split rfl rfl (fun hg => ?_) (fun hg => ?_) | refine WL_splitB rfl rfl (fun hg => ?_) (fun hg => ?_) | refine WC_cond rfl (fun hc => ?_) (fun hc => ?_) | refine WC_condB rfl (fun hc => ?_) (fun hc => ?_))
    refine W ?_
    refine WL_eff (OE_call rfl (evs2 rfl rfl) ((ih.2.1) (b4 :: bm :: X) _ bm lv l _ _ (by omega) gm.mkr gm.sl hl (by omega) gm.hX)) rfl ?_
    rintro _ wq ⟨y0, i0, ⟨k0, rfl, s0⟩, z0, ⟨ty0, ne0⟩, hm, hi0, hS⟩
    obtain ⟨p0, c0, rfl, -⟩ := id s0
    replace gm := gm.nxt hm hS
    clear hm hS
    refine W ?_
    refine WL_eff (OE_call rfl (evs2 rfl rfl) ((ih.2.2) (b4 :: bm :: X) _ bm lv l _ _ (by omega) gm.mkr gm.sl hl (by omega) gm.hX)) rfl ?_
    rintro _ wq ⟨y1, i1, ⟨k1, rfl, s1⟩, z1, ⟨ty1, ne1⟩, hm, hi1, hS⟩
    obtain ⟨p1, c1, rfl, -⟩ := id s1
    replace gm := gm.nxt hm hS
    replace s0 := s0.ext hS (by simp) (fun _ h => .inl h)
    clear hm hS
    refine W ?_
    refine WL_eff (OE_call rfl (evs2 rfl rfl) ((ih.2.2) (b4 :: bm :: X) _ bm lv l _ _ (by omega) gm.mkr gm.sl hl (by omega) gm.hX)) rfl ?_
    rintro _ wq ⟨y2, i2, ⟨k2, rfl, s2⟩, z2, ⟨ty2, ne2⟩, hm, hi2, hS⟩
    obtain ⟨p2, c2, rfl, -⟩ := id s2
    replace gm := gm.nxt hm hS
    replace s0 := s0.ext hS (by simp) (fun _ h => .inl h)
    replace s1 := s1.ext hS (by simp) (fun _ h => .inl h)
    clear hm hS
    refine W ?_
    refine WL_eff (OE_buildSlice (vs := [(0, .agg #[.int .i64 y0.kind, .int .i64 y0.num, str y0.word, .slice p0 y0.kids.length c0]), (1, .agg #[.int .i64 y1.kind, .int .i64 y1.num, str y1.word, .slice p1 y1.kids.length c1]), (2, .agg #[.int .i64 y2.kind, .int .i64 y2.num, str y2.word, .slice p2 y2.kids.length c2])]) rfl (buildSN3 _ _ _ _ _ _ _ _ _ _ _ _ _ _ _ _ _ _)) rfl ?_
    rintro bv wq hN
    have hbv : SlV (b4 :: bm :: X) wq bv [y0, y1, y2] := hN.slvG (css := [ndC y0 _, ndC y1 _, ndC y2 _]) gm.hX rfl rfl rfl (reps3 s0 s1 s2) (by simp [maxLen])
    have hT := NewSl.stp hN
    clear hN
    replace gm := gm.up hT
    clear hT
    refine W ?_
    refine WL_eff (OE_call rfl (evs3 rfl rfl rfl) (node14_any (b4 :: bm :: X) 9 [] bv [y0, y1, y2] _ gm.hX hbv)) rfl ?_
    rintro _ wq ⟨⟨ky, rfl, hy⟩, hT⟩
    replace gm := gm.up hT
    clear hT hbv
    refine W ?_
    obtain ⟨cs, hcl, hcb⟩ := gm.blk
    refine WL_eff0 (OE_storeA (us := ndC (.mk 9 0 [] [y0, y1, y2]) _) rfl rfl rfl rfl (ndC_one (x := (.mk 9 0 [] [y0, y1, y2])) hy) hcb hcl.symm) ?_
    rintro _ wz ⟨hz, hbz⟩
    refine W ?_
    refine WQ_retc rfl rfl rfl hbz rfl ?_
    have hf := gm.fin (y := (.mk 9 0 [] [y0, y1, y2])) hS0 hb4 hy hz
    exact .mk ⟨_, _, hf.1, by rw [size3]; omega, ⟨ty3 ty0 ty1 ty2 (rfl), by rw [nest3]; omega⟩, hf.2.1, by omega, hf.2.2⟩
  by_cases k6 : k = 6
  · have h2 : 2 ≤ d := by omega
    replace ih := ih h2
    replace hsp := hsp h2
    repeat' (first | refine W1 ?_ | (exfalso; omega) | refine WL_split rfl rfl (fun hg => ?_) (fun hg => ?_) | refine WL_splitB rfl rfl (fun hg => ?_) (fun hg => ?_) | refine WC_cond rfl (fun hc => ?_) (fun hc => ?_) | refine WC_condB rfl (fun hc => ?_) (fun hc => ?_))
    refine WC_drawn 17 ([b4, bm]) [] [(0, 0), (2, 0), (6, 0), (7, 0), (8, 0), (10, 0), (11, 0), (12, 0), (1, 2), (3, 2), (4, 0), (5, 1), (9, 2), (13, 2), (14, 2), (15, 2), (16, 2)] rfl mixed (by kernel_rfl) (by kernel_rfl) (by kernel_rfl) (fun w1 hS1 => ?_)
    replace gm := gm.up hS1
    refine D ?_
    refine WD_eff rfl trivial (OE_call rfl (evs1 rfl) (words_any [b4, bm] [100, 97, 121, 115, 32, 119, 101, 101, 107, 115, 32, 109, 111, 110, 116, 104, 115, 32, 99, 111, 117, 114, 116, 100, 97, 121, 115] _ (fun c hc => gm.hX c (by simp at hc; rcases hc with rfl | rfl <;> simp)) (by decide))) (fun _ _ h => h.2.mono (by simp)) rfl ?_
    rintro wv wq ⟨hr, hT⟩
    rw [show wordsOf [100, 97, 121, 115, 32, 119, 101, 101, 107, 115, 32, 109, 111, 110, 116, 104, 115, 32, 99, 111, 117, 114, 116, 100, 97, 121, 115] = units by decide] at hr
    have hws := hr.slv (fun c hc => gm.hX c (by simp at hc; rcases hc with rfl | rfl <;> simp))
    replace gm := gm.up hT
    clear hr hT
    refine D ?_
    refine WD_eff rfl trivial (OE_call rfl (evs2 rfl rfl) (Next_any bm lv l _ 4 _ (by decide) (by omega) gm.mkr gm.sl hl)) (fun _ _ h => h.choose_spec.2.2.2.mono (by simp)) rfl ?_
    rintro _ wq ⟨q, rfl, hq, hm, hS⟩
    replace gm := gm.nxt hm hS
    replace hws := hws.ext hS (by simp) (fun _ h => .inl h)
    clear hm hS
    have hqn : q < units.length := by show q < 4; omega
    refine D ?_
    refine WD_eff rfl trivial (OE_call rfl (evs2 rfl rfl) ((ih.2.2) (b4 :: bm :: X) _ bm lv l _ _ (by omega) gm.mkr gm.sl hl (by omega) gm.hX)) (fun _ _ h => by obtain ⟨_, _, _, _, _, _, _, h⟩ := h; exact h.mono (by simp)) rfl ?_
    rintro _ wq ⟨y0, i0, ⟨k0, rfl, s0⟩, z0, ⟨ty0, ne0⟩, hm, hi0, hS⟩
    obtain ⟨p0, c0, rfl, -⟩ := id s0
    replace gm := gm.nxt hm hS
    replace hws := hws.ext hS (by simp) (fun _ h => .inl h)
    clear hm hS
    refine D ?_
    refine WD_eff rfl trivial (OE_call rfl (evs2 rfl rfl) ((ih.1) (b4 :: bm :: X) _ bm lv l _ _ (by omega) gm.mkr gm.sl hl (by omega) gm.hX)) (fun _ _ h => by obtain ⟨_, _, _, _, _, _, _, h⟩ := h; exact h.mono (by simp)) rfl ?_
    rintro _ wq ⟨y1, i1, ⟨k1, rfl, s1⟩, z1, ⟨ty1, ne1⟩, hm, hi1, hS⟩
    obtain ⟨p1, c1, rfl, -⟩ := id s1
    replace gm := gm.nxt hm hS
    replace hws := hws.ext hS (by simp) (fun _ h => .inl h)
    replace s0 := s0.ext hS (by simp) (fun _ h => .inl h)
    clear hm hS
    refine D ?_
    refine WD_eff rfl trivial (OE_buildSlice (vs := [(0, .agg #[.int .i64 y0.kind, .int .i64 y0.num, str y0.word, .slice p0 y0.kids.length c0]), (1, .agg #[.int .i64 y1.kind, .int .i64 y1.num, str y1.word, .slice p1 y1.kids.length c1])]) rfl (buildSN2 _ _ _ _ _ _ _ _ _ _ _ _)) (fun _ _ h => (NewSl.stp h).mono (by simp)) rfl ?_
    rintro bv wq hN
    have hbv : SlV (b4 :: bm :: X) wq bv [y0, y1] := hN.slvG (css := [ndC y0 _, ndC y1 _]) gm.hX rfl rfl rfl (reps2 s0 s1) (by simp [maxLen])
    have hT := NewSl.stp hN
    clear hN
    replace gm := gm.up hT
    replace hws := hws.up hT
    clear hT
    refine D ?_
    refine WD_eff rfl trivial (OE_call rfl (evs3 rfl rfl rfl) (node14_any (b4 :: bm :: X) 8 units[q] bv [y0, y1] _ gm.hX hbv)) (fun _ _ h => h.2.mono (by simp)) rfl ?_
    rintro _ wq ⟨⟨ky, rfl, hy⟩, hT⟩
    replace gm := gm.up hT
    clear hT hbv
    refine D ?_
    obtain ⟨cs, hcl, hcb⟩ := gm.blk
    refine WD_eff0 rfl trivial (OE_storeA (us := ndC (.mk 8 0 units[q] [y0, y1]) _) rfl rfl rfl rfl (ndC_one (x := (.mk 8 0 units[q] [y0, y1])) hy) hcb hcl.symm) (fun _ _ h => h.1.mono (by simp)) ?_
    rintro _ wz ⟨hz, hbz⟩
    refine D ?_
    refine W ?_
    refine WQ_retc rfl rfl rfl hbz rfl ?_
    have hf := gm.fin (y := (.mk 8 0 units[q] [y0, y1])) hS0 hb4 hy hz
    exact .mk ⟨_, _, hf.1, by rw [size2]; omega, ⟨ty2 ty0 ty1 (tU8 _ hqn), by rw [nest2]; omega⟩, hf.2.1, by omega, hf.2.2⟩
  have h2 : 2 ≤ d := by omega
  replace ih := ih h2
  replace hsp := hsp h2
  repeat' (first | refine W1 ?_ | (exfalso; omega) | refine WL_split rfl rfl (fun hg => ?_) (fun hg => ?_) | refine WL_splitB rfl rfl (fun hg => ?_) (fun hg => ?_) | refine WC_cond rfl (fun hc => ?_) (fun hc => ?_) | refine WC_condB rfl (fun hc => ?_) (fun hc => ?_))
  refine WC_drawn 17 ([b4, bm]) [] [(0, 0), (2, 0), (6, 0), (7, 0), (8, 0), (10, 0), (11, 0), (12, 0), (1, 2), (3, 2), (4, 0), (5, 1), (9, 2), (13, 2), (14, 2), (15, 2), (16, 2)] rfl mixed (by kernel_rfl) (by kernel_rfl) (by kernel_rfl) (fun w1 hS1 => ?_)
  replace gm := gm.up hS1
  refine D ?_
  refine WD_eff rfl trivial (OE_call rfl (evs1 rfl) (words_any [b4, bm] [100, 97, 121, 115, 32, 119, 101, 101, 107, 115, 32, 109, 111, 110, 116, 104, 115, 32, 99, 111, 117, 114, 116, 100, 97, 121, 115] _ (fun c hc => gm.hX c (by simp at hc; rcases hc with rfl | rfl <;> simp)) (by decide))) (fun _ _ h => h.2.mono (by simp)) rfl ?_
  rintro wv wq ⟨hr, hT⟩
  rw [show wordsOf [100, 97, 121, 115, 32, 119, 101, 101, 107, 115, 32, 109, 111, 110, 116, 104, 115, 32, 99, 111, 117, 114, 116, 100, 97, 121, 115] = units by decide] at hr
  have hws := hr.slv (fun c hc => gm.hX c (by simp at hc; rcases hc with rfl | rfl <;> simp))
  replace gm := gm.up hT
  clear hr hT
  refine D ?_
  refine WD_eff rfl trivial (OE_call rfl (evs2 rfl rfl) (Next_any bm lv l _ 4 _ (by decide) (by omega) gm.mkr gm.sl hl)) (fun _ _ h => h.choose_spec.2.2.2.mono (by simp)) rfl ?_
  rintro _ wq ⟨q, rfl, hq, hm, hS⟩
  replace gm := gm.nxt hm hS
  replace hws := hws.ext hS (by simp) (fun _ h => .inl h)
  clear hm hS
  have hqn : q < units.length := by show q < 4; omega
  refine D ?_
  refine WD_eff rfl trivial (OE_call rfl (evs2 rfl rfl) ((ih.2.2) (b4 :: bm :: X) _ bm lv l _ _ (by omega) gm.mkr gm.sl hl (by omega) gm.hX)) (fun _ _ h => by obtain ⟨_, _, _, _, _, _, _, h⟩ := h; exact h.mono (by simp)) rfl ?_
  rintro _ wq ⟨y0, i0, ⟨k0, rfl, s0⟩, z0, ⟨ty0, ne0⟩, hm, hi0, hS⟩
  obtain ⟨p0, c0, rfl, -⟩ := id s0
  replace gm := gm.nxt hm hS
  replace hws := hws.ext hS (by simp) (fun _ h => .inl h)
  clear hm hS
  refine D ?_
  refine WD_eff rfl trivial (OE_call rfl (evs2 rfl rfl) ((ih.1) (b4 :: bm :: X) _ bm lv l _ _ (by omega) gm.mkr gm.sl hl (by omega) gm.hX)) (fun _ _ h => by obtain ⟨_, _, _, _, _, _, _, h⟩ := h; exact h.mono (by simp)) rfl ?_
  rintro _ wq ⟨y1, i1, ⟨k1, rfl, s1⟩, z1, ⟨ty1, ne1⟩, hm, hi1, hS⟩
  obtain ⟨p1, c1, rfl, -⟩ := id s1
  replace gm := gm.nxt hm hS
  replace hws := hws.ext hS (by simp) (fun _ h => .inl h)
  replace s0 := s0.ext hS (by simp) (fun _ h => .inl h)
  clear hm hS
  refine D ?_
  refine WD_eff rfl trivial (OE_buildSlice (vs := [(0, .agg #[.int .i64 y0.kind, .int .i64 y0.num, str y0.word, .slice p0 y0.kids.length c0]), (1, .agg #[.int .i64 y1.kind, .int .i64 y1.num, str y1.word, .slice p1 y1.kids.length c1])]) rfl (buildSN2 _ _ _ _ _ _ _ _ _ _ _ _)) (fun _ _ h => (NewSl.stp h).mono (by simp)) rfl ?_
  rintro bv wq hN
  have hbv : SlV (b4 :: bm :: X) wq bv [y0, y1] := hN.slvG (css := [ndC y0 _, ndC y1 _]) gm.hX rfl rfl rfl (reps2 s0 s1) (by simp [maxLen])
  have hT := NewSl.stp hN
  clear hN
  replace gm := gm.up hT
  replace hws := hws.up hT
  clear hT
  refine D ?_
  refine WD_eff rfl trivial (OE_call rfl (evs3 rfl rfl rfl) (node14_any (b4 :: bm :: X) 7 units[q] bv [y0, y1] _ gm.hX hbv)) (fun _ _ h => h.2.mono (by simp)) rfl ?_
  rintro _ wq ⟨⟨ky, rfl, hy⟩, hT⟩
  replace gm := gm.up hT
  clear hT hbv
  refine D ?_
  obtain ⟨cs, hcl, hcb⟩ := gm.blk
  refine WD_eff0 rfl trivial (OE_storeA (us := ndC (.mk 7 0 units[q] [y0, y1]) _) rfl rfl rfl rfl (ndC_one (x := (.mk 7 0 units[q] [y0, y1])) hy) hcb hcl.symm) (fun _ _ h => h.1.mono (by simp)) ?_
  rintro _ wz ⟨hz, hbz⟩
  refine D ?_
  refine W ?_
  refine WQ_retc rfl rfl rfl hbz rfl ?_
  have hf := gm.fin (y := (.mk 7 0 units[q] [y0, y1])) hS0 hb4 hy hz
  exact .mk ⟨_, _, hf.1, by rw [size2]; omega, ⟨ty2 ty0 ty1 (tU7 _ hqn), by rw [nest2]; omega⟩, hf.2.1, by omega, hf.2.2⟩
end Go.Proofs.YtgpibcgebpgmiaaGreatDoor


namespace Go.Proofs.YtgpibcgebpgmiaaGreatDoor
open Go Go.Eng Go.RowKit
set_option linter.unusedVariables false

theorem gens : ∀ d, 1 ≤ d → d ≤ 6 → GenP 98 d ∧ GenP 53 d ∧ GenP 54 d := by
  intro d
  induction d with
  | zero => intro h; omega
  | succ d ih =>
    intro h1 h2
    have ih' : 2 ≤ d + 1 → GenP 98 (d + 1 - 1) ∧ GenP 53 (d + 1 - 1) ∧ GenP 54 (d + 1 - 1) := fun h => ih (by omega) (by omega)
    exact ⟨number_step _ h1 h2 ih', boolean_step _ h1 h2 ih', date_step _ h1 h2 ih'⟩
theorem buildMk (p : Option Addr) (l c : Nat) (w : World) : (Instr.build 109 #[(0, .slice p l c)]).run Tryz.prog w = .ok (.agg #[.slice p l c, .int .i64 0]) w := by kernel_rfl
end Go.Proofs.YtgpibcgebpgmiaaGreatDoor


namespace Go.Proofs.YtgpibcgebpgmiaaGreatDoor
open Go Go.Eng Go.RowKit
set_option linter.unusedVariables false

def names4 : List Str := [[97], [98], [99, 49, 48], [97, 110, 115, 119, 101, 114]]
def kinds7 : List Str := [[109, 111, 116, 105, 111, 110], [97, 110, 115, 119, 101, 114], [111, 114, 100, 101, 114], [110, 111, 116, 105, 99, 101], [97, 112, 112, 101, 97, 108], [100, 101, 102, 97, 117, 108, 116, 50], [114, 101, 112, 108, 121]]
theorem Kinds_any (X : List Nat) (w : World) (hX : ∀ b ∈ X, b < w.heap.size) : Calls Tryz.prog 50 #[] w (Ret fun r w' => Row X w' w.heap.size 9 r kinds7 ∧ Stp [] w w') := by
  refine calls_of_WC0 (n := 2) Tryz.func50 rfl rfl ?_
  refine W ?_
  refine WL_eff (OE_call rfl (evs1 rfl) (words_any X [109, 111, 116, 105, 111, 110, 32, 97, 110, 115, 119, 101, 114, 32, 111, 114, 100, 101, 114, 32, 110, 111, 116, 105, 99, 101, 32, 97, 112, 112, 101, 97, 108, 32, 100, 101, 102, 97, 117, 108, 116, 50, 32, 114, 101, 112, 108, 121] _ hX (by decide))) rfl ?_
  rintro v w1 ⟨hr, hS⟩
  rw [show wordsOf [109, 111, 116, 105, 111, 110, 32, 97, 110, 115, 119, 101, 114, 32, 111, 114, 100, 101, 114, 32, 110, 111, 116, 105, 99, 101, 32, 97, 112, 112, 101, 97, 108, 32, 100, 101, 102, 97, 117, 108, 116, 50, 32, 114, 101, 112, 108, 121] = kinds7 by decide +kernel] at hr
  refine W ?_
  first | refine WQ_ret1 rfl rfl ?_ | refine WQ_ret2 rfl rfl rfl ?_ | refine WQ_ret3 rfl rfl rfl rfl ?_ | refine WQ_ret0 rfl ?_ | refine WQ_end0 rfl ?_
  exact .mk ⟨hr, hS⟩
abbrev nil4 : Nd := .mk 0 0 [] []
abbrev nilS : Value := .slice none 0 0
theorem buildRl (a o : Str) (f : Int) (w : World) : (Instr.build 38 #[(0, str a), (1, .int .i64 f), (2, str o)]).run Tryz.prog w = .ok (.agg (rlC ⟨a, f, o, nil4, nil4, [], []⟩ nilS nilS).toArray) w := by kernel_rfl
theorem rlC_one (r : Rul) {X Y : List Nat} {w w' : World} {ki kd : Value} (h1 : SlV X w ki r.cnd.kids) (h2 : SlV Y w' kd r.due.kids) : ∀ c ∈ rlC r ki kd, c.oneCell' = true := by
  intro c hc
  have e1 := h1.one
  have e2 := h2.one
  simp only [rlC, List.mem_cons, List.not_mem_nil, or_false] at hc
  rcases hc with rfl | rfl | rfl | rfl | rfl | rfl | rfl | rfl | rfl | rfl | rfl | rfl | rfl <;> first | rfl | exact e1 | exact e2
theorem names_ok : ∀ s ∈ names4, namedT s = true := by decide +kernel
theorem kinds_ok : ∀ s ∈ kinds7, namedT s = true := by decide +kernel
theorem check_ok {a o u v : Str} {f : Int} {y x : Nd} (ha : a ∈ names4) (ho : o ∈ kinds7) (hu : u = [] ∨ u ∈ kinds7) (hv : v = [] ∨ v ∈ kinds7) (hf : 0 ≤ f ∧ f < 30) (hy : typeT y = 2) (hy' : nestN y ≤ 3) (hx : typeT x = 3) (hx' : nestN x ≤ 4) :
    checkT ⟨a, 739600 + f, o, y, x, u, v⟩ = 0 := by
  have hn : namesT ⟨a, 739600 + f, o, y, x, u, v⟩ = true := by
    simp only [namesT, names_ok a ha, kinds_ok o ho, Bool.true_and, Bool.and_eq_true, Bool.or_eq_true, decide_eq_true_eq]
    exact ⟨hu.imp id (kinds_ok u), hv.imp id (kinds_ok v)⟩
  have m1 : mustF y 2 = 0 := by unfold mustF; rw [if_pos (by omega), hy]; decide
  have m2 : mustF x 3 = 0 := by unfold mustF; rw [if_pos (by omega), hx]; decide
  unfold checkT
  rw [hn, if_neg (by decide), if_neg (by simp only; omega)]
  simp [m1, m2]
theorem Rule14_nest (X : List Nat) (lv : Value) (l : List Int) (w : World) (hs : SlV [] w lv l) (hl : ∀ a ∈ l, I64 a) (hX : ∀ b ∈ X, b < w.heap.size) :
    Calls Tryz.prog 16 #[lv] w (Ret fun r w' => ∃ rl : Rul, RulV X w' r rl ∧ sizeN rl.cnd ≤ 400 ∧ sizeN rl.due ≤ 400 ∧ checkT rl = 0 ∧ (nestN rl.cnd ≤ 3 ∧ nestN rl.due ≤ 4) ∧ Stp [] w w') := by
  obtain ⟨p, c, rfl, -⟩ := id hs
  refine calls_of_WC1 (n := 49) Tryz.func16 rfl rfl rfl ?_
  refine W ?_
  refine WL_eff OE_alloc rfl ?_
  rintro _ w1 ⟨b2, rfl, hb2, e2, hS⟩
  refine W ?_
  apply WL_build (vs := [(0, .slice p l.length c)]) rfl (buildMk _ _ _) rfl
  refine WL_eff (OE_box rfl) rfl ?_
  rintro _ w2 ⟨bm, rfl, hbm, hmk, hT⟩
  replace hmk : Mk w2 bm (.slice p l.length c) 0 := hmk
  have n2 : b2 ≠ bm := by have := e2.lt; omega
  have hbmw : w.heap.size ≤ bm := Nat.le_trans hS.size hbm
  replace e2 := e2.up hT
  have hsl := (hs.up hS).ext (X' := [bm]) hT (by simp) (fun b h => .inr (by simp at h; omega))
  replace hS := hS.trans hT
  clear hT hbm
  refine W ?_
  refine WL_eff (OE_call rfl evs0 (Kinds_any [bm] _ (fun b h => by simp at h; rw [h]; exact hmk.lt))) rfl ?_
  rintro kv wP ⟨hrk, hT⟩
  have hkv := hrk.slv (X := [bm]) (fun b h => by simp at h; rw [h]; exact hmk.lt)
  replace hmk := hmk.up hT
  replace e2 := e2.up hT
  replace hsl := hsl.up hT
  replace hS := hS.trans hT
  clear hT hrk
  refine W ?_
  refine WC_cutQ (σ := Nat × Str × Int × Str) (fun q => [(2, .pointer (some ⟨b2, 0, none⟩)), (3, .pointer (some ⟨bm, 0, none⟩)), (4, kv), (5, .pointer (some ⟨q.1, 0, none⟩))])
    (fun q w' => Mk w' bm (.slice p l.length c) 3 ∧ SlV [q.1, bm] w' (.slice p l.length c) l ∧ SlV [q.1, bm] w' kv kinds7 ∧ (∃ cs : List Value, cs.length = 13 ∧ Blk w' b2 38 cs) ∧ Blk w' q.1 38 (rlC ⟨q.2.1, 739600 + q.2.2.1, q.2.2.2, nil4, nil4, [], []⟩ nilS nilS) ∧ q.2.1 ∈ names4 ∧ (0 ≤ q.2.2.1 ∧ q.2.2.1 < 30) ∧ q.2.2.2 ∈ kinds7 ∧ q.1 ≠ bm ∧ q.1 ≠ b2 ∧ wP.heap.size ≤ q.1 ∧ Stp [bm] wP w') ?_ ?_
  · refine WC_drawn 16 ([bm]) [15] [(1, 0), (5, 0), (8, 0), (9, 0), (0, 17), (2, 17), (3, 0), (4, 1), (6, 17), (7, 0), (10, 17), (11, 0), (12, 1), (13, 0), (14, 2), (15, 2)] rfl mixed (by kernel_rfl) (by kernel_rfl) (by kernel_rfl) (fun w1 hS1 => ?_)
    have hP : Stp [bm] wP w1 := hS1.mono (by simp)
    replace hmk := hmk.up hS1
    replace hsl := hsl.up hS1
    replace hkv := hkv.up hS1
    replace e2 := e2.up hS1
    clear hS1
    refine D ?_
    apply WD_two
    · rfl
    · refine WD1_eff rfl trivial (OE_call rfl (evs1 rfl) (words_any [bm] [97, 32, 98, 32, 99, 49, 48, 32, 97, 110, 115, 119, 101, 114] _ (fun b h => by simp at h; rw [h]; exact hmk.lt) (by decide))) (fun _ _ h => h.2.mono (by simp)) rfl ?_
      rintro wv wq ⟨hrw, hT⟩
      rw [show wordsOf [97, 32, 98, 32, 99, 49, 48, 32, 97, 110, 115, 119, 101, 114] = names4 by decide +kernel] at hrw
      have hw := hrw.slv (X := [bm]) (fun b h => by simp at h; rw [h]; exact hmk.lt)
      replace hmk := hmk.up hT
      replace hsl := hsl.ext hT (by simp) (fun _ h => .inl h)
      replace hkv := hkv.ext hT (by simp) (fun _ h => .inl h)
      replace hP := hP.trans (hT.mono (by simp))
      replace e2 := e2.ext hT (by simp; try exact n2)
      clear hT hrw
      refine D ?_
      apply WD_two
      · rfl
      · refine WD1_eff rfl trivial (OE_call rfl (evs2 rfl rfl) (Next_any bm (.slice p l.length c) l 0 4 _ (by decide) (by decide) hmk (hsl.wk (fun b h => by simp at h; simp [h])) hl)) (fun _ _ h => h.choose_spec.2.2.2.mono (by simp)) rfl ?_
        rintro _ wq ⟨q1, rfl, hq1, hmk, hT⟩
        replace hsl := hsl.ext hT (by simp) (fun _ h => .inl h)
        replace hkv := hkv.ext hT (by simp) (fun _ h => .inl h)
        replace hP := hP.trans (hT.mono (by simp))
        replace e2 := e2.ext hT (by simp; try exact n2)
        replace hw := hw.ext hT (by simp) (fun _ h => .inl h)
        clear hT
        have hq1n : q1 < names4.length := by show q1 < 4; omega
        refine D ?_
        apply WD_two
        · rfl
        · refine WD1_eff rfl trivial (OE_call rfl (evs2 rfl rfl) (Next_any bm (.slice p l.length c) l 1 30 _ (by decide) (by decide) hmk (hsl.wk (fun b h => by simp at h; simp [h])) hl)) (fun _ _ h => h.choose_spec.2.2.2.mono (by simp)) rfl ?_
          rintro _ wq ⟨q2, rfl, hq2, hmk, hT⟩
          replace hsl := hsl.ext hT (by simp) (fun _ h => .inl h)
          replace hkv := hkv.ext hT (by simp) (fun _ h => .inl h)
          replace hP := hP.trans (hT.mono (by simp))
          replace e2 := e2.ext hT (by simp; try exact n2)
          replace hw := hw.ext hT (by simp) (fun _ h => .inl h)
          clear hT
          refine D ?_
          apply WD_two
          · rfl
          · refine WD1_eff rfl trivial (OE_call rfl (evs2 rfl rfl) (Next_any bm (.slice p l.length c) l 2 7 _ (by decide) (by decide) hmk (hsl.wk (fun b h => by simp at h; simp [h])) hl)) (fun _ _ h => h.choose_spec.2.2.2.mono (by simp)) rfl ?_
            rintro _ wq ⟨q3, rfl, hq3, hmk, hT⟩
            replace hsl := hsl.ext hT (by simp) (fun _ h => .inl h)
            replace hkv := hkv.ext hT (by simp) (fun _ h => .inl h)
            replace hP := hP.trans (hT.mono (by simp))
            replace e2 := e2.ext hT (by simp; try exact n2)
            replace hw := hw.ext hT (by simp) (fun _ h => .inl h)
            clear hT
            have hq3n : q3 < kinds7.length := by show q3 < 7; omega
            refine D ?_
            try (refine WF_build rfl trivial (vs := [(0, str names4[q1]), (1, .int .i64 (739600 + (q2 : Int))), (2, str kinds7[q3])]) rfl (buildRl _ _ _) rfl ?_)
            refine D ?_
            refine WD_eff rfl trivial OE_alloc (fun _ _ h => h.choose_spec.2.2.2.mono (by simp)) rfl ?_
            rintro _ wq ⟨b5, rfl, hb5, e5, hT⟩
            have n5 : b5 ≠ bm := by have := hmk.lt; omega
            have n52 : b5 ≠ b2 := by have := e2.lt; omega
            have hb5w : wP.heap.size ≤ b5 := Nat.le_trans hP.size hb5
            replace hmk := hmk.up hT
            replace hsl := hsl.ext (X' := [b5, bm]) hT (by simp) (fun b h => by simp at h; rcases h with rfl | rfl; exact .inr hb5; exact .inl (by simp))
            replace hkv := hkv.ext (X' := [b5, bm]) hT (by simp) (fun b h => by simp at h; rcases h with rfl | rfl; exact .inr hb5; exact .inl (by simp))
            replace hP := hP.trans (hT.mono (by simp))
            replace e2 := e2.ext hT (by simp; try exact n2)
            replace hw := hw.ext hT (by simp) (fun _ h => .inl h)
            clear hT hb5
            refine D ?_
            refine WD_late0 rfl trivial (OE_storeA (us := rlC ⟨names4[q1], 739600 + (q2 : Int), kinds7[q3], nil4, nil4, [], []⟩ nilS nilS) rfl rfl rfl rfl (rlC_one _ (nilSlv [] wq) (nilSlv [] wq)) e5 rfl) rfl ?_
            rintro _ wz ⟨hZ, e5z⟩
            refine D ?_
            refine WQ_cut (b5, names4[q1], (q2 : Int), kinds7[q3]) ⟨rfl, rfl, rfl, rfl, trivial⟩ ⟨hmk.ext hZ (by simp; exact n5.symm), hsl.ext hZ (by simp) (fun _ h => .inl h), hkv.ext hZ (by simp) (fun _ h => .inl h), ⟨_, rfl, e2.ext hZ (by simp; exact n52.symm)⟩, e5z, List.getElem_mem _, by simp only; omega, List.getElem_mem _, n5, n52, hb5w, hP.own hZ (fun b hb => .inr (by simp at hb; omega))⟩
          · refine WD1_eff rfl trivial OE_alloc (fun _ _ h => h.choose_spec.2.2.2.mono (by simp)) rfl ?_
            rintro _ wq ⟨b5, rfl, hb5, e5, hT⟩
            have n5 : b5 ≠ bm := by have := hmk.lt; omega
            have n52 : b5 ≠ b2 := by have := e2.lt; omega
            have hb5w : wP.heap.size ≤ b5 := Nat.le_trans hP.size hb5
            replace hmk := hmk.up hT
            replace hsl := hsl.ext (X' := [b5, bm]) hT (by simp) (fun b h => by simp at h; rcases h with rfl | rfl; exact .inr hb5; exact .inl (by simp))
            replace hkv := hkv.ext (X' := [b5, bm]) hT (by simp) (fun b h => by simp at h; rcases h with rfl | rfl; exact .inr hb5; exact .inl (by simp))
            replace hP := hP.trans (hT.mono (by simp))
            replace e2 := e2.ext hT (by simp; try exact n2)
            replace hw := hw.ext hT (by simp) (fun _ h => .inl h)
            clear hT hb5
            refine D ?_
            refine WD_eff rfl trivial (OE_call rfl (evs2 rfl rfl) (Next_any bm (.slice p l.length c) l 2 7 _ (by decide) (by decide) hmk (hsl.wk (fun b h => by simp at h; simp [h])) hl)) (fun _ _ h => h.choose_spec.2.2.2.mono (by simp)) rfl ?_
            rintro _ wq ⟨q3, rfl, hq3, hmk, hT⟩
            replace hsl := hsl.ext hT (by simp) (fun _ h => .inl h)
            replace hkv := hkv.ext hT (by simp) (fun _ h => .inl h)
            replace hP := hP.trans (hT.mono (by simp))
            replace e2 := e2.ext hT (by simp; try exact n2)
            replace hw := hw.ext hT (by simp) (fun _ h => .inl h)
            replace e5 := e5.ext hT (by simp; try exact n5)
            clear hT
            have hq3n : q3 < kinds7.length := by show q3 < 7; omega
            refine D ?_
            try (refine WF_build rfl trivial (vs := [(0, str names4[q1]), (1, .int .i64 (739600 + (q2 : Int))), (2, str kinds7[q3])]) rfl (buildRl _ _ _) rfl ?_)
            refine D ?_
            refine WD_late0 rfl trivial (OE_storeA (us := rlC ⟨names4[q1], 739600 + (q2 : Int), kinds7[q3], nil4, nil4, [], []⟩ nilS nilS) rfl rfl rfl rfl (rlC_one _ (nilSlv [] wq) (nilSlv [] wq)) e5 rfl) rfl ?_
            rintro _ wz ⟨hZ, e5z⟩
            refine D ?_
            refine WQ_cut (b5, names4[q1], (q2 : Int), kinds7[q3]) ⟨rfl, rfl, rfl, rfl, trivial⟩ ⟨hmk.ext hZ (by simp; exact n5.symm), hsl.ext hZ (by simp) (fun _ h => .inl h), hkv.ext hZ (by simp) (fun _ h => .inl h), ⟨_, rfl, e2.ext hZ (by simp; exact n52.symm)⟩, e5z, List.getElem_mem _, by simp only; omega, List.getElem_mem _, n5, n52, hb5w, hP.own hZ (fun b hb => .inr (by simp at hb; omega))⟩
        · refine WD1_eff rfl trivial OE_alloc (fun _ _ h => h.choose_spec.2.2.2.mono (by simp)) rfl ?_
          rintro _ wq ⟨b5, rfl, hb5, e5, hT⟩
          have n5 : b5 ≠ bm := by have := hmk.lt; omega
          have n52 : b5 ≠ b2 := by have := e2.lt; omega
          have hb5w : wP.heap.size ≤ b5 := Nat.le_trans hP.size hb5
          replace hmk := hmk.up hT
          replace hsl := hsl.ext (X' := [b5, bm]) hT (by simp) (fun b h => by simp at h; rcases h with rfl | rfl; exact .inr hb5; exact .inl (by simp))
          replace hkv := hkv.ext (X' := [b5, bm]) hT (by simp) (fun b h => by simp at h; rcases h with rfl | rfl; exact .inr hb5; exact .inl (by simp))
          replace hP := hP.trans (hT.mono (by simp))
          replace e2 := e2.ext hT (by simp; try exact n2)
          replace hw := hw.ext hT (by simp) (fun _ h => .inl h)
          clear hT hb5
          refine D ?_
          refine WD_eff rfl trivial (OE_call rfl (evs2 rfl rfl) (Next_any bm (.slice p l.length c) l 1 30 _ (by decide) (by decide) hmk (hsl.wk (fun b h => by simp at h; simp [h])) hl)) (fun _ _ h => h.choose_spec.2.2.2.mono (by simp)) rfl ?_
          rintro _ wq ⟨q2, rfl, hq2, hmk, hT⟩
          replace hsl := hsl.ext hT (by simp) (fun _ h => .inl h)
          replace hkv := hkv.ext hT (by simp) (fun _ h => .inl h)
          replace hP := hP.trans (hT.mono (by simp))
          replace e2 := e2.ext hT (by simp; try exact n2)
          replace hw := hw.ext hT (by simp) (fun _ h => .inl h)
          replace e5 := e5.ext hT (by simp; try exact n5)
          clear hT
          refine D ?_
          refine WD_eff rfl trivial (OE_call rfl (evs2 rfl rfl) (Next_any bm (.slice p l.length c) l 2 7 _ (by decide) (by decide) hmk (hsl.wk (fun b h => by simp at h; simp [h])) hl)) (fun _ _ h => h.choose_spec.2.2.2.mono (by simp)) rfl ?_
          rintro _ wq ⟨q3, rfl, hq3, hmk, hT⟩
          replace hsl := hsl.ext hT (by simp) (fun _ h => .inl h)
          replace hkv := hkv.ext hT (by simp) (fun _ h => .inl h)
          replace hP := hP.trans (hT.mono (by simp))
          replace e2 := e2.ext hT (by simp; try exact n2)
          replace hw := hw.ext hT (by simp) (fun _ h => .inl h)
          replace e5 := e5.ext hT (by simp; try exact n5)
          clear hT
          have hq3n : q3 < kinds7.length := by show q3 < 7; omega
          refine D ?_
          try (refine WF_build rfl trivial (vs := [(0, str names4[q1]), (1, .int .i64 (739600 + (q2 : Int))), (2, str kinds7[q3])]) rfl (buildRl _ _ _) rfl ?_)
          refine D ?_
          refine WD_late0 rfl trivial (OE_storeA (us := rlC ⟨names4[q1], 739600 + (q2 : Int), kinds7[q3], nil4, nil4, [], []⟩ nilS nilS) rfl rfl rfl rfl (rlC_one _ (nilSlv [] wq) (nilSlv [] wq)) e5 rfl) rfl ?_
          rintro _ wz ⟨hZ, e5z⟩
          refine D ?_
          refine WQ_cut (b5, names4[q1], (q2 : Int), kinds7[q3]) ⟨rfl, rfl, rfl, rfl, trivial⟩ ⟨hmk.ext hZ (by simp; exact n5.symm), hsl.ext hZ (by simp) (fun _ h => .inl h), hkv.ext hZ (by simp) (fun _ h => .inl h), ⟨_, rfl, e2.ext hZ (by simp; exact n52.symm)⟩, e5z, List.getElem_mem _, by simp only; omega, List.getElem_mem _, n5, n52, hb5w, hP.own hZ (fun b hb => .inr (by simp at hb; omega))⟩
      · refine WD1_eff rfl trivial OE_alloc (fun _ _ h => h.choose_spec.2.2.2.mono (by simp)) rfl ?_
        rintro _ wq ⟨b5, rfl, hb5, e5, hT⟩
        have n5 : b5 ≠ bm := by have := hmk.lt; omega
        have n52 : b5 ≠ b2 := by have := e2.lt; omega
        have hb5w : wP.heap.size ≤ b5 := Nat.le_trans hP.size hb5
        replace hmk := hmk.up hT
        replace hsl := hsl.ext (X' := [b5, bm]) hT (by simp) (fun b h => by simp at h; rcases h with rfl | rfl; exact .inr hb5; exact .inl (by simp))
        replace hkv := hkv.ext (X' := [b5, bm]) hT (by simp) (fun b h => by simp at h; rcases h with rfl | rfl; exact .inr hb5; exact .inl (by simp))
        replace hP := hP.trans (hT.mono (by simp))
        replace e2 := e2.ext hT (by simp; try exact n2)
        replace hw := hw.ext hT (by simp) (fun _ h => .inl h)
        clear hT hb5
        refine D ?_
        refine WD_eff rfl trivial (OE_call rfl (evs2 rfl rfl) (Next_any bm (.slice p l.length c) l 0 4 _ (by decide) (by decide) hmk (hsl.wk (fun b h => by simp at h; simp [h])) hl)) (fun _ _ h => h.choose_spec.2.2.2.mono (by simp)) rfl ?_
        rintro _ wq ⟨q1, rfl, hq1, hmk, hT⟩
        replace hsl := hsl.ext hT (by simp) (fun _ h => .inl h)
        replace hkv := hkv.ext hT (by simp) (fun _ h => .inl h)
        replace hP := hP.trans (hT.mono (by simp))
        replace e2 := e2.ext hT (by simp; try exact n2)
        replace hw := hw.ext hT (by simp) (fun _ h => .inl h)
        replace e5 := e5.ext hT (by simp; try exact n5)
        clear hT
        have hq1n : q1 < names4.length := by show q1 < 4; omega
        refine D ?_
        refine WD_eff rfl trivial (OE_call rfl (evs2 rfl rfl) (Next_any bm (.slice p l.length c) l 1 30 _ (by decide) (by decide) hmk (hsl.wk (fun b h => by simp at h; simp [h])) hl)) (fun _ _ h => h.choose_spec.2.2.2.mono (by simp)) rfl ?_
        rintro _ wq ⟨q2, rfl, hq2, hmk, hT⟩
        replace hsl := hsl.ext hT (by simp) (fun _ h => .inl h)
        replace hkv := hkv.ext hT (by simp) (fun _ h => .inl h)
        replace hP := hP.trans (hT.mono (by simp))
        replace e2 := e2.ext hT (by simp; try exact n2)
        replace hw := hw.ext hT (by simp) (fun _ h => .inl h)
        replace e5 := e5.ext hT (by simp; try exact n5)
        clear hT
        refine D ?_
        refine WD_eff rfl trivial (OE_call rfl (evs2 rfl rfl) (Next_any bm (.slice p l.length c) l 2 7 _ (by decide) (by decide) hmk (hsl.wk (fun b h => by simp at h; simp [h])) hl)) (fun _ _ h => h.choose_spec.2.2.2.mono (by simp)) rfl ?_
        rintro _ wq ⟨q3, rfl, hq3, hmk, hT⟩
        replace hsl := hsl.ext hT (by simp) (fun _ h => .inl h)
        replace hkv := hkv.ext hT (by simp) (fun _ h => .inl h)
        replace hP := hP.trans (hT.mono (by simp))
        replace e2 := e2.ext hT (by simp; try exact n2)
        replace hw := hw.ext hT (by simp) (fun _ h => .inl h)
        replace e5 := e5.ext hT (by simp; try exact n5)
        clear hT
        have hq3n : q3 < kinds7.length := by show q3 < 7; omega
        refine D ?_
        try (refine WF_build rfl trivial (vs := [(0, str names4[q1]), (1, .int .i64 (739600 + (q2 : Int))), (2, str kinds7[q3])]) rfl (buildRl _ _ _) rfl ?_)
        refine D ?_
        refine WD_late0 rfl trivial (OE_storeA (us := rlC ⟨names4[q1], 739600 + (q2 : Int), kinds7[q3], nil4, nil4, [], []⟩ nilS nilS) rfl rfl rfl rfl (rlC_one _ (nilSlv [] wq) (nilSlv [] wq)) e5 rfl) rfl ?_
        rintro _ wz ⟨hZ, e5z⟩
        refine D ?_
        refine WQ_cut (b5, names4[q1], (q2 : Int), kinds7[q3]) ⟨rfl, rfl, rfl, rfl, trivial⟩ ⟨hmk.ext hZ (by simp; exact n5.symm), hsl.ext hZ (by simp) (fun _ h => .inl h), hkv.ext hZ (by simp) (fun _ h => .inl h), ⟨_, rfl, e2.ext hZ (by simp; exact n52.symm)⟩, e5z, List.getElem_mem _, by simp only; omega, List.getElem_mem _, n5, n52, hb5w, hP.own hZ (fun b hb => .inr (by simp at hb; omega))⟩
    · refine WD1_eff rfl trivial OE_alloc (fun _ _ h => h.choose_spec.2.2.2.mono (by simp)) rfl ?_
      rintro _ wq ⟨b5, rfl, hb5, e5, hT⟩
      have n5 : b5 ≠ bm := by have := hmk.lt; omega
      have n52 : b5 ≠ b2 := by have := e2.lt; omega
      have hb5w : wP.heap.size ≤ b5 := Nat.le_trans hP.size hb5
      replace hmk := hmk.up hT
      replace hsl := hsl.ext (X' := [b5, bm]) hT (by simp) (fun b h => by simp at h; rcases h with rfl | rfl; exact .inr hb5; exact .inl (by simp))
      replace hkv := hkv.ext (X' := [b5, bm]) hT (by simp) (fun b h => by simp at h; rcases h with rfl | rfl; exact .inr hb5; exact .inl (by simp))
      replace hP := hP.trans (hT.mono (by simp))
      replace e2 := e2.ext hT (by simp; try exact n2)
      clear hT hb5
      refine D ?_
      refine WD_eff rfl trivial (OE_call rfl (evs1 rfl) (words_any [bm] [97, 32, 98, 32, 99, 49, 48, 32, 97, 110, 115, 119, 101, 114] _ (fun b h => by simp at h; rw [h]; exact hmk.lt) (by decide))) (fun _ _ h => h.2.mono (by simp)) rfl ?_
      rintro wv wq ⟨hrw, hT⟩
      rw [show wordsOf [97, 32, 98, 32, 99, 49, 48, 32, 97, 110, 115, 119, 101, 114] = names4 by decide +kernel] at hrw
      have hw := hrw.slv (X := [bm]) (fun b h => by simp at h; rw [h]; exact hmk.lt)
      replace hmk := hmk.up hT
      replace hsl := hsl.ext hT (by simp) (fun _ h => .inl h)
      replace hkv := hkv.ext hT (by simp) (fun _ h => .inl h)
      replace hP := hP.trans (hT.mono (by simp))
      replace e2 := e2.ext hT (by simp; try exact n2)
      replace e5 := e5.ext hT (by simp; try exact n5)
      clear hT hrw
      refine D ?_
      refine WD_eff rfl trivial (OE_call rfl (evs2 rfl rfl) (Next_any bm (.slice p l.length c) l 0 4 _ (by decide) (by decide) hmk (hsl.wk (fun b h => by simp at h; simp [h])) hl)) (fun _ _ h => h.choose_spec.2.2.2.mono (by simp)) rfl ?_
      rintro _ wq ⟨q1, rfl, hq1, hmk, hT⟩
      replace hsl := hsl.ext hT (by simp) (fun _ h => .inl h)
      replace hkv := hkv.ext hT (by simp) (fun _ h => .inl h)
      replace hP := hP.trans (hT.mono (by simp))
      replace e2 := e2.ext hT (by simp; try exact n2)
      replace hw := hw.ext hT (by simp) (fun _ h => .inl h)
      replace e5 := e5.ext hT (by simp; try exact n5)
      clear hT
      have hq1n : q1 < names4.length := by show q1 < 4; omega
      refine D ?_
      refine WD_eff rfl trivial (OE_call rfl (evs2 rfl rfl) (Next_any bm (.slice p l.length c) l 1 30 _ (by decide) (by decide) hmk (hsl.wk (fun b h => by simp at h; simp [h])) hl)) (fun _ _ h => h.choose_spec.2.2.2.mono (by simp)) rfl ?_
      rintro _ wq ⟨q2, rfl, hq2, hmk, hT⟩
      replace hsl := hsl.ext hT (by simp) (fun _ h => .inl h)
      replace hkv := hkv.ext hT (by simp) (fun _ h => .inl h)
      replace hP := hP.trans (hT.mono (by simp))
      replace e2 := e2.ext hT (by simp; try exact n2)
      replace hw := hw.ext hT (by simp) (fun _ h => .inl h)
      replace e5 := e5.ext hT (by simp; try exact n5)
      clear hT
      refine D ?_
      refine WD_eff rfl trivial (OE_call rfl (evs2 rfl rfl) (Next_any bm (.slice p l.length c) l 2 7 _ (by decide) (by decide) hmk (hsl.wk (fun b h => by simp at h; simp [h])) hl)) (fun _ _ h => h.choose_spec.2.2.2.mono (by simp)) rfl ?_
      rintro _ wq ⟨q3, rfl, hq3, hmk, hT⟩
      replace hsl := hsl.ext hT (by simp) (fun _ h => .inl h)
      replace hkv := hkv.ext hT (by simp) (fun _ h => .inl h)
      replace hP := hP.trans (hT.mono (by simp))
      replace e2 := e2.ext hT (by simp; try exact n2)
      replace hw := hw.ext hT (by simp) (fun _ h => .inl h)
      replace e5 := e5.ext hT (by simp; try exact n5)
      clear hT
      have hq3n : q3 < kinds7.length := by show q3 < 7; omega
      refine D ?_
      try (refine WF_build rfl trivial (vs := [(0, str names4[q1]), (1, .int .i64 (739600 + (q2 : Int))), (2, str kinds7[q3])]) rfl (buildRl _ _ _) rfl ?_)
      refine D ?_
      refine WD_late0 rfl trivial (OE_storeA (us := rlC ⟨names4[q1], 739600 + (q2 : Int), kinds7[q3], nil4, nil4, [], []⟩ nilS nilS) rfl rfl rfl rfl (rlC_one _ (nilSlv [] wq) (nilSlv [] wq)) e5 rfl) rfl ?_
      rintro _ wz ⟨hZ, e5z⟩
      refine D ?_
      refine WQ_cut (b5, names4[q1], (q2 : Int), kinds7[q3]) ⟨rfl, rfl, rfl, rfl, trivial⟩ ⟨hmk.ext hZ (by simp; exact n5.symm), hsl.ext hZ (by simp) (fun _ h => .inl h), hkv.ext hZ (by simp) (fun _ h => .inl h), ⟨_, rfl, e2.ext hZ (by simp; exact n52.symm)⟩, e5z, List.getElem_mem _, by simp only; omega, List.getElem_mem _, n5, n52, hb5w, hP.own hZ (fun b hb => .inr (by simp at hb; omega))⟩
  clear hmk hsl hkv e2
  rintro ⟨b5, a, f, o⟩ w3 ⟨hmk, hsl, hkv, ⟨cs2, hl2, e2⟩, e5, ha, hf, ho, n5, n52, hb5w, hP⟩
  dsimp only at hmk hsl hkv e2 e5 ha hf ho n5 n52 hb5w hP
  have z3 : szD 3 = 13 := by decide
  have z4 : szD 4 = 40 := by decide
  refine W ?_
  refine WL_eff (OE_call rfl (evs2 rfl rfl) (Next_any bm (.slice p l.length c) l 3 3 _ (by decide) (by omega) hmk (hsl.wk (fun b h => by simp at h; simp [h])) hl)) rfl ?_
  rintro _ w4 ⟨q, rfl, hq, hmk, hT⟩
  replace hsl := hsl.ext hT (by simp) (fun _ h => .inl h)
  replace hkv := hkv.ext hT (by simp) (fun _ h => .inl h)
  replace hP := hP.trans hT
  replace e2 := e2.ext hT (by simp; exact n2)
  replace e5 := e5.ext hT (by simp; exact n5)
  clear hT
  refine W ?_
  refine WC_cutQ (σ := Str × Nat) (fun _ => [(2, .pointer (some ⟨b2, 0, none⟩)), (3, .pointer (some ⟨bm, 0, none⟩)), (4, kv), (5, .pointer (some ⟨b5, 0, none⟩))])
    (fun q w' => Mk w' bm (.slice p l.length c) q.2 ∧ q.2 ≤ 5 ∧ SlV [b5, bm] w' (.slice p l.length c) l ∧ SlV [b5, bm] w' kv kinds7 ∧ Blk w' b2 38 cs2 ∧ Blk w' b5 38 (rlC ⟨a, 739600 + f, o, nil4, nil4, q.1, []⟩ nilS nilS) ∧ (q.1 = [] ∨ q.1 ∈ kinds7) ∧ Stp [bm] wP w') ?_ ?_
  · repeat' (first | refine W1 ?_ | (exfalso; omega) | refine WL_split rfl rfl (fun hg => ?_) (fun hg => ?_) | refine WL_splitB rfl rfl (fun hg => ?_) (fun hg => ?_) | refine WC_cond rfl (fun hc => ?_) (fun hc => ?_) | refine WC_condB rfl (fun hc => ?_) (fun hc => ?_))
    · refine WL_eff (OE_call rfl (evs2 rfl rfl) (Next_any bm (.slice p l.length c) l _ 7 _ (by decide) (by omega) hmk (hsl.wk (fun b h => by simp at h; simp [h])) hl)) rfl ?_
      rintro _ w4 ⟨z, rfl, hz, hmk, hT⟩
      replace hsl := hsl.ext hT (by simp) (fun _ h => .inl h)
      replace hkv := hkv.ext hT (by simp) (fun _ h => .inl h)
      replace hP := hP.trans hT
      replace e2 := e2.ext hT (by simp; exact n2)
      replace e5 := e5.ext hT (by simp; exact n5)
      clear hT
      have hqn : z < kinds7.length := by show z < 7; omega
      refine W ?_
      refine WL_eff0 (OE_store1 (u := str kinds7[z]) rfl rfl rfl rfl e5 (by simp)) ?_
      rintro _ w6 ⟨hT, e5⟩
      replace hmk := hmk.ext hT (by simp; exact n5.symm)
      replace hsl := hsl.ext hT (by simp) (fun _ h => .inl h)
      replace hkv := hkv.ext hT (by simp) (fun _ h => .inl h)
      replace hP := hP.own hT (fun b hb => .inr (by simp at hb; omega))
      replace e2 := e2.ext hT (by simp; exact n52.symm)
      clear hT
      refine W ?_
      exact WQ_cut (kinds7[z], _) ⟨rfl, rfl, rfl, rfl, trivial⟩ ⟨hmk, by simp only; omega, hsl, hkv, e2, e5, .inr (List.getElem_mem _), hP⟩
    · exact WQ_cut ([], _) ⟨rfl, rfl, rfl, rfl, trivial⟩ ⟨hmk, by simp only; omega, hsl, hkv, e2, e5, .inl rfl, hP⟩
  clear hmk hsl hkv e2 e5 hP
  rintro ⟨u, iu⟩ w3 ⟨hmk, hiu, hsl, hkv, e2, e5, hu, hP⟩
  dsimp only at hmk hiu hsl hkv e2 e5 hu hP
  refine W ?_
  refine WL_eff (OE_call rfl (evs2 rfl rfl) (Next_any bm (.slice p l.length c) l _ 3 _ (by decide) (by omega) hmk (hsl.wk (fun b h => by simp at h; simp [h])) hl)) rfl ?_
  rintro _ w4 ⟨q, rfl, hq, hmk, hT⟩
  replace hsl := hsl.ext hT (by simp) (fun _ h => .inl h)
  replace hkv := hkv.ext hT (by simp) (fun _ h => .inl h)
  replace hP := hP.trans hT
  replace e2 := e2.ext hT (by simp; exact n2)
  replace e5 := e5.ext hT (by simp; exact n5)
  clear hT
  refine W ?_
  refine WC_cutQ (σ := Str × Nat) (fun _ => [(2, .pointer (some ⟨b2, 0, none⟩)), (3, .pointer (some ⟨bm, 0, none⟩)), (4, kv), (5, .pointer (some ⟨b5, 0, none⟩))])
    (fun q w' => Mk w' bm (.slice p l.length c) q.2 ∧ q.2 ≤ 7 ∧ SlV [b5, bm] w' (.slice p l.length c) l ∧ SlV [b5, bm] w' kv kinds7 ∧ Blk w' b2 38 cs2 ∧ Blk w' b5 38 (rlC ⟨a, 739600 + f, o, nil4, nil4, u, q.1⟩ nilS nilS) ∧ (q.1 = [] ∨ q.1 ∈ kinds7) ∧ Stp [bm] wP w') ?_ ?_
  · repeat' (first | refine W1 ?_ | (exfalso; omega) | refine WL_split rfl rfl (fun hg => ?_) (fun hg => ?_) | refine WL_splitB rfl rfl (fun hg => ?_) (fun hg => ?_) | refine WC_cond rfl (fun hc => ?_) (fun hc => ?_) | refine WC_condB rfl (fun hc => ?_) (fun hc => ?_))
    · refine WL_eff (OE_call rfl (evs2 rfl rfl) (Next_any bm (.slice p l.length c) l _ 7 _ (by decide) (by omega) hmk (hsl.wk (fun b h => by simp at h; simp [h])) hl)) rfl ?_
      rintro _ w4 ⟨z, rfl, hz, hmk, hT⟩
      replace hsl := hsl.ext hT (by simp) (fun _ h => .inl h)
      replace hkv := hkv.ext hT (by simp) (fun _ h => .inl h)
      replace hP := hP.trans hT
      replace e2 := e2.ext hT (by simp; exact n2)
      replace e5 := e5.ext hT (by simp; exact n5)
      clear hT
      have hqn : z < kinds7.length := by show z < 7; omega
      refine W ?_
      refine WL_eff0 (OE_store1 (u := str kinds7[z]) rfl rfl rfl rfl e5 (by simp)) ?_
      rintro _ w6 ⟨hT, e5⟩
      replace hmk := hmk.ext hT (by simp; exact n5.symm)
      replace hsl := hsl.ext hT (by simp) (fun _ h => .inl h)
      replace hkv := hkv.ext hT (by simp) (fun _ h => .inl h)
      replace hP := hP.own hT (fun b hb => .inr (by simp at hb; omega))
      replace e2 := e2.ext hT (by simp; exact n52.symm)
      clear hT
      refine W ?_
      exact WQ_cut (kinds7[z], _) ⟨rfl, rfl, rfl, rfl, trivial⟩ ⟨hmk, by simp only; omega, hsl, hkv, e2, e5, .inr (List.getElem_mem _), hP⟩
    · exact WQ_cut ([], _) ⟨rfl, rfl, rfl, rfl, trivial⟩ ⟨hmk, by simp only; omega, hsl, hkv, e2, e5, .inl rfl, hP⟩
  clear hmk hsl hkv e2 e5 hP
  rintro ⟨v, iv⟩ w3 ⟨hmk, hiv, hsl, hkv, e2, e5, hv, hP⟩
  dsimp only at hmk hiv hsl hkv e2 e5 hv hP
  refine W ?_
  have hX3 : ∀ b ∈ b5 :: b2 :: bm :: X, b < w3.heap.size := fun b hb => by
    have h1 := e5.lt; have h2 := e2.lt; have h3 := hmk.lt; have h4 := hS.size; have h5 := hP.size
    simp only [List.mem_cons] at hb
    rcases hb with rfl | rfl | rfl | h
    · omega
    · omega
    · omega
    · have := hX b h; omega
  refine WL_eff (OE_call rfl (evs2 rfl rfl) ((gens 3 (by decide) (by decide)).2.1 (b5 :: b2 :: bm :: X) _ bm _ l _ _ rfl hmk (hsl.wk (fun b h => by simp at h; simp [h])) hl (by rw [z3]; omega) hX3)) rfl ?_
  clear hX3
  rintro _ w3 ⟨y, iy, ⟨ky, rfl, hy⟩, hsy, ⟨hty, hny⟩, hmk, hiy, hT⟩
  replace hsl := hsl.ext hT (by simp) (fun _ h => .inl h)
  replace hkv := hkv.ext hT (by simp) (fun _ h => .inl h)
  replace hP := hP.trans hT
  replace e2 := e2.ext hT (by simp; exact n2)
  replace e5 := e5.ext hT (by simp; exact n5)
  clear hT
  refine W ?_
  refine WL_eff0 (OE_store (us := ndC y ky) rfl rfl rfl rfl (ndC_one hy) e5 (by simp)) ?_
  rintro _ w3 ⟨hT, e5⟩
  replace e5 : Blk w3 b5 38 (rlC ⟨a, 739600 + f, o, y, nil4, u, v⟩ ky nilS) := e5
  replace hy := hy.ext hT (by simp) (fun _ h => .inl h)
  replace hmk := hmk.ext hT (by simp; exact n5.symm)
  replace hsl := hsl.ext hT (by simp) (fun _ h => .inl h)
  replace hkv := hkv.ext hT (by simp) (fun _ h => .inl h)
  replace hP := hP.own hT (fun b hb => .inr (by simp at hb; omega))
  replace e2 := e2.ext hT (by simp; exact n52.symm)
  clear hT
  refine W ?_
  have hX3 : ∀ b ∈ b5 :: b2 :: bm :: X, b < w3.heap.size := fun b hb => by
    have h1 := e5.lt; have h2 := e2.lt; have h3 := hmk.lt; have h4 := hS.size; have h5 := hP.size
    simp only [List.mem_cons] at hb
    rcases hb with rfl | rfl | rfl | h
    · omega
    · omega
    · omega
    · have := hX b h; omega
  refine WL_eff (OE_call rfl (evs2 rfl rfl) ((gens 4 (by decide) (by decide)).2.2 (b5 :: b2 :: bm :: X) _ bm _ l _ _ rfl hmk (hsl.wk (fun b h => by simp at h; simp [h])) hl (by rw [z4]; omega) hX3)) rfl ?_
  clear hX3
  rintro _ w3 ⟨x, ix, ⟨kx, rfl, hx⟩, hsx, ⟨htx, hnx⟩, hmk, hix, hT⟩
  replace hy := hy.ext hT (by simp) (fun _ h => .inl h)
  replace hsl := hsl.ext hT (by simp) (fun _ h => .inl h)
  replace hkv := hkv.ext hT (by simp) (fun _ h => .inl h)
  replace hP := hP.trans hT
  replace e2 := e2.ext hT (by simp; exact n2)
  replace e5 := e5.ext hT (by simp; exact n5)
  clear hT
  refine W ?_
  refine WL_eff0 (OE_store (us := ndC x kx) rfl rfl rfl rfl (ndC_one hx) e5 (by simp)) ?_
  rintro _ w3 ⟨hT, e5⟩
  replace e5 : Blk w3 b5 38 (rlC ⟨a, 739600 + f, o, y, x, u, v⟩ ky kx) := e5
  replace hy := hy.ext hT (by simp) (fun _ h => .inl h)
  replace hx := hx.ext hT (by simp) (fun _ h => .inl h)
  replace hmk := hmk.ext hT (by simp; exact n5.symm)
  replace hsl := hsl.ext hT (by simp) (fun _ h => .inl h)
  replace hkv := hkv.ext hT (by simp) (fun _ h => .inl h)
  replace hP := hP.own hT (fun b hb => .inr (by simp at hb; omega))
  replace e2 := e2.ext hT (by simp; exact n52.symm)
  clear hT
  refine W ?_
  try (apply WL_pure (PR_loadN_blk (us := rlC ⟨a, 739600 + f, o, y, x, u, v⟩ ky kx) rfl rfl e5 rfl rfl) rfl)
  try refine W ?_
  refine WL_eff0 (OE_storeA (us := rlC ⟨a, 739600 + f, o, y, x, u, v⟩ ky kx) rfl rfl rfl rfl (rlC_one ⟨a, 739600 + f, o, y, x, u, v⟩ hy hx) e2 (by rw [hl2]; rfl)) ?_
  rintro _ w4 ⟨hT, e2⟩
  refine W ?_
  refine WQ_retc rfl rfl rfl e2 rfl ?_
  refine .mk ⟨⟨a, 739600 + f, o, y, x, u, v⟩, ⟨ky, kx, rfl, (hy.ext hT (by simp) (fun _ h => .inl h)).wk (fun b h => by simp [h]), (hx.ext hT (by simp) (fun _ h => .inl h)).wk (fun b h => by simp [h])⟩, by simp only; omega, by simp only; omega, check_ok ha ho hu hv hf hty hny htx hnx, ⟨hny, hnx⟩, ?_⟩
  exact (hS.own hP (fun b hb => .inr (by simp at hb; omega))).own hT (fun b hb => .inr (by simp at hb; omega))
end Go.Proofs.YtgpibcgebpgmiaaGreatDoor


/-
The parser on tokens as a relation without fuel, and its rules (plain Lean).
-/
namespace Go.Eng
open Go Go.RowKit Go.Proofs
set_option linter.unusedVariables false
theorem manyO_mono {m m' : Nat → Nat → Option (Out Nd)} {sep : Nat → Nat → Nat → Out Unit} (hm : ∀ i o r, m i o = some r → m' i o = some r) :
    ∀ (n k : Nat) (ks : List Nd) (i o : Nat) (r : Out (List Nd)), manyO m sep n k ks i o = some r → manyO m' sep n k ks i o = some r
  | 0, k, ks, i, o, r, h => by simpa [manyO] using h
  | n + 1, k, ks, i, o, r, h => by
    simp only [manyO] at h ⊢
    cases h1 : sep k i o with
    | err a c => rw [h1] at h; exact h
    | ok u i1 o1 =>
      rw [h1] at h
      simp only at h ⊢
      cases h2 : m i1 o1 with
      | none => rw [h2] at h; simp at h
      | some r2 =>
        rw [h2] at h
        rw [hm _ _ _ h2]
        cases r2 with
        | err a c => exact h
        | ok x i2 o2 => exact manyO_mono hm n _ _ _ _ _ h
theorem exprO_mono (l : List Tkn) : ∀ (f : Nat) (c : Call) (i o : Nat) (r : Out Nd), exprO l f c i o = some r → exprO l (f + 1) c i o = some r
  | 0, c, i, o, r, h => by simp [exprO] at h
  | f + 1, .expr k, i, o, r, h => by
    have ih := exprO_mono l f
    rw [exprO] at h ⊢
    split at h
    · rename_i hsp
      rw [if_pos hsp]
      cases h1 : opensO l (cur l i).text i o with
      | err a c => rw [h1] at h; exact h
      | ok u i1 o1 =>
        rw [h1] at h
        simp only at h ⊢
        cases h2 : exprO l f (.expr k) i1 o1 with
        | none => rw [h2] at h; simp at h
        | some r2 => rw [h2] at h; rw [ih _ _ _ _ h2]; exact h
    · rename_i hsp
      rw [if_neg hsp]
      split at h
      · rename_i h8; rw [if_pos h8]; exact ih _ _ _ _ h
      · rename_i h8
        rw [if_neg h8]
        cases h2 : exprO l f (.expr (k + 1)) i o with
        | none => rw [h2] at h; simp at h
        | some r2 =>
          rw [h2] at h
          rw [ih _ _ _ _ h2]
          cases r2 with
          | err a c => exact h
          | ok x i2 o2 => exact ih _ _ _ _ h
  | f + 1, .loop k y, i, o, r, h => by
    have ih := exprO_mono l f
    rw [exprO] at h ⊢
    split at h
    · rename_i hk
      rw [if_pos hk]
      cases h2 : exprO l f (.expr (k + 1)) (i + 1) o with
      | none => rw [h2] at h; simp at h
      | some r2 =>
        rw [h2] at h
        rw [ih _ _ _ _ h2]
        cases r2 with
        | err a c => exact h
        | ok x i2 o2 =>
          simp only at h ⊢
          split at h
          · rename_i h5; rw [if_pos h5]; exact ih _ _ _ _ h
          · rename_i h5
            rw [if_neg h5]
            split at h
            · rename_i h4; rw [if_pos h4]; exact h
            · rename_i h4; rw [if_neg h4]; exact ih _ _ _ _ h
    · rename_i hk; rw [if_neg hk]; exact h
  | f + 1, .prim, i, o, r, h => by
    have ih := exprO_mono l f
    have hE : ∀ i o r, exprO l f (.expr 1) i o = some r → exprO l (f + 1) (.expr 1) i o = some r := fun i o r h => ih _ _ _ _ h
    rw [exprO] at h ⊢
    split at h
    · rename_i hc; rw [if_pos hc]; exact h
    rename_i hc; rw [if_neg hc]; clear hc
    split at h
    · rename_i hc; rw [if_pos hc]; exact h
    rename_i hc; rw [if_neg hc]; clear hc
    split at h
    · rename_i hc; rw [if_pos hc]; exact h
    rename_i hc; rw [if_neg hc]; clear hc
    split at h
    · rename_i hc; rw [if_pos hc]; exact h
    rename_i hc; rw [if_neg hc]; clear hc
    split at h
    · rename_i hc
      rw [if_pos hc]
      cases h1 : opensO l [40] i o with
      | err a c => rw [h1] at h; exact h
      | ok u i1 o1 =>
        rw [h1] at h
        simp only at h ⊢
        cases h2 : exprO l f (.expr 1) i1 o1 with
        | none => rw [h2] at h; simp at h
        | some r2 => rw [h2] at h; rw [hE _ _ _ h2]; exact h
    rename_i hc; rw [if_neg hc]; clear hc
    split at h
    · rename_i hc
      rw [if_pos hc]
      cases h1 : opensO l [105, 102] i o with
      | err a c => rw [h1] at h; exact h
      | ok u i1 o1 =>
        rw [h1] at h
        simp only at h ⊢
        cases h2 : exprO l f (.expr 1) i1 o1 with
        | none => rw [h2] at h; simp at h
        | some r2 =>
          rw [h2] at h
          rw [hE _ _ _ h2]
          cases r2 with
          | err a c => exact h
          | ok x i2 o2 =>
            simp only at h ⊢
            cases h3 : manyO (exprO l f (.expr 1)) (thenO l) 2 0 [x] i2 o2 with
            | none => rw [h3] at h; simp at h
            | some r3 => rw [h3] at h; rw [manyO_mono hE _ _ _ _ _ _ h3]; exact h
    rename_i hc; rw [if_neg hc]; clear hc
    split at h
    · rename_i hc
      rw [if_pos hc]
      cases h1 : tokenO l 1 i o with
      | err a c => rw [h1] at h; exact h
      | ok u i1 o1 =>
        rw [h1] at h
        simp only at h ⊢
        cases h2 : opensO l [40] i1 o1 with
        | err a c => rw [h2] at h; exact h
        | ok u2 i2 o2 =>
          rw [h2] at h
          simp only at h ⊢
          cases h3 : manyO (exprO l f (.expr 1)) (commaO l) (argsO (cur l i).text) 0 [] i2 o2 with
          | none => rw [h3] at h; simp at h
          | some r3 => rw [h3] at h; rw [manyO_mono hE _ _ _ _ _ _ h3]; exact h
    rename_i hc; rw [if_neg hc]; clear hc
    split at h
    · rename_i hc; rw [if_pos hc]; exact h
    rename_i hc; rw [if_neg hc]; exact h
theorem exprO_le_mono (l : List Tkn) {f f' : Nat} (h : f ≤ f') {c : Call} {i o : Nat} {r : Out Nd} (he : exprO l f c i o = some r) : exprO l f' c i o = some r := by
  induction h with
  | refl => exact he
  | step _ ih => exact exprO_mono l _ _ _ _ _ ih
/-- what a call gives, with fuel enough -/
def Ev (l : List Tkn) (c : Call) (i o : Nat) (r : Out Nd) : Prop := ∃ f, exprO l f c i o = some r
theorem Ev.whole {l : List Tkn} {i o : Nat} {r : Out Nd} (h : Ev l (.expr 1) i o r) : wholeO l i o = r := by
  obtain ⟨f, h⟩ := h
  have h2 := wholeO_eq l i o
  have h3 := exprO_le_mono l (Nat.le_max_left f (fuelO l i)) h
  have h4 := exprO_le_mono l (Nat.le_max_right f (fuelO l i)) h2
  rw [h3] at h4
  exact (Option.some.inj h4).symm
section
variable {l : List Tkn} {i o i' o' k : Nat} {x y : Nd} {r : Out Nd}
theorem Ev.lvl (hk : k ≠ 8) (hns : ¬ ((k = 3 ∧ (cur l i).text = [110, 111, 116]) ∨ (k = 7 ∧ (cur l i).text = [45]))) (h1 : Ev l (.expr (k + 1)) i o (.ok x i' o')) (h2 : Ev l (.loop k x) i' o' r) : Ev l (.expr k) i o r := by
  obtain ⟨f1, h1⟩ := h1
  obtain ⟨f2, h2⟩ := h2
  refine ⟨max f1 f2 + 1, ?_⟩
  rw [exprO, if_neg hns, if_neg hk, exprO_le_mono l (Nat.le_max_left f1 f2) h1]
  exact exprO_le_mono l (Nat.le_max_right f1 f2) h2
theorem Ev.stop (h : levelO (cur l i).text ≠ k) : Ev l (.loop k x) i o (.ok x i o) := ⟨1, by rw [exprO, if_neg h]⟩
theorem Ev.bin (h : levelO (cur l i).text = k) (h1 : Ev l (.expr (k + 1)) (i + 1) o (.ok y i' o')) (h4 : k ≠ 4) (hu : ¬ (k = 5 ∧ (cur l i').text ∈ unitW))
    (h2 : Ev l (.loop k (.mk 6 0 (cur l i).text [x, y])) i' o' r) : Ev l (.loop k x) i o r := by
  obtain ⟨f1, h1⟩ := h1
  obtain ⟨f2, h2⟩ := h2
  refine ⟨max f1 f2 + 1, ?_⟩
  rw [exprO, if_pos h, exprO_le_mono l (Nat.le_max_left f1 f2) h1]
  simp only
  rw [if_neg hu, if_neg h4]
  exact exprO_le_mono l (Nat.le_max_right f1 f2) h2
theorem Ev.cmp (h : levelO (cur l i).text = 4) (h1 : Ev l (.expr 5) (i + 1) o (.ok y i' o')) : Ev l (.loop 4 x) i o (.ok (.mk 6 0 (cur l i).text [x, y]) i' o') := by
  obtain ⟨f1, h1⟩ := h1
  refine ⟨f1 + 1, ?_⟩
  rw [exprO, if_pos h, h1]
  simp
theorem Ev.unit (h : levelO (cur l i).text = 5) (h1 : Ev l (.expr 6) (i + 1) o (.ok y i' o')) (hu : (cur l i').text ∈ unitW)
    (h2 : Ev l (.loop 5 (.mk (if (cur l i).text = [45] then 8 else 7) 0 (cur l i').text [x, y])) (i' + 1) o' r) : Ev l (.loop 5 x) i o r := by
  obtain ⟨f1, h1⟩ := h1
  obtain ⟨f2, h2⟩ := h2
  refine ⟨max f1 f2 + 1, ?_⟩
  rw [exprO, if_pos h, exprO_le_mono l (Nat.le_max_left f1 f2) h1]
  simp only
  rw [if_pos ⟨trivial, hu⟩]
  exact exprO_le_mono l (Nat.le_max_right f1 f2) h2
theorem Ev.un (hsp : (k = 3 ∧ (cur l i).text = [110, 111, 116]) ∨ (k = 7 ∧ (cur l i).text = [45])) (ho : o < 12) (h1 : Ev l (.expr k) (i + 1) (o + 1) (.ok x i' o')) : Ev l (.expr k) i o (.ok (.mk 5 0 (cur l i).text [x]) i' (o' - 1)) := by
  obtain ⟨f1, h1⟩ := h1
  refine ⟨f1 + 1, ?_⟩
  rw [exprO, if_pos hsp]
  unfold opensO
  rw [if_pos rfl, if_neg (by omega)]
  simp only
  rw [h1]
theorem Ev.p8 (h : Ev l .prim i o r) : Ev l (.expr 8) i o r := by
  obtain ⟨f, h⟩ := h
  refine ⟨f + 1, ?_⟩
  rw [exprO, if_neg (by simp), if_pos rfl]
  exact h
theorem Ev.num (h : (cur l i).kind = 2) : Ev l .prim i o (.ok (.mk 1 (cur l i).num [] []) (i + 1) o) := ⟨1, by rw [exprO]; (try simp only); rw [if_pos h]⟩
theorem Ev.day (h : (cur l i).kind = 3) : Ev l .prim i o (.ok (.mk 3 (cur l i).num [] []) (i + 1) o) := ⟨1, by rw [exprO]; (try simp only); rw [if_neg (by omega), if_pos h]⟩
/-- a word or a symbol -/
def plainK (l : List Tkn) (i : Nat) : Prop := (cur l i).kind ≠ 2 ∧ (cur l i).kind ≠ 3
theorem Ev.true (h0 : plainK l i) (h : (cur l i).text = [116, 114, 117, 101]) : Ev l .prim i o (.ok (.mk 2 1 [] []) (i + 1) o) := ⟨1, by rw [exprO]; (try simp only); rw [if_neg h0.1, if_neg h0.2, if_pos h]⟩
theorem Ev.false (h0 : plainK l i) (h : (cur l i).text = [102, 97, 108, 115, 101]) : Ev l .prim i o (.ok (.mk 2 0 [] []) (i + 1) o) := ⟨1, by rw [exprO]; (try simp only); rw [if_neg h0.1, if_neg h0.2, if_neg (by rw [h]; decide), if_pos h]⟩
theorem Ev.field (h0 : plainK l i) (h : (cur l i).text ∈ fieldW) : Ev l .prim i o (.ok (.mk 4 0 (cur l i).text []) (i + 1) o) := by
  have hne : ∀ s : Str, s ∉ fieldW → (cur l i).text ≠ s := fun s hs e => hs (e ▸ h)
  have hf : (cur l i).text ∉ funcW := fun hf => by
    have : ∀ s ∈ fieldW, s ∉ funcW := by decide
    exact this _ h hf
  exact ⟨1, by rw [exprO]; (try simp only); rw [if_neg h0.1, if_neg h0.2, if_neg (hne _ (by decide)), if_neg (hne _ (by decide)), if_neg (hne _ (by decide)), if_neg (hne _ (by decide)), if_neg hf, if_pos h]⟩
theorem Ev.par (h0 : plainK l i) (h : (cur l i).text = [40]) (ho : o < 12) (h1 : Ev l (.expr 1) (i + 1) (o + 1) (.ok x i' o')) (h2 : (cur l i').text = [41]) : Ev l .prim i o (.ok x (i' + 1) (o' - 1)) := by
  obtain ⟨f, h1⟩ := h1
  refine ⟨f + 1, ?_⟩
  rw [exprO]
  try simp only
  rw [if_neg h0.1, if_neg h0.2, if_neg (by rw [h]; decide), if_neg (by rw [h]; decide), if_pos h]
  unfold opensO
  rw [if_pos h, if_neg (by omega)]
  simp only
  rw [h1]
  simp only [closesO, mustO]
  rw [if_pos h2]
  rfl
theorem Ev.cond {x1 x2 x3 : Nd} {i1 i2 i3 o1 o2 o3 : Nat} (h0 : plainK l i) (h : (cur l i).text = [105, 102]) (ho : o < 12) (h1 : Ev l (.expr 1) (i + 1) (o + 1) (.ok x1 i1 o1)) (ht : (cur l i1).text = [116, 104, 101, 110])
    (h2 : Ev l (.expr 1) (i1 + 1) o1 (.ok x2 i2 o2)) (hs : (cur l i2).text = [101, 108, 115, 101]) (h3 : Ev l (.expr 1) (i2 + 1) o2 (.ok x3 i3 o3)) (he : (cur l i3).text = [101, 110, 100]) : Ev l .prim i o (.ok (.mk 9 0 [] [x1, x2, x3]) (i3 + 1) (o3 - 1)) := by
  obtain ⟨f1, h1⟩ := h1
  obtain ⟨f2, h2⟩ := h2
  obtain ⟨f3, h3⟩ := h3
  refine ⟨max f1 (max f2 f3) + 1, ?_⟩
  have g1 := exprO_le_mono l (Nat.le_max_left f1 (max f2 f3)) h1
  have g2 := exprO_le_mono l (Nat.le_trans (Nat.le_max_left f2 f3) (Nat.le_max_right f1 (max f2 f3))) h2
  have g3 := exprO_le_mono l (Nat.le_trans (Nat.le_max_right f2 f3) (Nat.le_max_right f1 (max f2 f3))) h3
  rw [exprO]
  try simp only
  rw [if_neg h0.1, if_neg h0.2, if_neg (by rw [h]; decide), if_neg (by rw [h]; decide), if_neg (by rw [h]; decide), if_pos h]
  unfold opensO
  rw [if_pos h, if_neg (by omega)]
  simp only
  rw [g1]
  simp only [manyO, thenO, mustO]
  simp only [ht, if_true, g2]
  simp [hs, g3, closesO, mustO, he, Out.bind]
theorem Ev.call1 {x1 : Nd} {i1 o1 : Nat} (h0 : (cur l i).kind = 1) (h : (cur l i).text ∈ funcW) (ha : argsO (cur l i).text = 1) (hp : (cur l (i + 1)).text = [40]) (ho : o < 12) (h1 : Ev l (.expr 1) (i + 2) (o + 1) (.ok x1 i1 o1))
    (he : (cur l i1).text = [41]) : Ev l .prim i o (.ok (.mk 10 0 (cur l i).text [x1]) (i1 + 1) (o1 - 1)) := by
  have hne : ∀ s : Str, s ∉ funcW → (cur l i).text ≠ s := fun s hs e => hs (e ▸ h)
  obtain ⟨f1, h1⟩ := h1
  refine ⟨f1 + 1, ?_⟩
  rw [exprO]
  try simp only
  rw [if_neg (by omega), if_neg (by omega), if_neg (hne _ (by decide)), if_neg (hne _ (by decide)), if_neg (hne _ (by decide)), if_neg (hne _ (by decide)), if_pos h]
  unfold tokenO
  rw [if_pos h0]
  simp only
  unfold opensO
  rw [if_pos hp, if_neg (by omega)]
  simp only [ha, manyO, commaO, Nat.lt_irrefl, if_false]
  rw [h1]
  simp [closesO, mustO, he, Out.bind]
theorem Ev.call2 {x1 x2 : Nd} {i1 o1 i2 o2 : Nat} (h0 : (cur l i).kind = 1) (h : (cur l i).text ∈ funcW) (ha : argsO (cur l i).text = 2) (hp : (cur l (i + 1)).text = [40]) (ho : o < 12) (h1 : Ev l (.expr 1) (i + 2) (o + 1) (.ok x1 i1 o1))
    (hc : (cur l i1).text = [44]) (h2 : Ev l (.expr 1) (i1 + 1) o1 (.ok x2 i2 o2)) (he : (cur l i2).text = [41]) : Ev l .prim i o (.ok (.mk 10 0 (cur l i).text [x1, x2]) (i2 + 1) (o2 - 1)) := by
  have hne : ∀ s : Str, s ∉ funcW → (cur l i).text ≠ s := fun s hs e => hs (e ▸ h)
  obtain ⟨f1, h1⟩ := h1
  obtain ⟨f2, h2⟩ := h2
  refine ⟨max f1 f2 + 1, ?_⟩
  have g1 := exprO_le_mono l (Nat.le_max_left f1 f2) h1
  have g2 := exprO_le_mono l (Nat.le_max_right f1 f2) h2
  rw [exprO]
  try simp only
  rw [if_neg (by omega), if_neg (by omega), if_neg (hne _ (by decide)), if_neg (hne _ (by decide)), if_neg (hne _ (by decide)), if_neg (hne _ (by decide)), if_pos h]
  unfold tokenO
  rw [if_pos h0]
  simp only
  unfold opensO
  rw [if_pos hp, if_neg (by omega)]
  simp only [ha, manyO, commaO, Nat.lt_irrefl, if_false]
  rw [g1]
  simp [mustO, hc, g2, closesO, he, Out.bind]
end
end Go.Eng


/-
The tokens of a printed expression, and that the parser gives the tree back (plain Lean).
-/
namespace Go.Eng
open Go Go.RowKit Go.Proofs
set_option linter.unusedVariables false
/-- kind, text and number of a token -/
abbrev T3 := Int × Str × Int
def of3 (t : Tkn) : T3 := (t.kind, t.text, t.num)
/-- these tokens stand there -/
def At (l : List Tkn) : Nat → List T3 → Prop
  | _, [] => True
  | i, t :: r => of3 (cur l i) = t ∧ At l (i + 1) r
theorem At_app {l : List Tkn} : ∀ {a b : List T3} {i : Nat}, At l i (a ++ b) ↔ At l i a ∧ At l (i + a.length) b
  | [], b, i => by simp [At]
  | t :: a, b, i => by
    simp only [List.cons_append, At, List.length_cons]
    rw [At_app, and_assoc]
    rw [show i + 1 + a.length = i + (a.length + 1) by omega]
theorem At_cons {l : List Tkn} {t : T3} {r : List T3} {i : Nat} (h : At l i (t :: r)) : ((cur l i).kind = t.1 ∧ (cur l i).text = t.2.1 ∧ (cur l i).num = t.2.2) ∧ At l (i + 1) r := by
  obtain ⟨h1, h2⟩ := h
  subst h1
  exact ⟨⟨rfl, rfl, rfl⟩, h2⟩
/-- the level of an expression -/
def lvl (x : Nd) : Nat := if x.kind = 6 then levelO x.word else if x.kind = 7 ∨ x.kind = 8 then 5 else if x.kind = 5 then (if x.word = [110, 111, 116] then 3 else 7) else 8
def leftL (k : Nat) : Nat := if k = 4 then 5 else k
/-- a day, written (program and reference agree where it is asked for) -/
abbrev DayS := Int → Str
section
variable (ds : DayS)
def parS (least : Nat) (p : Nat × Str) : Str := if p.1 < least then 40 :: p.2 ++ [41] else p.2
def parT (least : Nat) (p : Nat × List T3) : List T3 := if p.1 < least then (4, [40], 0) :: p.2 ++ [(4, [41], 0)] else p.2
def parD (least : Nat) (p : Nat × Nat) : Nat := if p.1 < least then p.2 + 1 else p.2
def opKind (s : Str) : Int := if s = [111, 114] ∨ s = [97, 110, 100] then 1 else 4
def tokK (k n : Int) (s : Str) (ks : List (Nat × List T3)) : List T3 :=
  if k = 1 then [(2, Lib.itoa n, n)] else if k = 2 then [(1, if n = 1 then [116, 114, 117, 101] else [102, 97, 108, 115, 101], 0)] else if k = 3 then [(3, 64 :: ds n, n)] else if k = 4 then [(1, s, 0)]
  else if k = 5 then (if s = [110, 111, 116] then (1, [110, 111, 116], 0) :: parT 3 (ks.getD 0 (0, [])) else (4, [45], 0) :: parT 7 (ks.getD 0 (0, [])))
  else if k = 9 then (1, [105, 102], 0) :: ((ks.getD 0 (0, [])).2 ++ (1, [116, 104, 101, 110], 0) :: ((ks.getD 1 (0, [])).2 ++ (1, [101, 108, 115, 101], 0) :: ((ks.getD 2 (0, [])).2 ++ [(1, [101, 110, 100], 0)])))
  else if k = 10 then (1, s, 0) :: (4, [40], 0) :: ((match ks with | [] => [] | a :: r => a.2 ++ r.flatMap fun p => (4, [44], 0) :: p.2) ++ [(4, [41], 0)])
  else if k = 7 then parT 5 (ks.getD 0 (0, [])) ++ (4, [43], 0) :: (parT 6 (ks.getD 1 (0, [])) ++ [(1, s, 0)])
  else if k = 8 then parT 5 (ks.getD 0 (0, [])) ++ (4, [45], 0) :: (parT 6 (ks.getD 1 (0, [])) ++ [(1, s, 0)])
  else parT (leftL (levelO s)) (ks.getD 0 (0, [])) ++ (opKind s, s, 0) :: parT (levelO s + 1) (ks.getD 1 (0, []))
def tokN : Nd → List T3
  | .mk k n s l => tokK ds k n s (l.map fun y => (lvl y, tokN y))
def opK (k : Int) (s : Str) (ks : List (Nat × Nat)) : Nat :=
  if k = 5 then 1 + (if s = [110, 111, 116] then parD 3 (ks.getD 0 (0, 0)) else parD 7 (ks.getD 0 (0, 0)))
  else if k = 9 ∨ k = 10 then 1 + (ks.map (·.2)).foldl max 0
  else if k = 7 ∨ k = 8 then max (parD 5 (ks.getD 0 (0, 0))) (parD 6 (ks.getD 1 (0, 0)))
  else if k = 6 then max (parD (leftL (levelO s)) (ks.getD 0 (0, 0))) (parD (levelO s + 1) (ks.getD 1 (0, 0)))
  else 0
def opN : Nd → Nat
  | .mk k n s l => opK k s (l.map fun y => (lvl y, opN y))
theorem tokN_mk (k n : Int) (s : Str) (l : List Nd) : tokN ds (.mk k n s l) = tokK ds k n s (l.map fun y => (lvl y, tokN ds y)) := by rw [tokN]
theorem opN_mk (k n : Int) (s : Str) (l : List Nd) : opN (.mk k n s l) = opK k s (l.map fun y => (lvl y, opN y)) := by rw [opN]
end
/-- what the grammar permits -/
inductive Wf : Nd → Prop
  | num (n : Int) (h : 0 ≤ n ∧ n ≤ 2147483647) : Wf (.mk 1 n [] [])
  | bool (n : Int) (h : n = 0 ∨ n = 1) : Wf (.mk 2 n [] [])
  | day (n : Int) (h : 0 ≤ n ∧ n ≤ 3652058) : Wf (.mk 3 n [] [])
  | field (s : Str) (h : s ∈ fieldW) : Wf (.mk 4 0 s [])
  | neg (a : Nd) (ha : Wf a) : Wf (.mk 5 0 [45] [a])
  | not (a : Nd) (ha : Wf a) : Wf (.mk 5 0 [110, 111, 116] [a])
  | bin (s : Str) (a b : Nd) (hs : 1 ≤ levelO s) (ha : Wf a) (hb : Wf b) : Wf (.mk 6 0 s [a, b])
  | after (s : Str) (a b : Nd) (hs : s ∈ unitW) (ha : Wf a) (hb : Wf b) : Wf (.mk 7 0 s [a, b])
  | before (s : Str) (a b : Nd) (hs : s ∈ unitW) (ha : Wf a) (hb : Wf b) : Wf (.mk 8 0 s [a, b])
  | cond (a b c : Nd) (ha : Wf a) (hb : Wf b) (hc : Wf c) : Wf (.mk 9 0 [] [a, b, c])
  | call1 (s : Str) (a : Nd) (hs : s ∈ funcW) (h1 : argsO s = 1) (ha : Wf a) : Wf (.mk 10 0 s [a])
  | call2 (s : Str) (a b : Nd) (hs : s ∈ funcW) (h2 : argsO s = 2) (ha : Wf a) (hb : Wf b) : Wf (.mk 10 0 s [a, b])
theorem Ev.det {l : List Tkn} {c : Call} {i o : Nat} {r r' : Out Nd} (h : Ev l c i o r) (h' : Ev l c i o r') : r = r' := by
  obtain ⟨f, h⟩ := h
  obtain ⟨f', h'⟩ := h'
  have g := exprO_le_mono l (Nat.le_max_left f f') h
  have g' := exprO_le_mono l (Nat.le_max_right f f') h'
  rw [g] at g'
  exact Option.some.inj g'
theorem levelO_le (s : Str) : levelO s ≤ 6 ∧ levelO s ≠ 3 := by
  unfold levelO
  repeat' split
  all_goals omega
theorem levelO_unit : ∀ s ∈ unitW, levelO s = 0 := by decide
theorem levelO_pos {s : Str} (h : 1 ≤ levelO s) : s ∉ unitW ∧ s ≠ [110, 111, 116] := by
  refine ⟨fun hs => by have := levelO_unit s hs; omega, fun hs => by rw [hs] at h; revert h; decide⟩
section climb
variable {l : List Tkn} {i j o k m : Nat} {x : Nd} {r : Out Nd}
abbrev CC (l : List Tkn) (x : Nd) (i j o k : Nat) : Prop := ∀ r, Ev l (.loop k x) j o r → Ev l (.expr k) i o r
theorem CC.ok (h : CC l x i j o k) (hn : levelO (cur l j).text ≠ k) : Ev l (.expr k) i o (.ok x j o) := h _ (Ev.stop hn)
theorem CC.of_ok (h : Ev l (.expr k) i o (.ok x j o)) (hn : levelO (cur l j).text ≠ k) : CC l x i j o k := fun r hr => by
  rw [Ev.det hr (Ev.stop hn)]
  exact h
theorem CC.climb : ∀ (d k : Nat), k + d = m → m ≤ 7 → levelO (cur l j).text ≤ k → (m ≤ 3 ∨ (cur l i).text ≠ [110, 111, 116]) → CC l x i j o m → CC l x i j o k
  | 0, k, hk, hm, hn, hs, h => by
    have : k = m := by omega
    subst this
    exact h
  | d + 1, k, hk, hm, hn, hs, h => by
    have h1 := CC.climb d (k + 1) (by omega) hm (by omega) hs h
    intro r hr
    refine Ev.lvl (by omega) ?_ (h1.ok (by omega)) hr
    rintro (⟨h3, ht⟩ | ⟨h7, _⟩)
    · rcases hs with hs | hs
      · omega
      · exact hs ht
    · omega
theorem CC.prim (h : Ev l .prim i o (.ok x j o)) (h1 : (cur l i).text ≠ [110, 111, 116]) (h2 : (cur l i).text ≠ [45]) (hk : k ≤ 7) (hn : levelO (cur l j).text ≤ k) : CC l x i j o k := by
  refine CC.climb (m := 7) (7 - k) k (by omega) (by omega) hn (.inr h1) ?_
  intro r hr
  refine Ev.lvl (by omega) ?_ h.p8 hr
  rintro (⟨_, ht⟩ | ⟨_, ht⟩)
  · exact h1 ht
  · exact h2 ht
end climb
/-- how a tree is read -/
structure PT (ds : DayS) (l : List Tkn) (x : Nd) (i : Nat) : Prop where
  nn : 4 ≤ lvl x → (cur l i).text ≠ [110, 111, 116]
  cc : ∀ k o, 1 ≤ k → k ≤ 7 → k ≤ lvl x → o + opN x ≤ 12 → levelO (cur l (i + (tokN ds x).length)).text ≤ k → ((cur l (i + (tokN ds x).length)).text ∈ unitW → 6 ≤ lvl x) →
    (lvl x = 4 → levelO (cur l (i + (tokN ds x).length)).text ≠ 4) → CC l x i (i + (tokN ds x).length) o k
structure PO (ds : DayS) (l : List Tkn) (x : Nd) (least i : Nat) : Prop where
  nn : 4 ≤ least → (cur l i).text ≠ [110, 111, 116]
  cc : ∀ k o, 1 ≤ k → k ≤ 7 → k ≤ least → o + parD least (lvl x, opN x) ≤ 12 → levelO (cur l (i + (parT least (lvl x, tokN ds x)).length)).text ≤ k → ((cur l (i + (parT least (lvl x, tokN ds x)).length)).text ∈ unitW → 6 ≤ least) →
    (least ≤ 4 → levelO (cur l (i + (parT least (lvl x, tokN ds x)).length)).text ≠ 4) → CC l x i (i + (parT least (lvl x, tokN ds x)).length) o k
theorem lvl_pos {x : Nd} (h : Wf x) : 1 ≤ lvl x := by
  cases h with
  | bin s a b hs ha hb => exact hs
  | not a ha => show 1 ≤ (if [110, 111, 116] = [110, 111, 116] then 3 else 7); decide
  | neg a ha => show 1 ≤ (if [45] = [110, 111, 116] then 3 else 7); decide
  | num => show 1 ≤ 8; decide
  | bool => show 1 ≤ 8; decide
  | day => show 1 ≤ 8; decide
  | field => show 1 ≤ 8; decide
  | after => show 1 ≤ 5; decide
  | before => show 1 ≤ 5; decide
  | cond => show 1 ≤ 8; decide
  | call1 => show 1 ≤ 8; decide
  | call2 => show 1 ≤ 8; decide
theorem PO.of {ds : DayS} {l : List Tkn} {x : Nd} (hw : Wf x) (ih : ∀ i, At l i (tokN ds x) → PT ds l x i) {least i : Nat} (hl : least ≤ 8) (h : At l i (parT least (lvl x, tokN ds x))) : PO ds l x least i := by
  have hx := lvl_pos hw
  by_cases hp : lvl x < least
  · unfold parT at h
    simp only [hp, if_true] at h
    rw [List.cons_append] at h
    obtain ⟨⟨a1, a2, a3⟩, h⟩ := At_cons h
    rw [At_app] at h
    obtain ⟨h, h'⟩ := h
    obtain ⟨⟨b1, b2, b3⟩, -⟩ := At_cons h'
    simp only at a1 a2 a3 b1 b2 b3
    have hlen : (parT least (lvl x, tokN ds x)).length = (tokN ds x).length + 2 := by
      unfold parT
      simp only [hp, if_true]
      simp
    have e1 : i + (parT least (lvl x, tokN ds x)).length = i + 1 + (tokN ds x).length + 1 := by rw [hlen]; omega
    refine ⟨fun _ => by rw [a2]; decide, fun k o hk1 hk7 hkl ho hn hu h4 => ?_⟩
    have hd : parD least (lvl x, opN x) = opN x + 1 := by unfold parD; simp only [hp, if_true]
    rw [hd] at ho
    rw [e1] at hn ⊢
    have hin := ((ih (i + 1) h).cc 1 (o + 1) (by omega) (by omega) hx (by omega) (by rw [b2]; decide) (by rw [b2]; intro hu; exact absurd hu (by decide)) (by rw [b2]; intro _; decide)).ok (by rw [b2]; decide)
    have hpr := Ev.par (l := l) (i := i) (o := o) ⟨by rw [a1]; decide, by rw [a1]; decide⟩ a2 (by omega) hin b2
    exact CC.prim hpr (by rw [a2]; decide) (by rw [a2]; decide) hk7 hn
  · have e1 : parT least (lvl x, tokN ds x) = tokN ds x := by unfold parT; simp only [hp, if_false]
    have e2 : parD least (lvl x, opN x) = opN x := by unfold parD; simp only [hp, if_false]
    rw [e1] at h
    have hi := ih i h
    refine ⟨fun h4 => hi.nn (by omega), fun k o hk1 hk7 hkl ho hn hu h4 => ?_⟩
    rw [e1] at hn hu h4 ⊢
    rw [e2] at ho
    exact hi.cc k o hk1 hk7 (by omega) ho hn (fun h => by have := hu h; omega) (fun h => h4 (by omega))
end Go.Eng


/-
The parser gives a printed tree back (plain Lean).
-/
namespace Go.Eng
open Go Go.RowKit Go.Proofs
set_option linter.unusedVariables false
theorem decDigits_dig (u : Nat) : ∀ c ∈ Lib.decDigits u, 48 ≤ c.toNat ∧ c.toNat ≤ 57 := by
  induction u using Nat.strongRecOn with
  | _ u ih =>
    have h1 : ∀ k, k < 10 → 48 ≤ (UInt8.ofNat (48 + k)).toNat ∧ (UInt8.ofNat (48 + k)).toNat ≤ 57 := by decide
    by_cases h : u < 10
    · rw [Lib.decDigits, dif_pos h]
      intro c hc
      simp only [List.mem_singleton] at hc
      subst hc
      exact h1 u h
    · rw [Lib.decDigits, dif_neg h]
      intro c hc
      rcases List.mem_append.1 hc with hc | hc
      · exact ih _ (by omega) c hc
      · simp only [List.mem_singleton] at hc
        subst hc
        exact h1 _ (by omega)
theorem itoa_dig {n : Int} (h : 0 ≤ n) : ∀ c ∈ Lib.itoa n, 48 ≤ c.toNat ∧ c.toNat ≤ 57 := by
  unfold Lib.itoa
  rw [if_neg (by omega)]
  exact decDigits_dig _
theorem itoa_ne {n : Int} (h : 0 ≤ n) : Lib.itoa n ≠ [110, 111, 116] ∧ Lib.itoa n ≠ [45] := by
  have := itoa_dig h
  refine ⟨fun e => ?_, fun e => ?_⟩
  · rw [e] at this; revert this; decide
  · rw [e] at this; revert this; decide
section
variable {ds : DayS} {l : List Tkn} {x : Nd} {i : Nat}
theorem PT.prim (h1 : (cur l i).text ≠ [110, 111, 116]) (h2 : (cur l i).text ≠ [45]) (h : ∀ o, o + opN x ≤ 12 → Ev l .prim i o (.ok x (i + (tokN ds x).length) o)) : PT ds l x i :=
  ⟨fun _ => h1, fun k o _ hk7 _ ho hn _ _ => CC.prim (h o ho) h1 h2 hk7 hn⟩
end
theorem field_ne : ∀ s ∈ fieldW, s ≠ [110, 111, 116] ∧ s ≠ [45] := by decide
theorem func_ne : ∀ s ∈ funcW, s ≠ [110, 111, 116] ∧ s ≠ [45] := by decide
theorem PT_all (ds : DayS) {x : Nd} (hx : Wf x) : ∀ (l : List Tkn) (i : Nat), At l i (tokN ds x) → PT ds l x i := by
  induction hx with
  | num n h =>
    intro l i hA
    have e : tokN ds (.mk 1 n [] []) = [(2, Lib.itoa n, n)] := by rw [tokN_mk]; rfl
    have hn := itoa_ne h.1
    rw [e] at hA
    obtain ⟨⟨t1, t2, t3⟩, -⟩ := At_cons hA
    simp only at t1 t2 t3
    refine PT.prim (by rw [t2]; exact hn.1) (by rw [t2]; exact hn.2) (fun o _ => ?_)
    have := Ev.num (o := o) t1
    rw [t3] at this
    rw [e]
    exact this
  | bool n h =>
    intro l i hA
    have e : tokN ds (.mk 2 n [] []) = [(1, if n = 1 then [116, 114, 117, 101] else [102, 97, 108, 115, 101], 0)] := by rw [tokN_mk]; rfl
    rw [e] at hA
    obtain ⟨⟨t1, t2, t3⟩, -⟩ := At_cons hA
    simp only at t1 t2 t3
    have hp : plainK l i := ⟨by rw [t1]; decide, by rw [t1]; decide⟩
    rcases h with rfl | rfl
    · rw [if_neg (by decide)] at t2
      refine PT.prim (by rw [t2]; decide) (by rw [t2]; decide) (fun o _ => ?_)
      rw [e]
      exact Ev.false hp t2
    · rw [if_pos rfl] at t2
      refine PT.prim (by rw [t2]; decide) (by rw [t2]; decide) (fun o _ => ?_)
      rw [e]
      exact Ev.true hp t2
  | day n h =>
    intro l i hA
    have e : tokN ds (.mk 3 n [] []) = [(3, 64 :: ds n, n)] := by rw [tokN_mk]; rfl
    rw [e] at hA
    obtain ⟨⟨t1, t2, t3⟩, -⟩ := At_cons hA
    simp only at t1 t2 t3
    refine PT.prim (by rw [t2]; intro h; injection h with h _; revert h; decide) (by rw [t2]; intro h; injection h with h _; revert h; decide) (fun o _ => ?_)
    have := Ev.day (o := o) t1
    rw [t3] at this
    rw [e]
    exact this
  | field s h =>
    intro l i hA
    have e : tokN ds (.mk 4 0 s []) = [(1, s, 0)] := by rw [tokN_mk]; rfl
    rw [e] at hA
    obtain ⟨⟨t1, t2, t3⟩, -⟩ := At_cons hA
    simp only at t1 t2 t3
    have hp : plainK l i := ⟨by rw [t1]; decide, by rw [t1]; decide⟩
    have hn := field_ne s h
    refine PT.prim (by rw [t2]; exact hn.1) (by rw [t2]; exact hn.2) (fun o _ => ?_)
    have := Ev.field (o := o) hp (by rw [t2]; exact h)
    rw [t2] at this
    rw [e]
    exact this
  | neg a ha iha =>
    intro l i hA
    have e : tokN ds (.mk 5 0 [45] [a]) = (4, [45], 0) :: parT 7 (lvl a, tokN ds a) := by rw [tokN_mk]; rfl
    have eo : opN (.mk 5 0 [45] [a]) = 1 + parD 7 (lvl a, opN a) := by rw [opN_mk]; rfl
    rw [e] at hA
    obtain ⟨⟨t1, t2, t3⟩, hA⟩ := At_cons hA
    simp only at t1 t2 t3
    have pa := PO.of ha (iha l) (by decide) hA
    have ej : i + (tokN ds (.mk 5 0 [45] [a])).length = i + 1 + (parT 7 (lvl a, tokN ds a)).length := by rw [e, List.length_cons]; omega
    have el : lvl (.mk 5 0 [45] [a]) = 7 := rfl
    refine ⟨fun _ => by rw [t2]; decide, ?_⟩
    rw [ej, el, eo]
    intro k o hk1 hk7 hkl ho hn hu h4
    have hle := levelO_le (cur l (i + 1 + (parT 7 (lvl a, tokN ds a)).length)).text
    have hin := (pa.cc 7 (o + 1) (by omega) (by omega) (by omega) (by omega) (by omega) (by omega) (by omega)).ok (by omega)
    have h7 := Ev.un (.inr ⟨rfl, t2⟩) (by omega) hin
    rw [t2] at h7
    exact CC.climb (m := 7) (7 - k) k (by omega) (by omega) hn (.inr (by rw [t2]; decide)) (CC.of_ok h7 (by omega))
  | not a ha iha =>
    intro l i hA
    have e : tokN ds (.mk 5 0 [110, 111, 116] [a]) = (1, [110, 111, 116], 0) :: parT 3 (lvl a, tokN ds a) := by rw [tokN_mk]; rfl
    have eo : opN (.mk 5 0 [110, 111, 116] [a]) = 1 + parD 3 (lvl a, opN a) := by rw [opN_mk]; rfl
    rw [e] at hA
    obtain ⟨⟨t1, t2, t3⟩, hA⟩ := At_cons hA
    simp only at t1 t2 t3
    have pa := PO.of ha (iha l) (by decide) hA
    have ej : i + (tokN ds (.mk 5 0 [110, 111, 116] [a])).length = i + 1 + (parT 3 (lvl a, tokN ds a)).length := by rw [e, List.length_cons]; omega
    have el : lvl (.mk 5 0 [110, 111, 116] [a]) = 3 := rfl
    refine ⟨fun h => by rw [el] at h; omega, ?_⟩
    rw [ej, el, eo]
    intro k o hk1 hk7 hkl ho hn hu h4
    have hle := levelO_le (cur l (i + 1 + (parT 3 (lvl a, tokN ds a)).length)).text
    have hin := (pa.cc 3 (o + 1) (by omega) (by omega) (by omega) (by omega) (by omega) (fun h => by have := hu h; omega) (by omega)).ok (by omega)
    have h7 := Ev.un (.inl ⟨rfl, t2⟩) (by omega) hin
    rw [t2] at h7
    exact CC.climb (m := 3) (3 - k) k (by omega) (by omega) hn (.inl (by omega)) (CC.of_ok h7 (by omega))
  | bin s a b hs ha hb iha ihb =>
    intro l i hA
    have e : tokN ds (.mk 6 0 s [a, b]) = parT (leftL (levelO s)) (lvl a, tokN ds a) ++ (opKind s, s, 0) :: parT (levelO s + 1) (lvl b, tokN ds b) := by rw [tokN_mk]; rfl
    have eo : opN (.mk 6 0 s [a, b]) = max (parD (leftL (levelO s)) (lvl a, opN a)) (parD (levelO s + 1) (lvl b, opN b)) := by rw [opN_mk]; rfl
    have el : lvl (.mk 6 0 s [a, b]) = levelO s := rfl
    have hL := levelO_le s
    have hP := levelO_pos hs
    have hlf : leftL (levelO s) = if levelO s = 4 then 5 else levelO s := rfl
    rw [e, At_app] at hA
    obtain ⟨hA1, hA⟩ := hA
    obtain ⟨⟨t1, t2, t3⟩, hA2⟩ := At_cons hA
    simp only at t1 t2 t3
    have pa := PO.of ha (iha l) (by rw [hlf]; split <;> omega) hA1
    have pb := PO.of hb (ihb l) (by omega) hA2
    have ej : i + (tokN ds (.mk 6 0 s [a, b])).length = i + (parT (leftL (levelO s)) (lvl a, tokN ds a)).length + 1 + (parT (levelO s + 1) (lvl b, tokN ds b)).length := by rw [e]; simp; omega
    have hnn : 4 ≤ levelO s → (cur l i).text ≠ [110, 111, 116] := fun h => pa.nn (by rw [hlf]; split <;> omega)
    refine ⟨fun h => hnn h, ?_⟩
    rw [ej, el, eo]
    clear e ej eo hA
    intro k o hk1 hk7 hkl ho hn hu h4
    have pac := pa.cc
    have pbc := pb.cc
    generalize i + (parT (leftL (levelO s)) (lvl a, tokN ds a)).length = ja at *
    generalize ja + 1 + (parT (levelO s + 1) (lvl b, tokN ds b)).length = j at *
    by_cases h44 : levelO s = 4
    · rw [hlf, if_pos h44] at pac ho
      have hEa := (pac 5 o (by omega) (by omega) (by omega) (by omega) (by rw [t2]; omega) (fun h => absurd (t2 ▸ h) hP.1) (by omega)).ok (by rw [t2]; omega)
      have hEb := (pbc 5 o (by omega) (by omega) (by omega) (by omega) (by omega) (fun h => by have := hu h; omega) (by omega)).ok (by omega)
      have hc := Ev.cmp (x := a) (by rw [t2]; exact h44) hEb
      rw [t2] at hc
      have h4' := Ev.lvl (k := 4) (by omega) (by omega) hEa hc
      exact CC.climb (m := 4) (4 - k) k (by omega) (by omega) hn (.inr (hnn (by omega))) (CC.of_ok h4' (h4 h44))
    · rw [hlf, if_neg h44] at pac ho
      have hEb := (pbc (levelO s + 1) o (by omega) (by omega) (by omega) (by omega) (by omega) (fun h => by have := hu h; omega) (by omega)).ok (by omega)
      refine CC.climb (m := levelO s) (levelO s - k) k (by omega) (by omega) hn (by rcases Nat.lt_or_ge (levelO s) 4 with h | h; exact .inl (by omega); exact .inr (hnn h)) ?_
      intro r hr
      refine pac (levelO s) o hs (by omega) (by omega) (by omega) (by rw [t2]; omega) (fun h => absurd (t2 ▸ h) hP.1) (fun _ => by rw [t2]; omega) r ?_
      refine Ev.bin (by rw [t2]) hEb h44 (fun ⟨h5, h⟩ => by have := hu h; omega) ?_
      rw [t2]
      exact hr
  | after s a b hs ha hb iha ihb =>
    intro l i hA
    have e : tokN ds (.mk 7 0 s [a, b]) = parT 5 (lvl a, tokN ds a) ++ (4, [43], 0) :: (parT 6 (lvl b, tokN ds b) ++ [(1, s, 0)]) := by rw [tokN_mk]; rfl
    have eo : opN (.mk 7 0 s [a, b]) = max (parD 5 (lvl a, opN a)) (parD 6 (lvl b, opN b)) := by rw [opN_mk]; rfl
    have el : lvl (.mk 7 0 s [a, b]) = 5 := rfl
    have hP := levelO_unit s hs
    rw [e, At_app] at hA
    obtain ⟨hA1, hA⟩ := hA
    obtain ⟨⟨t1, t2, t3⟩, hA2⟩ := At_cons hA
    rw [At_app] at hA2
    obtain ⟨hA2, hA3⟩ := hA2
    obtain ⟨⟨u1, u2, u3⟩, -⟩ := At_cons hA3
    simp only at t1 t2 t3 u1 u2 u3
    have pa := PO.of ha (iha l) (by omega) hA1
    have pb := PO.of hb (ihb l) (by omega) hA2
    have ej : i + (tokN ds (.mk 7 0 s [a, b])).length = i + (parT 5 (lvl a, tokN ds a)).length + 1 + (parT 6 (lvl b, tokN ds b)).length + 1 := by rw [e]; simp; omega
    have hnn : (cur l i).text ≠ [110, 111, 116] := pa.nn (by omega)
    refine ⟨fun h => hnn, ?_⟩
    rw [ej, el, eo]
    clear e ej eo hA
    intro k o hk1 hk7 hkl ho hn hu h4
    have pac := pa.cc
    have pbc := pb.cc
    generalize i + (parT 5 (lvl a, tokN ds a)).length = ja at *
    generalize ja + 1 + (parT 6 (lvl b, tokN ds b)).length = jb at *
    have hEb := (pbc 6 o (by omega) (by omega) (by omega) (by omega) (by rw [u2]; omega) (fun h => by omega) (by omega)).ok (by rw [u2]; omega)
    have lv5 : levelO (cur l ja).text = 5 := by rw [t2]; decide
    refine CC.climb (m := 5) (5 - k) k (by omega) (by omega) hn (.inr hnn) ?_
    intro r hr
    refine pac 5 o (by omega) (by omega) (by omega) (by omega) (by omega) (fun h => by rw [t2] at h; exact absurd h (by decide)) (fun _ => by omega) r ?_
    refine Ev.unit lv5 hEb (by rw [u2]; exact hs) ?_
    rw [t2, u2, if_neg (by decide)]
    exact hr
  | before s a b hs ha hb iha ihb =>
    intro l i hA
    have e : tokN ds (.mk 8 0 s [a, b]) = parT 5 (lvl a, tokN ds a) ++ (4, [45], 0) :: (parT 6 (lvl b, tokN ds b) ++ [(1, s, 0)]) := by rw [tokN_mk]; rfl
    have eo : opN (.mk 8 0 s [a, b]) = max (parD 5 (lvl a, opN a)) (parD 6 (lvl b, opN b)) := by rw [opN_mk]; rfl
    have el : lvl (.mk 8 0 s [a, b]) = 5 := rfl
    have hP := levelO_unit s hs
    rw [e, At_app] at hA
    obtain ⟨hA1, hA⟩ := hA
    obtain ⟨⟨t1, t2, t3⟩, hA2⟩ := At_cons hA
    rw [At_app] at hA2
    obtain ⟨hA2, hA3⟩ := hA2
    obtain ⟨⟨u1, u2, u3⟩, -⟩ := At_cons hA3
    simp only at t1 t2 t3 u1 u2 u3
    have pa := PO.of ha (iha l) (by omega) hA1
    have pb := PO.of hb (ihb l) (by omega) hA2
    have ej : i + (tokN ds (.mk 8 0 s [a, b])).length = i + (parT 5 (lvl a, tokN ds a)).length + 1 + (parT 6 (lvl b, tokN ds b)).length + 1 := by rw [e]; simp; omega
    have hnn : (cur l i).text ≠ [110, 111, 116] := pa.nn (by omega)
    refine ⟨fun h => hnn, ?_⟩
    rw [ej, el, eo]
    clear e ej eo hA
    intro k o hk1 hk7 hkl ho hn hu h4
    have pac := pa.cc
    have pbc := pb.cc
    generalize i + (parT 5 (lvl a, tokN ds a)).length = ja at *
    generalize ja + 1 + (parT 6 (lvl b, tokN ds b)).length = jb at *
    have hEb := (pbc 6 o (by omega) (by omega) (by omega) (by omega) (by rw [u2]; omega) (fun h => by omega) (by omega)).ok (by rw [u2]; omega)
    have lv5 : levelO (cur l ja).text = 5 := by rw [t2]; decide
    refine CC.climb (m := 5) (5 - k) k (by omega) (by omega) hn (.inr hnn) ?_
    intro r hr
    refine pac 5 o (by omega) (by omega) (by omega) (by omega) (by omega) (fun h => by rw [t2] at h; exact absurd h (by decide)) (fun _ => by omega) r ?_
    refine Ev.unit lv5 hEb (by rw [u2]; exact hs) ?_
    rw [t2, u2, if_pos rfl]
    exact hr
  | cond a b c ha hb hc iha ihb ihc =>
    intro l i hA
    have e : tokN ds (.mk 9 0 [] [a, b, c]) = (1, [105, 102], 0) :: (tokN ds a ++ (1, [116, 104, 101, 110], 0) :: (tokN ds b ++ (1, [101, 108, 115, 101], 0) :: (tokN ds c ++ [(1, [101, 110, 100], 0)]))) := by rw [tokN_mk]; rfl
    have eo : opN (.mk 9 0 [] [a, b, c]) = 1 + max (max (max 0 (opN a)) (opN b)) (opN c) := by rw [opN_mk]; rfl
    have ej : i + (tokN ds (.mk 9 0 [] [a, b, c])).length = i + 1 + (tokN ds a).length + 1 + (tokN ds b).length + 1 + (tokN ds c).length + 1 := by rw [e]; simp; omega
    rw [e] at hA
    obtain ⟨⟨t1, t2, t3⟩, hA⟩ := At_cons hA
    rw [At_app] at hA
    obtain ⟨hA1, hA⟩ := hA
    obtain ⟨⟨u1, u2, u3⟩, hA⟩ := At_cons hA
    rw [At_app] at hA
    obtain ⟨hA2, hA⟩ := hA
    obtain ⟨⟨v1, v2, v3⟩, hA⟩ := At_cons hA
    rw [At_app] at hA
    obtain ⟨hA3, hA⟩ := hA
    obtain ⟨⟨x1, x2, x3⟩, -⟩ := At_cons hA
    simp only at t1 t2 t3 u1 u2 u3 v1 v2 v3 x1 x2 x3
    refine PT.prim (by rw [t2]; decide) (by rw [t2]; decide) (fun o ho => ?_)
    rw [eo] at ho
    rw [ej]
    have p1 := ((iha l _ hA1).cc 1 (o + 1) (by omega) (by omega) (lvl_pos ha) (by omega) (by rw [u2]; decide) (by rw [u2]; intro h; exact absurd h (by decide)) (by rw [u2]; intro _; decide)).ok (by rw [u2]; decide)
    have p2 := ((ihb l _ hA2).cc 1 (o + 1) (by omega) (by omega) (lvl_pos hb) (by omega) (by rw [v2]; decide) (by rw [v2]; intro h; exact absurd h (by decide)) (by rw [v2]; intro _; decide)).ok (by rw [v2]; decide)
    have p3 := ((ihc l _ hA3).cc 1 (o + 1) (by omega) (by omega) (lvl_pos hc) (by omega) (by rw [x2]; decide) (by rw [x2]; intro h; exact absurd h (by decide)) (by rw [x2]; intro _; decide)).ok (by rw [x2]; decide)
    exact Ev.cond ⟨by rw [t1]; decide, by rw [t1]; decide⟩ t2 (by omega) p1 u2 p2 v2 p3 x2
  | call1 s a hs h1 ha iha =>
    intro l i hA
    have e : tokN ds (.mk 10 0 s [a]) = (1, s, 0) :: (4, [40], 0) :: ((tokN ds a ++ []) ++ [(4, [41], 0)]) := by rw [tokN_mk]; rfl
    have eo : opN (.mk 10 0 s [a]) = 1 + max 0 (opN a) := by rw [opN_mk]; rfl
    have ej : i + (tokN ds (.mk 10 0 s [a])).length = i + 2 + (tokN ds a).length + 1 := by rw [e]; simp; omega
    rw [List.append_nil] at e
    rw [e] at hA
    obtain ⟨⟨t1, t2, t3⟩, hA⟩ := At_cons hA
    obtain ⟨⟨u1, u2, u3⟩, hA⟩ := At_cons hA
    rw [At_app] at hA
    obtain ⟨hA1, hA⟩ := hA
    obtain ⟨⟨x1, x2, x3⟩, -⟩ := At_cons hA
    simp only at t1 t2 t3 u1 u2 u3 x1 x2 x3
    have hn := func_ne s hs
    refine PT.prim (by rw [t2]; exact hn.1) (by rw [t2]; exact hn.2) (fun o ho => ?_)
    rw [eo] at ho
    rw [ej]
    have p1 := ((iha l _ hA1).cc 1 (o + 1) (by omega) (by omega) (lvl_pos ha) (by omega) (by rw [x2]; decide) (by rw [x2]; intro h; exact absurd h (by decide)) (by rw [x2]; intro _; decide)).ok (by rw [x2]; decide)
    have := Ev.call1 t1 (by rw [t2]; exact hs) (by rw [t2]; exact h1) u2 (by omega) p1 x2
    rw [t2] at this
    exact this
  | call2 s a b hs h2 ha hb iha ihb =>
    intro l i hA
    have e : tokN ds (.mk 10 0 s [a, b]) = (1, s, 0) :: (4, [40], 0) :: ((tokN ds a ++ ((4, [44], 0) :: tokN ds b ++ [])) ++ [(4, [41], 0)]) := by rw [tokN_mk]; rfl
    have eo : opN (.mk 10 0 s [a, b]) = 1 + max (max 0 (opN a)) (opN b) := by rw [opN_mk]; rfl
    have ej : i + (tokN ds (.mk 10 0 s [a, b])).length = i + 2 + (tokN ds a).length + 1 + (tokN ds b).length + 1 := by rw [e]; simp; omega
    rw [List.append_nil, List.append_assoc, List.cons_append] at e
    rw [e] at hA
    obtain ⟨⟨t1, t2, t3⟩, hA⟩ := At_cons hA
    obtain ⟨⟨u1, u2, u3⟩, hA⟩ := At_cons hA
    rw [At_app] at hA
    obtain ⟨hA1, hA⟩ := hA
    obtain ⟨⟨v1, v2, v3⟩, hA⟩ := At_cons hA
    rw [At_app] at hA
    obtain ⟨hA2, hA⟩ := hA
    obtain ⟨⟨x1, x2, x3⟩, -⟩ := At_cons hA
    simp only at t1 t2 t3 u1 u2 u3 v1 v2 v3 x1 x2 x3
    have hn := func_ne s hs
    refine PT.prim (by rw [t2]; exact hn.1) (by rw [t2]; exact hn.2) (fun o ho => ?_)
    rw [eo] at ho
    rw [ej]
    have p1 := ((iha l _ hA1).cc 1 (o + 1) (by omega) (by omega) (lvl_pos ha) (by omega) (by rw [v2]; decide) (by rw [v2]; intro h; exact absurd h (by decide)) (by rw [v2]; intro _; decide)).ok (by rw [v2]; decide)
    have p2 := ((ihb l _ hA2).cc 1 (o + 1) (by omega) (by omega) (lvl_pos hb) (by omega) (by rw [x2]; decide) (by rw [x2]; intro h; exact absurd h (by decide)) (by rw [x2]; intro _; decide)).ok (by rw [x2]; decide)
    have := Ev.call2 t1 (by rw [t2]; exact hs) (by rw [t2]; exact h2) u2 (by omega) p1 v2 p2 x2
    rw [t2] at this
    exact this
/-- a whole expression, in front of a token that cannot go on -/
theorem whole_tree (ds : DayS) {x : Nd} (hx : Wf x) {l : List Tkn} {i o : Nat} (hA : At l i (tokN ds x)) (ho : o + opN x ≤ 12) (hn : levelO (cur l (i + (tokN ds x).length)).text = 0) (hu : (cur l (i + (tokN ds x).length)).text ∉ unitW) :
    wholeO l i o = .ok x (i + (tokN ds x).length) o :=
  Ev.whole (((PT_all ds hx l i hA).cc 1 o (by omega) (by omega) (lvl_pos hx) ho (by omega) (fun h => absurd h hu) (fun _ => by omega)).ok (by omega))
end Go.Eng


/-
The lexer as a function on bytes, and what its tokens are like (plain Lean).
-/
namespace Go.Eng
open Go Go.RowKit Go.Proofs
set_option linter.unusedVariables false
/-! ### the lexer -/
def letB (c : UInt8) : Bool := decide (97 ≤ c.toNat) && decide (c.toNat ≤ 122)
def digB (c : UInt8) : Bool := decide (48 ≤ c.toNat) && decide (c.toNat ≤ 57)
def ldB (c : UInt8) : Bool := letB c || digB c
/-- the number that digits write -/
def decN (s : Str) : Nat := s.foldl (fun n c => 10 * n + (c.toNat - 48)) 0
def leapM (y : Int) : Bool := decide (y % 4 = 0) && (decide (¬ y % 100 = 0) || decide (y % 400 = 0))
def lengthM (y m : Int) : Int :=
  if m < 1 ∨ 12 < m then 0 else if m = 2 then (if leapM y then 29 else 28) else if m = 4 ∨ m = 6 ∨ m = 9 ∨ m = 11 then 30 else 31
def dayM (y m d : Int) : Int :=
  let (y, m) := if m - 3 < 0 then (y - 1, m + 9) else (y, m - 3)
  365 * y + y / 4 - y / 100 + y / 400 + (153 * m + 2) / 5 + d - 307
/-- the day of a written date: a day, or a code -/
def dateP (s : Str) : Int × Int :=
  if s.length = 10 ∧ s.getD 4 0 = 45 ∧ s.getD 7 0 = 45 ∧ ((s.take 4).all digB ∧ ((s.drop 5).take 2).all digB ∧ (s.drop 8).all digB) then
    let y : Int := decN (s.take 4)
    let m : Int := decN ((s.drop 5).take 2)
    let d : Int := decN (s.drop 8)
    if y < 1 ∨ 9999 < y ∨ m < 1 ∨ 12 < m ∨ d < 1 ∨ lengthM y m < d then (0, 5) else (dayM y m d, 0)
  else (0, 7)
inductive Lx where
  | err (c : Int)
  | ok (t : Tkn)
def wordL (s : Str) : Lx := let n := (s.takeWhile ldB).length; if 12 < n then .err 2 else .ok ⟨1, 0, s.take n, 0⟩
def numberL (s : Str) : Lx :=
  let t := s.takeWhile digB
  if 1 < t.length ∧ t.getD 0 0 = 48 then .err 20 else if 2147483647 < decN t then .err 5 else .ok ⟨2, 0, t, decN t⟩
def formL : Str := [64, 100, 100, 100, 100, 45, 100, 100, 45, 100, 100]
def fitL (c x : UInt8) : Bool := if c = 100 then digB x else decide (x = c)
def dayL (s : Str) : Lx :=
  if s.length < 11 then .err 20 else if ((formL.zip s).all fun p => fitL p.1 p.2) then
    (let d := dateP ((s.take 11).drop 1); if d.2 = 0 then .ok ⟨3, 0, s.take 11, d.1⟩ else .err 5)
  else .err 20
def symsL : Str := [123, 125, 40, 41, 59, 44, 43, 45, 42, 60, 61, 62]
def symbolL (s : Str) : Lx :=
  if s.take 2 = [60, 61] ∨ s.take 2 = [33, 61] ∨ s.take 2 = [62, 61] then .ok ⟨4, 0, s.take 2, 0⟩
  else if s.getD 0 0 ∈ symsL then .ok ⟨4, 0, s.take 1, 0⟩ else .err 20
def readL (s : Str) : Lx :=
  let c := s.getD 0 0
  if letB c then wordL s else if digB c then numberL s else if c = 64 then dayL s else symbolL s
def spaceL (c : UInt8) : Bool := c = 9 || c = 10 || c = 13 || c = 32
inductive Tks where
  | err (a c : Int)
  | ok (l : List Tkn)
/-- the tokens behind a place; nl: how long a comment is -/
def tokensG (nl : Str → Nat) (s : Str) : Nat → Nat → List Tkn → Tks
  | 0, at_, l => .ok (l ++ [⟨0, at_, [], 0⟩])
  | f + 1, at_, l =>
    if at_ < s.length then
      let rest := s.drop at_
      let c := rest.getD 0 0
      if spaceL c then tokensG nl s f (at_ + 1) l
      else if c = 35 then tokensG nl s f (at_ + nl rest) l
      else match readL rest with
        | .err e => .err at_ e
        | .ok t => tokensG nl s f (at_ + t.text.length) (l ++ [{ t with pos := at_ }])
    else .ok (l ++ [⟨0, at_, [], 0⟩])
/-- what a read token is like -/
structure TkOk (t : Tkn) : Prop where
  kind : t.kind ≠ 0
  kinds : 1 ≤ t.kind ∧ t.kind ≤ 4
  text : t.text ≠ []
  sp : ∀ c ∈ t.text, c ≠ 32
  word : t.kind = 1 → t.text.length ≤ 12 ∧ (∀ c ∈ t.text, ldB c = true) ∧ letB (t.text.getD 0 0) = true
  num : t.kind = 2 → 0 ≤ t.num ∧ t.num ≤ 2147483647
  day : t.kind = 3 → 0 ≤ t.num ∧ t.num ≤ 3652058
theorem mem_takeWhile {p : UInt8 → Bool} : ∀ {l : Str} {c : UInt8}, c ∈ l.takeWhile p → p c = true
  | [], c, h => by simp at h
  | a :: r, c, h => by
    simp only [List.takeWhile_cons] at h
    split at h
    · rename_i ha
      rcases List.mem_cons.1 h with rfl | h
      · exact ha
      · exact mem_takeWhile h
    · simp at h
theorem take_takeWhile {p : UInt8 → Bool} : ∀ (l : Str), l.take (l.takeWhile p).length = l.takeWhile p
  | [] => by simp
  | a :: r => by
    simp only [List.takeWhile_cons]
    split
    · simp [take_takeWhile r]
    · simp
theorem ld_sp {c : UInt8} (h : ldB c = true) : c ≠ 32 := by rintro rfl; revert h; decide
theorem dig_sp {c : UInt8} (h : digB c = true) : c ≠ 32 := by rintro rfl; revert h; decide
theorem fit_sp {c x : UInt8} (h : fitL c x = true) (hc : c ≠ 32) : x ≠ 32 := by
  unfold fitL at h
  split at h
  · exact dig_sp h
  · simp at h; rw [h]; exact hc
theorem zip_all {p : UInt8 → UInt8 → Bool} : ∀ {a s : Str}, a.length ≤ s.length → ((a.zip s).all fun q => p q.1 q.2) = true → ∀ x ∈ s.take a.length, ∃ c ∈ a, p c x = true
  | [], s, hl, h, x, hx => by simp at hx
  | c :: a, [], hl, h, x, hx => by simp at hl
  | c :: a, y :: s, hl, h, x, hx => by
    simp only [List.zip_cons_cons, List.all_cons, Bool.and_eq_true] at h
    simp only [List.length_cons, List.take_succ_cons, List.mem_cons] at hx
    rcases hx with rfl | hx
    · exact ⟨c, by simp, h.1⟩
    · obtain ⟨d, hd, h'⟩ := zip_all (by simpa using hl) h.2 x hx
      exact ⟨d, by simp [hd], h'⟩
theorem lengthM_le (y m : Int) : lengthM y m ≤ 31 := by
  unfold lengthM
  repeat' split
  all_goals omega
theorem dayM_range {y m d : Int} (hy : 1 ≤ y) (hy2 : y ≤ 9999) (hm : 1 ≤ m) (hm2 : m ≤ 12) (hd : 1 ≤ d) (hd2 : d ≤ lengthM y m) : 0 ≤ dayM y m d ∧ dayM y m d ≤ 3652058 := by
  have h31 := lengthM_le y m
  have hm' : m = 1 ∨ m = 2 ∨ m = 3 ∨ m = 4 ∨ m = 5 ∨ m = 6 ∨ m = 7 ∨ m = 8 ∨ m = 9 ∨ m = 10 ∨ m = 11 ∨ m = 12 := by omega
  unfold dayM
  rcases hm' with rfl | rfl | rfl | rfl | rfl | rfl | rfl | rfl | rfl | rfl | rfl | rfl <;> simp <;> omega
theorem dateP_range (s : Str) : 0 ≤ (dateP s).1 ∧ (dateP s).1 ≤ 3652058 := by
  unfold dateP
  split
  · simp only
    split
    · simp
    · rename_i h
      simp only [not_or, Int.not_lt] at h
      exact dayM_range h.1 h.2.1 h.2.2.1 h.2.2.2.1 h.2.2.2.2.1 h.2.2.2.2.2
  · simp
theorem readL_ok {s : Str} {t : Tkn} (hs : s ≠ []) (hsp : s.getD 0 0 ≠ 32) (h : readL s = .ok t) : TkOk t ∧ t.text.length ≤ s.length ∧ t.text = s.take t.text.length := by
  obtain ⟨a, r, rfl⟩ : ∃ a r, s = a :: r := by cases s with | nil => exact absurd rfl hs | cons a r => exact ⟨a, r, rfl⟩
  simp only [List.getD_cons_zero] at hsp
  unfold readL at h
  simp only [List.getD_cons_zero] at h
  split at h
  · rename_i hl
    unfold wordL at h
    simp only at h
    split at h
    · simp at h
    · rename_i hn
      simp only [Lx.ok.injEq] at h
      subst h
      have hld : ldB a = true := by simp [ldB, hl]
      have hne : (a :: r).takeWhile ldB = a :: r.takeWhile ldB := by simp [hld]
      have ht := take_takeWhile (p := ldB) (a :: r)
      refine ⟨⟨by simp, by simp, ?_, ?_, fun _ => ⟨?_, ?_, ?_⟩, by simp, by simp⟩, by simp; omega, by simp⟩
      · simp only; rw [ht, hne]; simp
      · simp only; rw [ht]; exact fun c hc => ld_sp (mem_takeWhile hc)
      · simp only; rw [ht]; omega
      · simp only; rw [ht]; exact fun c hc => mem_takeWhile hc
      · simp only; rw [ht, hne]; simpa using hl
  · split at h
    · rename_i hl
      unfold numberL at h
      simp only at h
      split at h
      · simp at h
      · split at h
        · simp at h
        · rename_i hn
          simp only [Lx.ok.injEq] at h
          subst h
          have hne : (a :: r).takeWhile digB = a :: r.takeWhile digB := by simp [hl]
          have ht := take_takeWhile (p := digB) (a :: r)
          have hlen := congrArg List.length ht
          simp only [List.length_take] at hlen
          refine ⟨⟨by simp, by simp, ?_, ?_, by simp, fun _ => ⟨?_, ?_⟩, by simp⟩, ?_, ?_⟩
          · simp only; rw [hne]; simp
          · exact fun c hc => dig_sp (mem_takeWhile hc)
          · simp only; omega
          · simp only; omega
          · simp only; omega
          · exact ht.symm
    · split at h
      · rename_i h64
        unfold dayL at h
        split at h
        · simp at h
        · rename_i h11
          split at h
          · rename_i hf
            simp only at h
            split at h
            · simp only [Lx.ok.injEq] at h
              subst h
              have hd := dateP_range (((a :: r).take 11).drop 1)
              refine ⟨⟨by simp, by simp, by simp, ?_, by simp, by simp, fun _ => hd⟩, by simp; omega, by simp⟩
              intro c hc
              obtain ⟨x, hx, h'⟩ := zip_all (a := formL) (s := a :: r) (by simp only [formL, List.length_cons, List.length_nil] at h11 ⊢; omega) hf c hc
              exact fit_sp h' (by revert hx; simp only [formL]; intro hx h0; subst h0; simp at hx)
            · simp at h
          · simp at h
      · unfold symbolL at h
        split at h
        · rename_i h2
          simp only [Lx.ok.injEq] at h
          subst h
          refine ⟨⟨by simp, by simp, by simp, ?_, by simp, by simp, by simp⟩, by simp; omega, by simp⟩
          simp only
          intro c hc
          rcases h2 with h2 | h2 | h2 <;> rw [h2] at hc <;> (rintro rfl; simp at hc)
        · split at h
          · simp only [Lx.ok.injEq] at h
            subst h
            refine ⟨⟨by simp, by simp, by simp, ?_, by simp, by simp, by simp⟩, by simp, by simp⟩
            simp only [List.take_succ_cons, List.take_zero, List.mem_singleton]
            rintro c rfl
            exact hsp
          · simp at h
theorem tokensG_ok {nl : Str → Nat} {s : Str} (hsl : s.length ≤ 4000) : ∀ (f at_ : Nat) (l l' : List Tkn), (∀ t ∈ l, TkOk t) → (∀ t ∈ l, t.text.length ≤ 4000) → l.length ≤ at_ → l.length ≤ s.length → tokensG nl s f at_ l = .ok l' →
    ∃ l1 p, l' = l1 ++ [⟨0, p, [], 0⟩] ∧ (∀ t ∈ l1, TkOk t) ∧ (∀ t ∈ l1, t.text.length ≤ 4000) ∧ l1.length ≤ s.length
  | 0, at_, l, l', h1, h2, h3, h4, h => by
    simp only [tokensG, Tks.ok.injEq] at h
    exact ⟨l, _, h.symm, h1, h2, h4⟩
  | f + 1, at_, l, l', h1, h2, h3, h4, h => by
    simp only [tokensG] at h
    split at h
    · rename_i hlt
      split at h
      · exact tokensG_ok hsl f _ _ _ h1 h2 (by omega) h4 h
      · split at h
        · exact tokensG_ok hsl f _ _ _ h1 h2 (by omega) h4 h
        · rename_i hnsp _
          cases hr : readL (s.drop at_) with
          | err e => rw [hr] at h; simp at h
          | ok t =>
            rw [hr] at h
            simp only at h
            obtain ⟨g1, g2, g3⟩ := readL_ok (s := s.drop at_) (by simp; omega) (by rintro h32; rw [h32] at hnsp; exact hnsp (by decide)) hr
            have hpos : 1 ≤ t.text.length := by
              have := g1.text
              cases ht : t.text with
              | nil => exact absurd ht this
              | cons a r => simp
            have hlen : t.text.length ≤ s.length - at_ := by simpa using g2
            refine tokensG_ok hsl f _ _ _ ?_ ?_ ?_ ?_ h
            · intro u hu
              rcases List.mem_append.1 hu with hu | hu
              · exact h1 u hu
              · simp only [List.mem_singleton] at hu
                subst hu
                exact ⟨g1.kind, g1.kinds, g1.text, g1.sp, g1.word, g1.num, g1.day⟩
            · intro u hu
              rcases List.mem_append.1 hu with hu | hu
              · exact h2 u hu
              · simp only [List.mem_singleton] at hu
                subst hu
                simp only
                omega
            · simp; omega
            · simp; omega
    · simp only [Tks.ok.injEq] at h
      exact ⟨l, _, h.symm, h1, h2, h4⟩
theorem toks_of {l1 : List Tkn} {p : Int} (h1 : ∀ t ∈ l1, TkOk t) (h2 : ∀ t ∈ l1, t.text.length ≤ 4000) (h3 : l1.length ≤ 4000) : Toks (l1 ++ ([⟨0, p, [], 0⟩] : List Tkn)) := by
  have hc : ∀ i, cur (l1 ++ ([⟨0, p, [], 0⟩] : List Tkn)) i = ⟨0, p, [], 0⟩ ∨ cur (l1 ++ ([⟨0, p, [], 0⟩] : List Tkn)) i = default ∨ cur (l1 ++ ([⟨0, p, [], 0⟩] : List Tkn)) i ∈ l1 := by
    intro i
    unfold cur
    rw [List.getD_eq_getElem?_getD, List.getElem?_append]
    split
    · rename_i h
      right; right
      simp [h]
    · cases hk : i - l1.length with
      | zero => left; simp
      | succ j => right; left; simp
  refine ⟨by simp, ?_, ?_, by simp; omega, ?_, ?_⟩
  · have : cur (l1 ++ ([⟨0, p, [], 0⟩] : List Tkn)) ((l1 ++ ([⟨0, p, [], 0⟩] : List Tkn)).length - 1) = ⟨0, p, [], 0⟩ := by
      unfold cur
      simp
    rw [this]
    exact ⟨rfl, rfl⟩
  · intro i hi
    have hi2 : i < l1.length := by simpa using hi
    have : cur (l1 ++ ([⟨0, p, [], 0⟩] : List Tkn)) i = l1[i] := by
      unfold cur
      rw [List.getD_eq_getElem?_getD, List.getElem?_append_left hi2]
      simp [hi2]
    rw [this]
    have := h1 _ (List.getElem_mem hi2)
    exact ⟨this.kind, this.text⟩
  · intro i c hcm
    rcases hc i with h | h | h
    · rw [h] at hcm; simp at hcm
    · rw [h] at hcm; simp [default] at hcm
    · exact (h1 _ h).sp c hcm
  · intro i
    rcases hc i with h | h | h
    · rw [h]; simp
    · rw [h]; simp [default]
    · exact h2 _ h
end Go.Eng


/-
The lexer's small functions, walked.
-/
namespace Go.Eng
open Go Go.RowKit Go.Proofs
set_option linter.unusedVariables false
/-- the offset of the first rune that is not of a kind -/
def firstM (s : Str) (p : Nat → Bool) : Nat → Nat → Nat
  | 0, _ => s.length
  | f + 1, i => if i < s.length then (if p (dec s i).1 then firstM s p f (i + (dec s i).2) else i) else s.length
theorem firstM_le (s : Str) (p : Nat → Bool) : ∀ (f i : Nat), firstM s p f i ≤ s.length
  | 0, i => Nat.le_refl _
  | f + 1, i => by
    unfold firstM
    split
    · split
      · exact firstM_le s p f _
      · omega
    · exact Nat.le_refl _
theorem firstM_ge (s : Str) (p : Nat → Bool) : ∀ (f i : Nat), i ≤ s.length → i ≤ firstM s p f i
  | 0, i, h => h
  | f + 1, i, h => by
    unfold firstM
    split
    · split
      · by_cases hw : i + (dec s i).2 ≤ s.length
        · exact Nat.le_trans (Nat.le_add_right _ _) (firstM_ge s p f _ hw)
        · have : ∀ f j, s.length < j → firstM s p f j = s.length := fun f j hj => by
            cases f with
            | zero => rfl
            | succ f => unfold firstM; rw [if_neg (by omega)]
          rw [this _ _ (by omega)]
          omega
      · exact Nat.le_refl _
    · exact h
/-- of a kind of ASCII -/
theorem firstM_ascii (p : Nat → Bool) (q : UInt8 → Bool) (hq : ∀ c : UInt8, c.toNat < 128 → p c.toNat = q c) (hp : ∀ n, 128 ≤ n → p n = false) (hq2 : ∀ c : UInt8, 128 ≤ c.toNat → q c = false) (s : Str) :
    ∀ (f i : Nat), i ≤ s.length → s.length ≤ i + f → firstM s p f i = i + ((s.drop i).takeWhile q).length
  | 0, i, h1, h2 => by
    have : i = s.length := by omega
    subst this
    simp [firstM]
  | f + 1, i, h1, h2 => by
    unfold firstM
    by_cases hlt : i < s.length
    · rw [if_pos hlt]
      have hd : s.drop i = s[i] :: s.drop (i + 1) := List.drop_eq_getElem_cons hlt
      rw [hd, List.takeWhile_cons]
      by_cases ha : (s[i]).toNat < 128
      · rw [dec_ascii hlt ha]
        simp only [hq _ ha]
        split
        · rw [firstM_ascii p q hq hp hq2 s f (i + 1) (by omega) (by omega), List.length_cons]; omega
        · simp
      · have h3 := (dec_high hlt (by omega)).1
        rw [hp _ h3, hq2 _ (by omega)]
        simp
    · rw [if_neg hlt]
      rw [List.drop_eq_nil_of_le (by omega)]
      simp; omega
def letN (n : Nat) : Bool := decide (97 ≤ n) && decide (n ≤ 122)
def digN (n : Nat) : Bool := decide (48 ≤ n) && decide (n ≤ 57)
def notNl (n : Nat) : Bool := decide (¬ n = 10)
/-- how long a comment is -/
def nlM (s : Str) : Nat := firstM s notNl s.length 0
def tokensM (s : Str) : Tks := if 4000 < s.length then .err 4000 2 else tokensG nlM s (s.length + 1) 0 []
theorem first_dig (s : Str) : firstM s digN s.length 0 = (s.takeWhile digB).length := by
  rw [firstM_ascii digN digB (fun c h => rfl) (fun n h => by unfold digN; simp; omega) (fun c h => by unfold digB; simp; omega) s s.length 0 (by omega) (by omega)]
  simp
theorem first_ld (s : Str) : firstM s (fun n => letN n || digN n) s.length 0 = (s.takeWhile ldB).length := by
  rw [firstM_ascii (fun n => letN n || digN n) ldB (fun c h => rfl) (fun n h => by unfold letN digN; simp; omega) (fun c h => by unfold ldB letB digB; simp; omega) s s.length 0 (by omega) (by omega)]
  simp
end Go.Eng
namespace Go.Proofs.YtgpibcgebpgmiaaGreatDoor
open Go Go.Eng Go.RowKit Go.Proofs
set_option linter.unusedVariables false
theorem letter_any (c : Nat) (w : World) : Calls Tryz.prog 112 #[.int .i32 (c : Int)] w (Ret fun r w' => r = .bool (letN c) ∧ w' = w) := by
  unfold letN
  refine calls_of_WC1 (n := 9) Tryz.func112 rfl rfl rfl ?_
  repeat' (first | refine W1 ?_ | (exfalso; omega) | refine WL_split rfl rfl (fun hg => ?_) (fun hg => ?_) | refine WL_splitB rfl rfl (fun hg => ?_) (fun hg => ?_) | refine WC_cond rfl (fun hc => ?_) (fun hc => ?_) | refine WC_condB rfl (fun hc => ?_) (fun hc => ?_))
  all_goals first | refine WQ_ret1 rfl rfl ?_ | refine WQ_ret2 rfl rfl rfl ?_ | refine WQ_ret3 rfl rfl rfl rfl ?_ | refine WQ_ret0 rfl ?_ | refine WQ_end0 rfl ?_
  all_goals refine .mk ⟨?_, rfl⟩
  all_goals congr 1
  all_goals (first | done | (rw [Bool.eq_iff_iff]; simp; omega) | (simp [*]))
theorem digit_any (c : Nat) (w : World) : Calls Tryz.prog 114 #[.int .i32 (c : Int)] w (Ret fun r w' => r = .bool (digN c) ∧ w' = w) := by
  unfold digN
  refine calls_of_WC1 (n := 9) Tryz.func114 rfl rfl rfl ?_
  repeat' (first | refine W1 ?_ | (exfalso; omega) | refine WL_split rfl rfl (fun hg => ?_) (fun hg => ?_) | refine WL_splitB rfl rfl (fun hg => ?_) (fun hg => ?_) | refine WC_cond rfl (fun hc => ?_) (fun hc => ?_) | refine WC_condB rfl (fun hc => ?_) (fun hc => ?_))
  all_goals first | refine WQ_ret1 rfl rfl ?_ | refine WQ_ret2 rfl rfl rfl ?_ | refine WQ_ret3 rfl rfl rfl rfl ?_ | refine WQ_ret0 rfl ?_ | refine WQ_end0 rfl ?_
  all_goals refine .mk ⟨?_, rfl⟩
  all_goals congr 1
  all_goals (first | done | (rw [Bool.eq_iff_iff]; simp; omega) | (simp [*]))
theorem nl_any (c : Nat) (w : World) : Calls Tryz.prog 111 #[.int .i32 (c : Int)] w (Ret fun r w' => r = .bool (notNl c) ∧ w' = w) := by
  unfold notNl
  refine calls_of_WC1 (n := 5) Tryz.func111 rfl rfl rfl ?_
  repeat' (first | refine W1 ?_ | (exfalso; omega) | refine WL_split rfl rfl (fun hg => ?_) (fun hg => ?_) | refine WL_splitB rfl rfl (fun hg => ?_) (fun hg => ?_) | refine WC_cond rfl (fun hc => ?_) (fun hc => ?_) | refine WC_condB rfl (fun hc => ?_) (fun hc => ?_))
  all_goals first | refine WQ_ret1 rfl rfl ?_ | refine WQ_ret2 rfl rfl rfl ?_ | refine WQ_ret3 rfl rfl rfl rfl ?_ | refine WQ_ret0 rfl ?_ | refine WQ_end0 rfl ?_
  all_goals refine .mk ⟨?_, rfl⟩
  all_goals congr 1
  all_goals (first | done | (rw [Bool.eq_iff_iff]; simp; omega) | (simp [*]))
theorem ld_any (c : Nat) (w : World) : Calls Tryz.prog 158 #[.int .i32 (c : Int)] w (Ret fun r w' => r = .bool (letN c || digN c) ∧ w' = w) := by
  refine calls_of_WC1 (n := 9) Tryz.func158 rfl rfl rfl ?_
  refine W ?_
  refine WL_eff (OE_call rfl (evs1 rfl) (letter_any c _)) rfl ?_
  rintro _ _ ⟨rfl, rfl⟩
  cases letN c
  · refine W ?_
    refine WL_eff (OE_call rfl (evs1 rfl) (digit_any c _)) rfl ?_
    rintro _ _ ⟨rfl, rfl⟩
    refine W ?_
    first | refine WQ_ret1 rfl rfl ?_ | refine WQ_ret2 rfl rfl rfl ?_ | refine WQ_ret3 rfl rfl rfl rfl ?_ | refine WQ_ret0 rfl ?_ | refine WQ_end0 rfl ?_
    exact .mk ⟨rfl, rfl⟩
  · refine W ?_
    first | refine WQ_ret1 rfl rfl ?_ | refine WQ_ret2 rfl rfl rfl ?_ | refine WQ_ret3 rfl rfl rfl rfl ?_ | refine WQ_ret0 rfl ?_ | refine WQ_end0 rfl ?_
    exact .mk ⟨rfl, rfl⟩
theorem first_any {g : Nat} {fn : Func} [hf : Fun Tryz.prog g fn] (p : Nat → Bool) (hg : ∀ (c : Nat) (w : World), Calls Tryz.prog g #[.int .i32 (c : Int)] w (Ret fun r w' => r = .bool (p c) ∧ w' = w)) (s : Str) (w : World) (hl : s.length ≤ 1000000) :
    Calls Tryz.prog 110 #[str s, .func (.func g) #[] #[]] w (Ret fun r w' => r = .int .i64 (firstM s p s.length 0 : Int) ∧ Stp [] w w') := by
  refine calls_of_WC2 (n := 20) Tryz.func110 rfl rfl rfl ?_
  refine W ?_
  refine WL_eff (OE_range rfl) rfl ?_
  rintro _ w1 ⟨b, rfl, hb, hI, hS⟩
  refine W ?_
  refine WC_loop (σ := Nat × Nat) (fun q => [(0, str s), (1, .func (.func g) #[] #[]), (8, .pointer (some ⟨b, 0, none⟩))]) (fun q w' => Itr w' b s q.2 ∧ Stp [] w w' ∧ firstM s p q.1 q.2 = firstM s p s.length 0 ∧ s.length ≤ q.2 + q.1) (fun q => q.1 + 1 - (if q.2 < s.length then 0 else 1)) (s.length, 0) ⟨rfl, rfl, rfl, trivial⟩ ⟨hI, hS, rfl, by omega⟩ ?_
  rintro ⟨f, i⟩ w2 ⟨hI, hS, he, hfl⟩
  dsimp only at hI hS he hfl ⊢
  generalize firstM s p s.length 0 = R at he ⊢
  by_cases hlt : i < s.length
  · obtain ⟨f, rfl⟩ : ∃ f', f = f' + 1 := ⟨f - 1, by omega⟩
    have hd := dec_pos hlt
    unfold firstM at he
    rw [if_pos hlt] at he
    refine W ?_
    refine WL_eff (OE_next rfl hI hlt) rfl ?_
    rintro _ w3 ⟨rfl, hI3, hT⟩
    replace hS := hS.own hT (fun c hc => .inr (by simp at hc; omega))
    refine W ?_
    refine WL_eff (OE_call rfl (evs1 rfl) (hg _ _)) rfl ?_
    rintro _ _ ⟨rfl, rfl⟩
    cases hpc : p (dec s i).1
    · rw [hpc] at he
      refine W ?_
      first | refine WQ_ret1 rfl rfl ?_ | refine WQ_ret2 rfl rfl rfl ?_ | refine WQ_ret3 rfl rfl rfl rfl ?_ | refine WQ_ret0 rfl ?_ | refine WQ_end0 rfl ?_
      simp only [Bool.false_eq_true, if_false] at he
      exact .mk ⟨by rw [← he]; rfl, hS⟩
    · rw [hpc] at he
      refine W ?_
      refine WQ_loop (f, i + (dec s i).2) ⟨rfl, rfl, rfl, trivial⟩ ⟨hI3, hS, he, by dsimp only; omega⟩ ?_
      dsimp only
      repeat' split
      all_goals omega
  · refine W ?_
    refine WL_eff (OE_nextEnd rfl hI hlt) rfl ?_
    rintro _ _ ⟨rfl, rfl⟩
    refine W ?_
    first | refine WQ_ret1 rfl rfl ?_ | refine WQ_ret2 rfl rfl rfl ?_ | refine WQ_ret3 rfl rfl rfl rfl ?_ | refine WQ_ret0 rfl ?_ | refine WQ_end0 rfl ?_
    refine .mk ⟨?_, hS⟩
    rw [← he]
    cases f with
    | zero => rfl
    | succ f => unfold firstM; rw [if_neg hlt]
end Go.Proofs.YtgpibcgebpgmiaaGreatDoor


/-
The text of a printed expression, and that the lexer gives its tokens back (plain Lean).
-/
namespace Go.Eng
open Go Go.RowKit Go.Proofs
set_option linter.unusedVariables false
/-- what the lexer makes of a text -/
inductive LexTo : Str → List T3 → Prop
  | nil : LexTo [] []
  | sp {c : UInt8} {r : Str} {ts : List T3} (hc : spaceL c = true) (h : LexTo r ts) : LexTo (c :: r) ts
  | tok {s : Str} {t : Tkn} {ts : List T3} (hs : s ≠ []) (h1 : spaceL (s.getD 0 0) = false) (h2 : s.getD 0 0 ≠ 35) (hr : readL s = .ok t) (h : LexTo (s.drop t.text.length) ts) : LexTo s (of3 t :: ts)
theorem tokensG_lex (nl : Str → Nat) (s : Str) {u : Str} {ts : List T3} (h : LexTo u ts) : ∀ (f at_ : Nat) (l : List Tkn), s.drop at_ = u → s.length - at_ < f →
    ∃ (l1 : List Tkn) (p : Int), tokensG nl s f at_ l = .ok (l ++ l1 ++ [⟨0, p, [], 0⟩]) ∧ l1.map of3 = ts := by
  induction h with
  | nil =>
    intro f at_ l hu hf
    have hn : ¬ at_ < s.length := by
      intro hlt
      have := congrArg List.length hu
      simp at this
      omega
    cases f with
    | zero => omega
    | succ f =>
      refine ⟨[], (at_ : Int), ?_, rfl⟩
      simp only [tokensG, if_neg hn, List.append_nil]
  | @sp c r ts hc h ih =>
    intro f at_ l hu hf
    have hlt : at_ < s.length := by
      have := congrArg List.length hu
      simp at this
      omega
    cases f with
    | zero => omega
    | succ f =>
      have hd : s.drop (at_ + 1) = r := by rw [← List.drop_drop, hu]; rfl
      obtain ⟨l1, p, g1, g2⟩ := ih f (at_ + 1) l hd (by omega)
      refine ⟨l1, p, ?_, g2⟩
      simp only [tokensG]
      rw [if_pos hlt, hu]
      simp only [List.getD_cons_zero]
      rw [if_pos hc]
      exact g1
  | @tok u t ts hs h1 h2 hr h ih =>
    intro f at_ l hu hf
    have hlt : at_ < s.length := by
      have := congrArg List.length hu
      have h0 : 0 < u.length := List.length_pos_iff.2 hs
      simp at this
      omega
    have hok := readL_ok hs (by rintro h32; rw [h32] at h1; exact absurd h1 (by decide)) hr
    have hpos : 0 < t.text.length := List.length_pos_iff.2 hok.1.text
    cases f with
    | zero => omega
    | succ f =>
      have hd : s.drop (at_ + t.text.length) = u.drop t.text.length := by rw [← List.drop_drop, hu]
      obtain ⟨l1, p, g1, g2⟩ := ih f (at_ + t.text.length) (l ++ [{ t with pos := at_ }]) hd (by omega)
      refine ⟨{ t with pos := (at_ : Int) } :: l1, p, ?_, by simp [g2, of3]⟩
      simp only [tokensG]
      rw [if_pos hlt, hu, if_neg (by rw [h1]; decide), if_neg h2, hr]
      simp only
      rw [g1]
      simp
theorem At_of_map {l1 : List Tkn} : ∀ (l0 l2 : List Tkn), At (l0 ++ l1 ++ l2) l0.length (l1.map of3) := by
  induction l1 with
  | nil => intro l0 l2; trivial
  | cons t r ih =>
    intro l0 l2
    refine ⟨?_, ?_⟩
    · have : cur (l0 ++ t :: r ++ l2) l0.length = t := by unfold cur; simp
      rw [this]
    · have := ih (l0 ++ [t]) l2
      simp only [List.append_assoc, List.singleton_append, List.length_append, List.length_cons, List.length_nil] at this ⊢
      exact this
/-- the tokens of a text -/
theorem tokensM_lex {s : Str} {ts : List T3} (hl : s.length ≤ 4000) (h : LexTo s ts) : ∃ (l1 : List Tkn) (p : Int), tokensM s = .ok (l1 ++ [⟨0, p, [], 0⟩]) ∧ l1.map of3 = ts ∧ At (l1 ++ [⟨0, p, [], 0⟩]) 0 ts := by
  obtain ⟨l1, p, g1, g2⟩ := tokensG_lex nlM s h (s.length + 1) 0 [] (by simp) (by omega)
  refine ⟨l1, p, ?_, g2, ?_⟩
  · unfold tokensM
    rw [if_neg (by omega), g1]
    simp
  · have := At_of_map (l1 := l1) [] [⟨0, p, [], 0⟩]
    rw [g2] at this
    exact this
/-- what may stand behind a word or a number -/
def safe (r : Str) : Prop := r = [] ∨ (ldB (r.getD 0 0) = false ∧ r.getD 0 0 ≠ 61)
theorem takeWhile_app {p : UInt8 → Bool} : ∀ {w r : Str}, (∀ c ∈ w, p c = true) → (r = [] ∨ p (r.getD 0 0) = false) → (w ++ r).takeWhile p = w
  | [], r, h, hr => by
    rcases hr with rfl | hr
    · rfl
    · cases r with
      | nil => rfl
      | cons a r =>
        simp only [List.getD_cons_zero] at hr
        simp [hr]
  | a :: w, r, h, hr => by
    simp only [List.cons_append, List.takeWhile_cons]
    rw [if_pos (h a (by simp)), takeWhile_app (fun c hc => h c (by simp [hc])) hr]
theorem ld_of_let {c : UInt8} (h : letB c = true) : ldB c = true := by simp [ldB, h]
theorem ld_of_dig {c : UInt8} (h : digB c = true) : ldB c = true := by simp [ldB, h]
theorem dig_not_let {c : UInt8} (h : digB c = true) : letB c = false := by
  unfold digB at h
  unfold letB
  simp at h ⊢
  omega
theorem ld_no_sp {c : UInt8} (h : ldB c = true) : spaceL c = false ∧ c ≠ 35 ∧ c ≠ 64 := by
  refine ⟨?_, ?_, ?_⟩
  · cases hs : spaceL c with
    | false => rfl
    | true =>
      unfold spaceL at hs
      simp only [Bool.or_eq_true, decide_eq_true_eq] at hs
      rcases hs with ((rfl | rfl) | rfl) | rfl <;> (revert h; decide)
  · rintro rfl; revert h; decide
  · rintro rfl; revert h; decide
theorem safe.ld {r : Str} (h : safe r) : r = [] ∨ ldB (r.getD 0 0) = false := h.imp id (·.1)
theorem safe.dig {r : Str} (h : safe r) : r = [] ∨ digB (r.getD 0 0) = false := h.imp id (fun h => by
  have := h.1
  unfold ldB at this
  simp only [Bool.or_eq_false_iff] at this
  exact this.2)
/-- a word -/
structure WordOk (w : Str) : Prop where
  ne : w ≠ []
  len : w.length ≤ 12
  first : letB (w.getD 0 0) = true
  all : ∀ c ∈ w, ldB c = true
section
variable {r : Str} {ts : List T3}
theorem LexTo.word {w : Str} (hw : WordOk w) (hr : safe r) (h : LexTo r ts) : LexTo (w ++ r) ((1, w, 0) :: ts) := by
  obtain ⟨a, q, rfl⟩ : ∃ a q, w = a :: q := by cases w with | nil => exact absurd rfl hw.ne | cons a q => exact ⟨a, q, rfl⟩
  have hf : letB a = true := by simpa using hw.first
  have hn := ld_no_sp (ld_of_let hf)
  have htw := takeWhile_app hw.all hr.ld
  have hread : readL (a :: q ++ r) = .ok ⟨1, 0, a :: q, 0⟩ := by
    unfold readL
    simp only [List.cons_append, List.getD_cons_zero, hf, if_true]
    unfold wordL
    simp only
    rw [← List.cons_append, htw, if_neg (by have := hw.len; omega)]
    simp
  refine LexTo.tok (t := ⟨1, 0, a :: q, 0⟩) (by simp) (by simpa using hn.1) (by simpa using hn.2.1) hread ?_
  simpa using h
theorem decN_app (a : Str) (c : UInt8) : decN (a ++ [c]) = 10 * decN a + (c.toNat - 48) := by simp [decN, List.foldl_append]
theorem decN_dec (u : Nat) : decN (Lib.decDigits u) = u := by
  induction u using Nat.strongRecOn with
  | _ u ih =>
    have h1 : ∀ k, k < 10 → (UInt8.ofNat (48 + k)).toNat - 48 = k := by decide
    by_cases h : u < 10
    · rw [Lib.decDigits, dif_pos h]
      have := h1 u h
      simp only [decN, List.foldl_cons, List.foldl_nil, Nat.mul_zero, Nat.zero_add]
      exact this
    · rw [Lib.decDigits, dif_neg h, decN_app, ih _ (by omega), h1 _ (by omega)]
      omega
theorem decDigits_ne (u : Nat) : Lib.decDigits u ≠ [] := by
  rw [Lib.decDigits]
  split
  · simp
  · simp
theorem decDigits_first (u : Nat) : 1 < (Lib.decDigits u).length → (Lib.decDigits u).getD 0 0 ≠ 48 := by
  induction u using Nat.strongRecOn with
  | _ u ih =>
    have h1 : ∀ k, k < 10 → 1 ≤ k → UInt8.ofNat (48 + k) ≠ 48 := by decide
    intro hl
    by_cases h : u < 10
    · rw [Lib.decDigits, dif_pos h] at hl
      simp at hl
    · rw [Lib.decDigits, dif_neg h]
      have hne := decDigits_ne (u / 10)
      have hg : (Lib.decDigits (u / 10) ++ [UInt8.ofNat (48 + u % 10)]).getD 0 0 = (Lib.decDigits (u / 10)).getD 0 0 := by
        cases hd : Lib.decDigits (u / 10) with
        | nil => exact absurd hd hne
        | cons a q => simp
      rw [hg]
      by_cases h10 : u / 10 < 10
      · rw [Lib.decDigits, dif_pos h10]
        simp only [List.getD_cons_zero]
        exact h1 _ h10 (by omega)
      · exact ih _ (by omega) (by
          rw [Lib.decDigits, dif_neg h10]
          have := List.length_pos_iff.2 (decDigits_ne (u / 10 / 10))
          simp
          omega)
theorem digB_of {c : UInt8} (h : 48 ≤ c.toNat ∧ c.toNat ≤ 57) : digB c = true := by unfold digB; simp; exact h
theorem LexTo.num {n : Int} (h0 : 0 ≤ n) (h1 : n ≤ 2147483647) (hr : safe r) (h : LexTo r ts) : LexTo (Lib.itoa n ++ r) ((2, Lib.itoa n, n) :: ts) := by
  have hi : Lib.itoa n = Lib.decDigits n.toNat := by unfold Lib.itoa; rw [if_neg (by omega)]
  rw [hi]
  have hall : ∀ c ∈ Lib.decDigits n.toNat, digB c = true := fun c hc => digB_of (decDigits_dig _ c hc)
  have hne := decDigits_ne n.toNat
  have hfst := decDigits_first n.toNat
  have hdec := decN_dec n.toNat
  have htw := takeWhile_app hall hr.dig
  generalize Lib.decDigits n.toNat = w at *
  obtain ⟨a, q, rfl⟩ : ∃ a q, w = a :: q := by cases w with | nil => exact absurd rfl hne | cons a q => exact ⟨a, q, rfl⟩
  have ha := hall a (by simp)
  have hn := ld_no_sp (ld_of_dig ha)
  have hread : readL (a :: q ++ r) = .ok ⟨2, 0, a :: q, n⟩ := by
    unfold readL
    simp only [List.cons_append, List.getD_cons_zero, dig_not_let ha, ha, if_true, Bool.false_eq_true, if_false]
    unfold numberL
    simp only
    rw [← List.cons_append, htw, if_neg (by rintro ⟨g1, g2⟩; exact hfst g1 (by simpa using g2)), hdec, if_neg (by omega), Int.toNat_of_nonneg h0]
  refine LexTo.tok (t := ⟨2, 0, a :: q, n⟩) (by simp) (by simpa using hn.1) (by simpa using hn.2.1) hread ?_
  simpa using h
/-- a symbol of one sign -/
theorem LexTo.sym {c : UInt8} (hc : c ∈ symsL) (hr : r.getD 0 0 ≠ 61 ∨ (c ≠ 60 ∧ c ≠ 62)) (h : LexTo r ts) : LexTo (c :: r) ((4, [c], 0) :: ts) := by
  have hp : ∀ c ∈ symsL, letB c = false ∧ digB c = false ∧ c ≠ 64 ∧ spaceL c = false ∧ c ≠ 35 ∧ c ≠ 33 := by decide
  obtain ⟨h1, h2, h3, h4, h5, h6⟩ := hp c hc
  have hread : readL (c :: r) = .ok ⟨4, 0, [c], 0⟩ := by
    unfold readL
    simp only [List.getD_cons_zero, h1, h2, if_neg h3, Bool.false_eq_true, if_false]
    unfold symbolL
    have hno : ¬ ((c :: r).take 2 = [60, 61] ∨ (c :: r).take 2 = [33, 61] ∨ (c :: r).take 2 = [62, 61]) := by
      cases r with
      | nil => simp
      | cons d q =>
        simp only [List.take_succ_cons, List.take_zero, List.cons.injEq, and_true]
        simp only [List.getD_cons_zero] at hr
        rintro (⟨rfl, rfl⟩ | ⟨rfl, rfl⟩ | ⟨rfl, rfl⟩)
        · rcases hr with h | h; exact h rfl; exact h.1 rfl
        · exact h6 rfl
        · rcases hr with h | h; exact h rfl; exact h.2 rfl
    rw [if_neg hno]
    simp [hc]
  refine LexTo.tok (t := ⟨4, 0, [c], 0⟩) (by simp) (by simpa using h4) (by simpa using h5) hread ?_
  simpa using h
theorem LexTo.sym2 {c : UInt8} (hc : c = 60 ∨ c = 33 ∨ c = 62) (h : LexTo r ts) : LexTo (c :: 61 :: r) ((4, [c, 61], 0) :: ts) := by
  have hp : ∀ c : UInt8, c = 60 ∨ c = 33 ∨ c = 62 → letB c = false ∧ digB c = false ∧ c ≠ 64 ∧ spaceL c = false ∧ c ≠ 35 := by
    rintro c (rfl | rfl | rfl) <;> decide
  obtain ⟨h1, h2, h3, h4, h5⟩ := hp c hc
  have hread : readL (c :: 61 :: r) = .ok ⟨4, 0, [c, 61], 0⟩ := by
    unfold readL
    simp only [List.getD_cons_zero, h1, h2, if_neg h3, Bool.false_eq_true, if_false]
    unfold symbolL
    rw [if_pos (by simpa using hc)]
    simp
  refine LexTo.tok (t := ⟨4, 0, [c, 61], 0⟩) (by simp) (by simpa using h4) (by simpa using h5) hread ?_
  simpa using h
theorem LexTo.spc (h : LexTo r ts) : LexTo (32 :: r) ts := .sp (by decide) h
theorem LexTo.nl (h : LexTo r ts) : LexTo (10 :: r) ts := .sp (by decide) h
end
theorem safe_cons {c : UInt8} {r : Str} (h : ldB c = false) (h2 : c ≠ 61) : safe (c :: r) := .inr (by simpa using ⟨h, h2⟩)
theorem safe_sp {r : Str} : safe (32 :: r) := safe_cons (by decide) (by decide)
theorem safe_par {r : Str} : safe (41 :: r) := safe_cons (by decide) (by decide)
theorem safe_com {r : Str} : safe (44 :: r) := safe_cons (by decide) (by decide)
theorem safe_semi {r : Str} : safe (59 :: r) := safe_cons (by decide) (by decide)
section
variable (ds : DayS)
def showK (k n : Int) (s : Str) (ks : List (Nat × Str)) : Str :=
  if k = 1 then Lib.itoa n else if k = 2 then (if n = 1 then [116, 114, 117, 101] else [102, 97, 108, 115, 101]) else if k = 3 then 64 :: ds n else if k = 4 then s
  else if k = 5 then (if s = [110, 111, 116] then [110, 111, 116, 32] ++ parS 3 (ks.getD 0 (0, [])) else [45] ++ parS 7 (ks.getD 0 (0, [])))
  else if k = 9 then [105, 102, 32] ++ (ks.getD 0 (0, [])).2 ++ [32, 116, 104, 101, 110, 32] ++ (ks.getD 1 (0, [])).2 ++ [32, 101, 108, 115, 101, 32] ++ (ks.getD 2 (0, [])).2 ++ [32, 101, 110, 100]
  else if k = 10 then s ++ [40] ++ ([44, 32] : Str).intercalate (ks.map (·.2)) ++ [41]
  else if k = 7 then parS 5 (ks.getD 0 (0, [])) ++ [32, 43, 32] ++ parS 6 (ks.getD 1 (0, [])) ++ [32] ++ s
  else if k = 8 then parS 5 (ks.getD 0 (0, [])) ++ [32, 45, 32] ++ parS 6 (ks.getD 1 (0, [])) ++ [32] ++ s
  else parS (leftL (levelO s)) (ks.getD 0 (0, [])) ++ [32] ++ s ++ [32] ++ parS (levelO s + 1) (ks.getD 1 (0, []))
def showN : Nd → Str
  | .mk k n s l => showK ds k n s (l.map fun y => (lvl y, showN y))
theorem showN_mk (k n : Int) (s : Str) (l : List Nd) : showN ds (.mk k n s l) = showK ds k n s (l.map fun y => (lvl y, showN ds y)) := by rw [showN]
end
end Go.Eng


/-
The lexer gives the tokens of a printed expression (plain Lean).
-/
namespace Go.Eng
open Go Go.RowKit Go.Proofs
set_option linter.unusedVariables false
/-- a written day is read as that day -/
def DayOk (ds : DayS) : Prop := ∀ n : Int, 0 ≤ n → n ≤ 3652058 → (ds n).length = 10 ∧ ∀ r : Str, readL (64 :: ds n ++ r) = .ok ⟨3, 0, 64 :: ds n, n⟩
theorem wordOk_of {w : Str} (h : (decide (w ≠ []) && decide (w.length ≤ 12) && letB (w.getD 0 0) && w.all ldB) = true) : WordOk w := by
  simp only [Bool.and_eq_true, decide_eq_true_eq, List.all_eq_true] at h
  exact ⟨h.1.1.1, h.1.1.2, h.1.2, h.2⟩
theorem field_word : ∀ s ∈ fieldW, (decide (s ≠ []) && decide (s.length ≤ 12) && letB (s.getD 0 0) && s.all ldB) = true := by decide
theorem unit_word : ∀ s ∈ unitW, (decide (s ≠ []) && decide (s.length ≤ 12) && letB (s.getD 0 0) && s.all ldB) = true := by decide
theorem func_word : ∀ s ∈ funcW, (decide (s ≠ []) && decide (s.length ≤ 12) && letB (s.getD 0 0) && s.all ldB) = true := by decide
def opsAll : List Str := [[111, 114], [97, 110, 100], [60], [60, 61], [61], [33, 61], [62], [62, 61], [43], [45], [42]]
theorem levelO_mem {s : Str} (h : 1 ≤ levelO s) : s ∈ opsAll := by
  unfold levelO at h
  simp only [opsAll, List.mem_cons, List.not_mem_nil, or_false]
  repeat' split at h
  all_goals first
    | omega
    | (rename_i h1; subst h1; simp; done)
    | (rename_i h1; rcases h1 with rfl | rfl | rfl | rfl | rfl | rfl <;> simp; done)
    | (rename_i h1; rcases h1 with rfl | rfl <;> simp; done)
section
variable {ds : DayS} {r : Str} {ts : List T3}
/-- an operator and the space behind it -/
theorem LexTo.op {s : Str} (hs : 1 ≤ levelO s) (h : LexTo r ts) : LexTo (s ++ 32 :: r) ((opKind s, s, 0) :: ts) := by
  have hm := levelO_mem hs
  have h' := h.spc
  simp only [opsAll, List.mem_cons, List.not_mem_nil, or_false] at hm
  rcases hm with rfl | rfl | rfl | rfl | rfl | rfl | rfl | rfl | rfl | rfl | rfl
  · exact LexTo.word (wordOk_of (by decide)) safe_sp h'
  · exact LexTo.word (wordOk_of (by decide)) safe_sp h'
  · exact LexTo.sym (by decide) (.inl (by show (32 : UInt8) ≠ 61; decide)) h'
  · exact LexTo.sym2 (by decide) h'
  · exact LexTo.sym (by decide) (.inr (by decide)) h'
  · exact LexTo.sym2 (by decide) h'
  · exact LexTo.sym (by decide) (.inl (by show (32 : UInt8) ≠ 61; decide)) h'
  · exact LexTo.sym2 (by decide) h'
  · exact LexTo.sym (by decide) (.inr (by decide)) h'
  · exact LexTo.sym (by decide) (.inr (by decide)) h'
  · exact LexTo.sym (by decide) (.inr (by decide)) h'
theorem LexTo.par {x : Nd} (least : Nat) (ih : ∀ (r : Str) (ts : List T3), safe r → LexTo r ts → LexTo (showN ds x ++ r) (tokN ds x ++ ts)) (hr : safe r) (h : LexTo r ts) :
    LexTo (parS least (lvl x, showN ds x) ++ r) (parT least (lvl x, tokN ds x) ++ ts) := by
  unfold parS parT
  simp only
  split
  · have h1 : LexTo (41 :: r) ((4, [41], 0) :: ts) := LexTo.sym (by decide) (.inr (by decide)) h
    have h2 := ih _ _ safe_par h1
    have h3 : LexTo (40 :: (showN ds x ++ 41 :: r)) ((4, [40], 0) :: (tokN ds x ++ (4, [41], 0) :: ts)) := LexTo.sym (by decide) (.inr (by decide)) h2
    simpa using h3
  · exact ih r ts hr h
theorem LexTo.day {n : Int} (hd : DayOk ds) (h0 : 0 ≤ n) (h1 : n ≤ 3652058) (h : LexTo r ts) : LexTo (64 :: ds n ++ r) ((3, 64 :: ds n, n) :: ts) := by
  obtain ⟨hl, hr⟩ := hd n h0 h1
  refine LexTo.tok (t := ⟨3, 0, 64 :: ds n, n⟩) (by simp) (by simp; decide) (by simp) (hr r) ?_
  simpa using h
end
theorem lex_tree {ds : DayS} (hd : DayOk ds) {x : Nd} (hx : Wf x) : ∀ (r : Str) (ts : List T3), safe r → LexTo r ts → LexTo (showN ds x ++ r) (tokN ds x ++ ts) := by
  induction hx with
  | num n h =>
    intro r ts hr hl
    have e : showN ds (.mk 1 n [] []) = Lib.itoa n := by rw [showN_mk]; rfl
    have e2 : tokN ds (.mk 1 n [] []) = [(2, Lib.itoa n, n)] := by rw [tokN_mk]; rfl
    rw [e, e2]
    exact LexTo.num h.1 h.2 hr hl
  | bool n h =>
    intro r ts hr hl
    have e : showN ds (.mk 2 n [] []) = if n = 1 then [116, 114, 117, 101] else [102, 97, 108, 115, 101] := by rw [showN_mk]; rfl
    have e2 : tokN ds (.mk 2 n [] []) = [(1, if n = 1 then [116, 114, 117, 101] else [102, 97, 108, 115, 101], 0)] := by rw [tokN_mk]; rfl
    rw [e, e2]
    rcases h with rfl | rfl
    · exact LexTo.word (wordOk_of (by decide)) hr hl
    · exact LexTo.word (wordOk_of (by decide)) hr hl
  | day n h =>
    intro r ts hr hl
    have e : showN ds (.mk 3 n [] []) = 64 :: ds n := by rw [showN_mk]; rfl
    have e2 : tokN ds (.mk 3 n [] []) = [(3, 64 :: ds n, n)] := by rw [tokN_mk]; rfl
    rw [e, e2]
    exact LexTo.day hd h.1 h.2 hl
  | field s h =>
    intro r ts hr hl
    have e : showN ds (.mk 4 0 s []) = s := by rw [showN_mk]; rfl
    have e2 : tokN ds (.mk 4 0 s []) = [(1, s, 0)] := by rw [tokN_mk]; rfl
    rw [e, e2]
    exact LexTo.word (wordOk_of (field_word s h)) hr hl
  | neg a ha iha =>
    intro r ts hr hl
    have e : showN ds (.mk 5 0 [45] [a]) = [45] ++ parS 7 (lvl a, showN ds a) := by rw [showN_mk]; rfl
    have e2 : tokN ds (.mk 5 0 [45] [a]) = (4, [45], 0) :: parT 7 (lvl a, tokN ds a) := by rw [tokN_mk]; rfl
    rw [e, e2]
    have h1 := LexTo.par 7 iha hr hl
    have h2 := LexTo.sym (c := 45) (by decide) (.inr (by decide)) h1
    simpa using h2
  | not a ha iha =>
    intro r ts hr hl
    have e : showN ds (.mk 5 0 [110, 111, 116] [a]) = [110, 111, 116, 32] ++ parS 3 (lvl a, showN ds a) := by rw [showN_mk]; rfl
    have e2 : tokN ds (.mk 5 0 [110, 111, 116] [a]) = (1, [110, 111, 116], 0) :: parT 3 (lvl a, tokN ds a) := by rw [tokN_mk]; rfl
    rw [e, e2]
    have h1 := LexTo.par 3 iha hr hl
    have h2 := LexTo.word (w := [110, 111, 116]) (wordOk_of (by decide)) safe_sp h1.spc
    simpa using h2
  | bin s a b hs ha hb iha ihb =>
    intro r ts hr hl
    have e : showN ds (.mk 6 0 s [a, b]) = parS (leftL (levelO s)) (lvl a, showN ds a) ++ [32] ++ s ++ [32] ++ parS (levelO s + 1) (lvl b, showN ds b) := by rw [showN_mk]; rfl
    have e2 : tokN ds (.mk 6 0 s [a, b]) = parT (leftL (levelO s)) (lvl a, tokN ds a) ++ (opKind s, s, 0) :: parT (levelO s + 1) (lvl b, tokN ds b) := by rw [tokN_mk]; rfl
    rw [e, e2]
    have h1 := LexTo.par (levelO s + 1) ihb hr hl
    have h2 := (LexTo.op hs h1).spc
    have h3 := LexTo.par (leftL (levelO s)) iha safe_sp h2
    simpa using h3
  | after s a b hs ha hb iha ihb =>
    intro r ts hr hl
    have e : showN ds (.mk 7 0 s [a, b]) = parS 5 (lvl a, showN ds a) ++ [32, 43, 32] ++ parS 6 (lvl b, showN ds b) ++ [32] ++ s := by rw [showN_mk]; rfl
    have e2 : tokN ds (.mk 7 0 s [a, b]) = parT 5 (lvl a, tokN ds a) ++ (4, [43], 0) :: (parT 6 (lvl b, tokN ds b) ++ [(1, s, 0)]) := by rw [tokN_mk]; rfl
    rw [e, e2]
    have h0 := LexTo.word (wordOk_of (unit_word s hs)) hr hl
    have h1 := LexTo.par 6 ihb safe_sp h0.spc
    have h2 := (LexTo.sym (c := 43) (by decide) (.inr (by decide)) h1.spc).spc
    have h3 := LexTo.par 5 iha safe_sp h2
    simpa using h3
  | before s a b hs ha hb iha ihb =>
    intro r ts hr hl
    have e : showN ds (.mk 8 0 s [a, b]) = parS 5 (lvl a, showN ds a) ++ [32, 45, 32] ++ parS 6 (lvl b, showN ds b) ++ [32] ++ s := by rw [showN_mk]; rfl
    have e2 : tokN ds (.mk 8 0 s [a, b]) = parT 5 (lvl a, tokN ds a) ++ (4, [45], 0) :: (parT 6 (lvl b, tokN ds b) ++ [(1, s, 0)]) := by rw [tokN_mk]; rfl
    rw [e, e2]
    have h0 := LexTo.word (wordOk_of (unit_word s hs)) hr hl
    have h1 := LexTo.par 6 ihb safe_sp h0.spc
    have h2 := (LexTo.sym (c := 45) (by decide) (.inr (by decide)) h1.spc).spc
    have h3 := LexTo.par 5 iha safe_sp h2
    simpa using h3
  | cond a b c ha hb hc iha ihb ihc =>
    intro r ts hr hl
    have e : showN ds (.mk 9 0 [] [a, b, c]) = [105, 102, 32] ++ showN ds a ++ [32, 116, 104, 101, 110, 32] ++ showN ds b ++ [32, 101, 108, 115, 101, 32] ++ showN ds c ++ [32, 101, 110, 100] := by rw [showN_mk]; rfl
    have e2 : tokN ds (.mk 9 0 [] [a, b, c]) = (1, [105, 102], 0) :: (tokN ds a ++ (1, [116, 104, 101, 110], 0) :: (tokN ds b ++ (1, [101, 108, 115, 101], 0) :: (tokN ds c ++ [(1, [101, 110, 100], 0)]))) := by rw [tokN_mk]; rfl
    rw [e, e2]
    have h0 := (LexTo.word (w := [101, 110, 100]) (wordOk_of (by decide)) hr hl).spc
    have h1 := (ihc _ _ safe_sp h0).spc
    have h2 := (LexTo.word (w := [101, 108, 115, 101]) (wordOk_of (by decide)) safe_sp h1).spc
    have h3 := (ihb _ _ safe_sp h2).spc
    have h4 := (LexTo.word (w := [116, 104, 101, 110]) (wordOk_of (by decide)) safe_sp h3).spc
    have h5 := (iha _ _ safe_sp h4).spc
    have h6 := LexTo.word (w := [105, 102]) (wordOk_of (by decide)) safe_sp h5
    simpa using h6
  | call1 s a hs h1 ha iha =>
    intro r ts hr hl
    have e : showN ds (.mk 10 0 s [a]) = s ++ [40] ++ showN ds a ++ [41] := by rw [showN_mk]; simp [showK, List.intercalate]
    have e2 : tokN ds (.mk 10 0 s [a]) = (1, s, 0) :: (4, [40], 0) :: ((tokN ds a ++ []) ++ [(4, [41], 0)]) := by rw [tokN_mk]; rfl
    rw [e, e2]
    have h0 := LexTo.sym (c := 41) (by decide) (.inr (by decide)) hl
    have h1 := iha _ _ safe_par h0
    have h2 := LexTo.sym (c := 40) (by decide) (.inr (by decide)) h1
    have h3 := LexTo.word (wordOk_of (func_word s hs)) (safe_cons (by decide) (by decide)) h2
    simpa using h3
  | call2 s a b hs h2 ha hb iha ihb =>
    intro r ts hr hl
    have e : showN ds (.mk 10 0 s [a, b]) = s ++ [40] ++ (showN ds a ++ [44, 32] ++ showN ds b) ++ [41] := by rw [showN_mk]; simp [showK, List.intercalate]
    have e2 : tokN ds (.mk 10 0 s [a, b]) = (1, s, 0) :: (4, [40], 0) :: ((tokN ds a ++ ((4, [44], 0) :: tokN ds b ++ [])) ++ [(4, [41], 0)]) := by rw [tokN_mk]; rfl
    rw [e, e2]
    have h0 := LexTo.sym (c := 41) (by decide) (.inr (by decide)) hl
    have h1 := (ihb _ _ safe_par h0).spc
    have h2 := LexTo.sym (c := 44) (by decide) (.inr (by decide)) h1
    have h3 := iha _ _ safe_com h2
    have h4 := LexTo.sym (c := 40) (by decide) (.inr (by decide)) h3
    have h5 := LexTo.word (wordOk_of (func_word s hs)) (safe_cons (by decide) (by decide)) h4
    simpa using h5
end Go.Eng


/-
Printed rules: their text, their tokens, and that the parser gives them back (plain Lean).
-/
namespace Go.Eng
open Go Go.RowKit Go.Proofs
set_option linter.unusedVariables false
section
variable (ds : DayS)
def lineS (w s : Str) : Str := if s = [] then [] else [32, 32] ++ w ++ [32] ++ s ++ [59, 10]
def isTrue (x : Nd) : Prop := x.kind = 2 ∧ x.num = 1
instance (x : Nd) : Decidable (isTrue x) := by unfold isTrue; infer_instance
def ifS (x : Nd) : Str := if isTrue x then [] else lineS [105, 102] (showN ds x)
def headS (r : RuleM) : Str := [114, 117, 108, 101, 32] ++ r.name ++ [32, 102, 114, 111, 109, 32, 64] ++ ds r.frm ++ [32, 123, 10]
def showRule (r : RuleM) : Str := headS ds r ++ lineS [111, 110] r.on ++ ifS ds r.cond ++ lineS [100, 117, 101] (showN ds r.due) ++ lineS [117, 110, 108, 101, 115, 115] r.unl ++ lineS [101, 108, 115, 101] r.els ++ [125, 10]
def optT (w s : Str) : List T3 := if s = [] then [] else [(1, w, 0), (1, s, 0), (4, [59], 0)]
def ifT (x : Nd) : List T3 := if isTrue x then [] else (1, [105, 102], 0) :: (tokN ds x ++ [(4, [59], 0)])
def tailT (r : RuleM) : List T3 := optT [117, 110, 108, 101, 115, 115] r.unl ++ (optT [101, 108, 115, 101] r.els ++ [(4, [125], 0)])
def tokRule (r : RuleM) : List T3 :=
  (1, [114, 117, 108, 101], 0) :: (1, r.name, 0) :: (1, [102, 114, 111, 109], 0) :: (3, 64 :: ds r.frm, r.frm) :: (4, [123], 0) :: (1, [111, 110], 0) :: (1, r.on, 0) :: (4, [59], 0) ::
    (ifT ds r.cond ++ ((1, [100, 117, 101], 0) :: (tokN ds r.due ++ (4, [59], 0) :: tailT r)))
end
/-- a name -/
structure NameOk (s : Str) : Prop where
  word : WordOk s
  free : s ∉ ruleW ++ unitW ++ fieldW ++ funcW
/-- what the grammar permits -/
structure RuleOk (r : RuleM) : Prop where
  name : NameOk r.name
  frm : 0 ≤ r.frm ∧ r.frm ≤ 3652058
  on : NameOk r.on
  cond : Wf r.cond
  cop : opN r.cond ≤ 12
  due : Wf r.due
  dop : opN r.due ≤ 12
  unl : r.unl = [] ∨ NameOk r.unl
  els : r.els = [] ∨ NameOk r.els
theorem isTrue_eq {x : Nd} (hx : Wf x) (h : isTrue x) : x = .mk 2 1 [] [] := by
  obtain ⟨h1, h2⟩ := h
  cases hx <;> simp only [Nd.kind, Nd.num] at h1 h2 <;> first | (exact absurd h1 (by decide)) | (subst h2; rfl)
theorem wf_kind {x : Nd} (hx : Wf x) : x.kind ≠ 0 := by
  cases hx <;> (simp only [Nd.kind]; decide)
theorem showN_ne {ds : DayS} {x : Nd} (hx : Wf x) : showN ds x ≠ [] := by
  cases hx with
  | num n h => rw [showN_mk]; show Lib.itoa n ≠ []; unfold Lib.itoa; rw [if_neg (by omega)]; exact decDigits_ne _
  | bool n h => rw [showN_mk]; show (if n = 1 then [116, 114, 117, 101] else [102, 97, 108, 115, 101] : Str) ≠ []; split <;> decide
  | day n h => rw [showN_mk]; show (64 :: ds n : Str) ≠ []; simp
  | field s h => rw [showN_mk]; show s ≠ []; rintro rfl; revert h; decide
  | neg a ha => rw [showN_mk]; show ([45] ++ _ : Str) ≠ []; simp
  | not a ha => rw [showN_mk]; show ([110, 111, 116, 32] ++ _ : Str) ≠ []; simp
  | bin s a b hs ha hb => rw [showN_mk]; show (_ ++ [32] ++ s ++ [32] ++ _ : Str) ≠ []; simp
  | after s a b hs ha hb => rw [showN_mk]; show (_ ++ [32, 43, 32] ++ _ ++ [32] ++ s : Str) ≠ []; simp
  | before s a b hs ha hb => rw [showN_mk]; show (_ ++ [32, 45, 32] ++ _ ++ [32] ++ s : Str) ≠ []; simp
  | cond a b c ha hb hc => rw [showN_mk]; show ([105, 102, 32] ++ _ ++ [32, 116, 104, 101, 110, 32] ++ _ ++ [32, 101, 108, 115, 101, 32] ++ _ ++ [32, 101, 110, 100] : Str) ≠ []; simp
  | call1 s a hs h1 ha => rw [showN_mk]; simp [showK]
  | call2 s a b hs h2 ha hb => rw [showN_mk]; simp [showK]
section lexing
variable {ds : DayS} {r : Str} {ts : List T3}
theorem lex_opt {w s : Str} (hw : WordOk w) (hs : s = [] ∨ NameOk s) (h : LexTo r ts) : LexTo (lineS w s ++ r) (optT w s ++ ts) := by
  unfold lineS optT
  by_cases h0 : s = []
  · rw [if_pos h0, if_pos h0]; exact h
  · rw [if_neg h0, if_neg h0]
    have hn := (hs.resolve_left h0).word
    have h1 := LexTo.sym (c := 59) (by decide) (.inr (by decide)) h.nl
    have h2 := (LexTo.word hn safe_semi h1).spc
    have h3 := (LexTo.word hw safe_sp h2).spc.spc
    simpa using h3
theorem lex_line {w : Str} {x : Nd} (hd : DayOk ds) (hw : WordOk w) (hx : Wf x) (h : LexTo r ts) : LexTo (lineS w (showN ds x) ++ r) ((1, w, 0) :: (tokN ds x ++ (4, [59], 0) :: ts)) := by
  unfold lineS
  rw [if_neg (showN_ne hx)]
  have h1 := LexTo.sym (c := 59) (by decide) (.inr (by decide)) h.nl
  have h2 := (lex_tree hd hx _ _ safe_semi h1).spc
  have h3 := (LexTo.word hw safe_sp h2).spc.spc
  simpa using h3
theorem lex_if {x : Nd} (hd : DayOk ds) (hx : Wf x) (h : LexTo r ts) : LexTo (ifS ds x ++ r) (ifT ds x ++ ts) := by
  unfold ifS ifT
  by_cases ht : isTrue x
  · rw [if_pos ht, if_pos ht]; exact h
  · rw [if_neg ht, if_neg ht]
    have := lex_line hd (w := [105, 102]) (wordOk_of (by decide)) hx h
    simpa using this
theorem lex_rule {x : RuleM} (hd : DayOk ds) (hx : RuleOk x) (h : LexTo r ts) : LexTo (showRule ds x ++ r) (tokRule ds x ++ ts) := by
  have h1 := LexTo.sym (c := 125) (by decide) (.inr (by decide)) h.nl
  have h2 := lex_opt (w := [101, 108, 115, 101]) (wordOk_of (by decide)) hx.els h1
  have h3 := lex_opt (w := [117, 110, 108, 101, 115, 115]) (wordOk_of (by decide)) hx.unl h2
  have h4 := lex_line hd (w := [100, 117, 101]) (wordOk_of (by decide)) hx.due h3
  have h5 := lex_if hd hx.cond h4
  have h6 := lex_opt (w := [111, 110]) (wordOk_of (by decide)) (.inr hx.on) h5
  have hon : x.on ≠ [] := hx.on.word.ne
  have e6 : optT [111, 110] x.on = [(1, [111, 110], 0), (1, x.on, 0), (4, [59], 0)] := by unfold optT; rw [if_neg hon]
  rw [e6] at h6
  have h7 := (LexTo.sym (c := 123) (by decide) (.inr (by decide)) h6.nl).spc
  have h8 := (LexTo.day hd hx.frm.1 hx.frm.2 h7).spc
  have h9 := (LexTo.word (w := [102, 114, 111, 109]) (wordOk_of (by decide)) safe_sp h8).spc
  have h10 := (LexTo.word hx.name.word safe_sp h9).spc
  have h11 := LexTo.word (w := [114, 117, 108, 101]) (wordOk_of (by decide)) safe_sp h10
  unfold showRule tokRule headS tailT
  simpa using h11
theorem lex_rules {xs : List RuleM} (hd : DayOk ds) (hx : ∀ x ∈ xs, RuleOk x) : LexTo (xs.flatMap (showRule ds)) (xs.flatMap (tokRule ds)) := by
  induction xs with
  | nil => exact .nil
  | cons a q ih =>
    simp only [List.flatMap_cons]
    exact lex_rule hd (hx a (by simp)) (ih fun x h => hx x (by simp [h]))
end lexing
section parsing
variable {l : List Tkn} {i o : Nat}
theorem mustO_at {k n : Int} {s : Str} {q : List T3} (h : At l i ((k, s, n) :: q)) : mustO l s i o = .ok () (i + 1) o ∧ At l (i + 1) q := by
  obtain ⟨⟨_, h2, _⟩, h⟩ := At_cons h
  exact ⟨by unfold mustO; rw [if_pos h2], h⟩
theorem nameO_at {s : Str} {q : List T3} (hs : NameOk s) (h : At l i ((1, s, 0) :: q)) : nameO l i o = .ok s (i + 1) o ∧ At l (i + 1) q := by
  obtain ⟨⟨h1, h2, _⟩, h⟩ := At_cons h
  refine ⟨?_, h⟩
  simp only at h1 h2
  unfold nameO
  rw [h2, if_neg hs.free]
  unfold tokenO
  rw [if_pos h1]
  simp [Out.bind, h2]
theorem partO_no {α : Type} {w : Str} {z : α} {rd : Nat → Nat → Out α} (h : (cur l i).text ≠ w) : partO l w z rd i o = .ok z i o := by unfold partO; rw [if_neg h]
theorem partO_yes {α : Type} {w : Str} {z x : α} {rd : Nat → Nat → Out α} {j o' : Nat} (h : (cur l i).text = w) (hr : rd (i + 1) o = .ok x j o') (hs : (cur l j).text = [59]) : partO l w z rd i o = .ok x (j + 1) o' := by
  unfold partO
  rw [if_pos h, hr]
  simp only [Out.bind, mustO]
  rw [if_pos hs]
theorem partO_opt {w s : Str} {q : List T3} (hs : s = [] ∨ NameOk s) (h : At l i (optT w s ++ q)) (hq : At l i q → (cur l i).text ≠ w) :
    partO l w [] (nameO l) i o = .ok s (i + (optT w s).length) o ∧ At l (i + (optT w s).length) q := by
  by_cases h0 : s = []
  · subst h0
    have e : optT w [] = [] := rfl
    rw [e] at h ⊢
    exact ⟨partO_no (hq h), h⟩
  · have e : optT w s = [(1, w, 0), (1, s, 0), (4, [59], 0)] := by unfold optT; rw [if_neg h0]
    rw [e] at h ⊢
    obtain ⟨⟨_, h2, _⟩, h⟩ := At_cons h
    obtain ⟨hn, h⟩ := nameO_at (o := o) (hs.resolve_left h0) h
    obtain ⟨⟨_, g2, _⟩, h⟩ := At_cons h
    exact ⟨partO_yes h2 hn g2, h⟩
theorem wholeO_at {ds : DayS} {x : Nd} (hx : Wf x) (ho : o + opN x ≤ 12) {q : List T3} (h : At l i (tokN ds x ++ (4, [59], 0) :: q)) : wholeO l i o = .ok x (i + (tokN ds x).length) o ∧ (cur l (i + (tokN ds x).length)).text = [59] ∧ At l (i + (tokN ds x).length + 1) q := by
  rw [At_app] at h
  obtain ⟨h1, h⟩ := h
  obtain ⟨⟨_, h2, _⟩, h⟩ := At_cons h
  simp only at h2
  exact ⟨whole_tree ds hx h1 ho (by rw [h2]; decide) (by rw [h2]; decide), h2, h⟩
theorem partO_if {ds : DayS} {x : Nd} (hx : Wf x) (ho : o + opN x ≤ 12) {q : List T3} (h : At l i (ifT ds x ++ ((1, [100, 117, 101], 0) :: q))) :
    ∃ cd, partO l [105, 102] ndZero (wholeO l) i o = .ok cd (i + (ifT ds x).length) o ∧ (if cd.kind = 0 then Nd.mk 2 1 [] [] else cd) = x ∧ At l (i + (ifT ds x).length) ((1, [100, 117, 101], 0) :: q) := by
  by_cases ht : isTrue x
  · have e : ifT ds x = [] := by unfold ifT; rw [if_pos ht]
    rw [e] at h ⊢
    refine ⟨ndZero, partO_no ?_, ?_, h⟩
    · obtain ⟨⟨_, h2, _⟩, _⟩ := At_cons h
      rw [h2]
      simp
    · rw [isTrue_eq hx ht]; rfl
  · have e : ifT ds x = (1, [105, 102], 0) :: (tokN ds x ++ [(4, [59], 0)]) := by unfold ifT; rw [if_neg ht]
    rw [e] at h ⊢
    rw [List.cons_append, List.append_assoc] at h
    obtain ⟨⟨_, h2, _⟩, h⟩ := At_cons h
    obtain ⟨g1, g2, g3⟩ := wholeO_at (o := o) hx ho h
    refine ⟨x, ?_, by rw [if_neg (wf_kind hx)], ?_⟩
    · have := partO_yes (z := ndZero) (w := [105, 102]) h2 g1 g2
      rw [this]
      simp only [List.length_cons, List.length_append, List.length_nil]
      rw [show i + 1 + (tokN ds x).length + 1 = i + ((tokN ds x).length + (0 + 1) + 1) by omega]
    · simp only [List.length_cons, List.length_append, List.length_nil]
      rw [show i + ((tokN ds x).length + (0 + 1) + 1) = i + 1 + (tokN ds x).length + 1 by omega]
      exact g3
theorem partO_due {ds : DayS} {x : Nd} (hx : Wf x) (ho : o + opN x ≤ 12) {q : List T3} (h : At l i ((1, [100, 117, 101], 0) :: (tokN ds x ++ (4, [59], 0) :: q))) :
    (cur l i).text = [100, 117, 101] ∧ partO l [100, 117, 101] ndZero (wholeO l) i o = .ok x (i + (tokN ds x).length + 2) o ∧ At l (i + (tokN ds x).length + 2) q := by
  obtain ⟨⟨_, h2, _⟩, h⟩ := At_cons h
  obtain ⟨g1, g2, g3⟩ := wholeO_at (o := o) hx ho h
  refine ⟨h2, ?_, ?_⟩
  · have := partO_yes (z := ndZero) (w := [100, 117, 101]) h2 g1 g2
    rw [this]
    rw [show i + 1 + (tokN ds x).length + 1 = i + (tokN ds x).length + 2 by omega]
  · rw [show i + (tokN ds x).length + 2 = i + 1 + (tokN ds x).length + 1 by omega]
    exact g3
theorem ruleO_at {ds : DayS} {x : RuleM} (hx : RuleOk x) {q : List T3} (h : At l i (tokRule ds x ++ q)) : ruleO l i 0 = .ok x (i + (tokRule ds x).length) 0 ∧ At l (i + (tokRule ds x).length) q := by
  have hlen : (tokRule ds x).length = 8 + (ifT ds x.cond).length + (tokN ds x.due).length + 2 + (optT [117, 110, 108, 101, 115, 115] x.unl).length + (optT [101, 108, 115, 101] x.els).length + 1 := by
    unfold tokRule tailT
    simp only [List.length_cons, List.length_append, List.length_nil]
    omega
  unfold tokRule tailT at h
  simp only [List.cons_append, List.append_assoc, List.nil_append] at h
  obtain ⟨m1, h⟩ := mustO_at (o := 0) h
  obtain ⟨m2, h⟩ := nameO_at (o := 0) hx.name h
  obtain ⟨m3, h⟩ := mustO_at (o := 0) h
  obtain ⟨⟨t1, t2, t3⟩, h⟩ := At_cons h
  simp only at t1 t2 t3
  have m4 : tokenO l 3 (i + 1 + 1 + 1) 0 = .ok (cur l (i + 1 + 1 + 1)) (i + 1 + 1 + 1 + 1) 0 := by unfold tokenO; rw [if_pos t1]
  obtain ⟨m5, h⟩ := mustO_at (o := 0) h
  have hon : (cur l (i + 1 + 1 + 1 + 1 + 1)).text = [111, 110] := (At_cons h).1.2.1
  have h' := (At_cons h).2
  obtain ⟨m6, h'⟩ := nameO_at (o := 0) hx.on h'
  have hsem := (At_cons h').1.2.1
  have h := (At_cons h').2
  have m7 := partO_yes (z := ([] : Str)) (w := [111, 110]) hon m6 hsem
  obtain ⟨cd, m8, hcd, h⟩ := partO_if (o := 0) hx.cond (by have := hx.cop; omega) h
  obtain ⟨hdue, m9, h⟩ := partO_due (o := 0) hx.due (by have := hx.dop; omega) h
  obtain ⟨m10, h⟩ := partO_opt (o := 0) (w := [117, 110, 108, 101, 115, 115]) hx.unl h (fun h e => by
    by_cases h0 : x.els = []
    · have : optT [101, 108, 115, 101] x.els = [] := by unfold optT; rw [if_pos h0]
      rw [this] at h
      have := (At_cons h).1.2.1
      rw [e] at this
      exact absurd this (by decide)
    · have : optT [101, 108, 115, 101] x.els = [(1, [101, 108, 115, 101], 0), (1, x.els, 0), (4, [59], 0)] := by unfold optT; rw [if_neg h0]
      rw [this] at h
      have := (At_cons h).1.2.1
      rw [e] at this
      exact absurd this (by decide))
  obtain ⟨m11, h⟩ := partO_opt (o := 0) (w := [101, 108, 115, 101]) hx.els h (fun h e => by
    have := (At_cons h).1.2.1
    rw [e] at this
    exact absurd this (by decide))
  obtain ⟨m12, h⟩ := mustO_at (o := 0) h
  refine ⟨?_, ?_⟩
  · unfold ruleO
    rw [m1]; simp only [Out.bind]
    rw [m2]; simp only
    rw [m3]; simp only
    rw [m4]; simp only
    rw [m5]; simp only
    rw [if_pos hon, m7]; simp only
    rw [m8]; simp only
    rw [if_pos hdue, m9]; simp only
    rw [m10]; simp only
    rw [m11]; simp only
    rw [m12]; simp only
    rw [hcd, t3, hlen]
    congr 1
    omega
  · rw [hlen]
    have e : i + (8 + (ifT ds x.cond).length + (tokN ds x.due).length + 2 + (optT [117, 110, 108, 101, 115, 115] x.unl).length + (optT [101, 108, 115, 101] x.els).length + 1) = i + 1 + 1 + 1 + 1 + 1 + 1 + 1 + 1 + (ifT ds x.cond).length + (tokN ds x.due).length + 2 + (optT [117, 110, 108, 101, 115, 115] x.unl).length + (optT [101, 108, 115, 101] x.els).length + 1 := by omega
    rw [e]
    exact h
theorem tokRule_pos {ds : DayS} {x : RuleM} : 0 < (tokRule ds x).length := by unfold tokRule; simp
theorem rulesO_at {ds : DayS} : ∀ (xs : List RuleM) (rs : List RuleM) (f i : Nat), (∀ x ∈ xs, RuleOk x) → xs.length < f → At l i (xs.flatMap (tokRule ds)) → (cur l (i + (xs.flatMap (tokRule ds)).length)).kind = 0 →
    rulesO l f rs i 0 = .ok (rs ++ xs) (i + (xs.flatMap (tokRule ds)).length) 0
  | [], rs, f, i, hx, hf, h, hk => by
    cases f with
    | zero => omega
    | succ f =>
      simp only [List.flatMap_nil, List.length_nil, Nat.add_zero] at hk ⊢
      simp only [rulesO]
      rw [if_pos hk]
      simp
  | a :: xs, rs, f, i, hx, hf, h, hk => by
    cases f with
    | zero => omega
    | succ f =>
      simp only [List.flatMap_cons] at h hk ⊢
      obtain ⟨m, h'⟩ := ruleO_at (hx a (by simp)) h
      have hne : (cur l i).kind ≠ 0 := by
        unfold tokRule at h
        simp only [List.cons_append] at h
        rw [(At_cons h).1.1]
        decide
      rw [List.length_append, ← Nat.add_assoc] at hk
      have ih := rulesO_at (ds := ds) xs (rs ++ [a]) f _ (fun x hx' => hx x (by simp [hx'])) (by simp at hf; omega) h' hk
      simp only [rulesO]
      rw [if_neg hne, m]
      simp only [Out.bind]
      rw [ih, List.append_assoc, List.length_append, ← Nat.add_assoc]
      rfl
end parsing
/-- the rules of a source: an error, or the rules -/
inductive Ps where
  | err (a c : Int)
  | ok (l : List RuleM)
def parseM (s : Str) : Ps :=
  match tokensM s with
  | .err a c => .err a c
  | .ok l => match rulesO l (l.length + 1) [] 0 0 with
    | .err a c => .err a c
    | .ok rs _ _ => .ok rs
theorem parse_print {ds : DayS} (hd : DayOk ds) {xs : List RuleM} (hx : ∀ x ∈ xs, RuleOk x) (hl : (xs.flatMap (showRule ds)).length ≤ 4000) : parseM (xs.flatMap (showRule ds)) = .ok xs := by
  obtain ⟨l1, p, g1, g2, g3⟩ := tokensM_lex hl (lex_rules hd hx)
  have hlen : l1.length = (xs.flatMap (tokRule ds)).length := by rw [← g2]; simp
  have hxs : xs.length ≤ l1.length := by
    rw [hlen]
    clear g1 g2 g3 hlen hl hx
    induction xs with
    | nil => simp
    | cons a q ih =>
      have := tokRule_pos (ds := ds) (x := a)
      simp only [List.flatMap_cons, List.length_append, List.length_cons]
      omega
  have hend : (cur (l1 ++ [⟨0, p, [], 0⟩]) (0 + (xs.flatMap (tokRule ds)).length)).kind = 0 := by
    rw [Nat.zero_add, ← hlen]
    unfold cur
    simp
  unfold parseM
  rw [g1]
  simp only
  rw [rulesO_at xs [] _ 0 hx (by simp; omega) g3 hend]
  simp
end Go.Eng


/-
Written days: the date of a day and back (plain Lean).
-/
namespace Go.Eng
open Go Go.RowKit Go.Proofs
set_option linter.unusedVariables false
/-! ### the year of a day of an era, looked at one after the other -/
def yoeN (d : Nat) : Nat := (d - d / 1460 + d / 36524 - d / 146096) / 365
def startN (y : Nat) : Nat := 365 * y + y / 4 - y / 100
def leapN (y : Nat) : Bool := Nat.beq (y % 4) 0 && (!(Nat.beq (y % 100) 0) || Nat.beq (y % 400) 0)
def oneB (d : Nat) : Bool := Nat.ble 146097 d || (Nat.ble (startN (yoeN d)) d && (Nat.blt d (startN (yoeN d) + 365) || (Nat.beq d (startN (yoeN d) + 365) && leapN (yoeN d + 1))))
def allB : Nat → Nat → Bool
  | 0, lo => oneB lo
  | k + 1, lo => allB k lo && allB k (lo + 2 ^ k)
theorem allB_spec : ∀ (k lo d : Nat), allB k lo = true → lo ≤ d → d < lo + 2 ^ k → oneB d = true
  | 0, lo, d, h, h1, h2 => by
    have : d = lo := by simp at h2; omega
    subst this
    exact h
  | k + 1, lo, d, h, h1, h2 => by
    simp only [allB, Bool.and_eq_true] at h
    rw [Nat.pow_succ] at h2
    rcases Nat.lt_or_ge d (lo + 2 ^ k) with h3 | h3
    · exact allB_spec k lo d h.1 h1 h3
    · exact allB_spec k (lo + 2 ^ k) d h.2 h3 (by omega)
theorem all_days : allB 18 0 = true := by kernel_rfl
theorem leap_iff (y : Nat) : leapN y = leapM (y : Int) := by
  unfold leapN leapM
  have h : ∀ a b : Nat, Nat.beq (a % b) 0 = decide ((a : Int) % (b : Int) = 0) := fun a b => by
    rw [Bool.eq_iff_iff]
    simp only [decide_eq_true_eq]
    rw [Nat.beq_eq]
    omega
  rw [show Nat.beq (y % 4) 0 = decide ((y : Int) % 4 = 0) from h y 4, show Nat.beq (y % 100) 0 = decide ((y : Int) % 100 = 0) from h y 100, show Nat.beq (y % 400) 0 = decide ((y : Int) % 400 = 0) from h y 400]
  simp
/-- the date of a day -/
structure Dat where
  y : Int
  m : Int
  d : Int
def ofM (day : Int) : Dat :=
  let z := day + 306
  let era := z / 146097
  let doe := z % 146097
  let yoe := (doe - doe / 1460 + doe / 36524 - doe / 146096) / 365
  let doy := doe - (365 * yoe + yoe / 4 - yoe / 100)
  let m := (5 * doy + 2) / 153
  if m ≥ 10 then ⟨yoe + 400 * era + 1, m - 9, doy - (153 * m + 2) / 5 + 1⟩ else ⟨yoe + 400 * era, m + 3, doy - (153 * m + 2) / 5 + 1⟩
theorem month_ok : ∀ q : Nat, q < 366 → (5 * q + 2) / 153 ≤ 11 ∧ (153 * ((5 * q + 2) / 153) + 2) / 5 ≤ q ∧
    q - (153 * ((5 * q + 2) / 153) + 2) / 5 + 1 ≤ (if (5 * q + 2) / 153 = 11 then (if q = 365 then 29 else 28) else if (5 * q + 2) / 153 = 1 ∨ (5 * q + 2) / 153 = 3 ∨ (5 * q + 2) / 153 = 6 ∨ (5 * q + 2) / 153 = 8 then 30 else 31) := by decide +kernel
theorem era_ok (doe : Int) (h0 : 0 ≤ doe) (h1 : doe < 146097) : ∃ yoe doy : Nat, (doe - doe / 1460 + doe / 36524 - doe / 146096) / 365 = (yoe : Int) ∧ doe - (365 * (yoe : Int) + (yoe : Int) / 4 - (yoe : Int) / 100) = (doy : Int) ∧ yoe ≤ 399 ∧ doy ≤ 365 ∧ (doy = 365 → leapM ((yoe : Int) + 1) = true) := by
  obtain ⟨d, rfl⟩ : ∃ d : Nat, doe = (d : Int) := ⟨doe.toNat, by omega⟩
  have hd : d < 146097 := by omega
  have h := allB_spec 18 0 d all_days (by omega) (by omega)
  unfold oneB at h
  rw [show Nat.ble 146097 d = false by rw [Bool.eq_false_iff]; simp; omega] at h
  simp only [Bool.false_or, Bool.and_eq_true, Bool.or_eq_true, Nat.ble_eq, Nat.beq_eq] at h
  obtain ⟨h2, h3⟩ := h
  have hy : ((d : Int) - (d : Int) / 1460 + (d : Int) / 36524 - (d : Int) / 146096) / 365 = ((yoeN d : Nat) : Int) := by unfold yoeN; omega
  have hyle : yoeN d ≤ 399 := by unfold yoeN; omega
  have hst : (startN (yoeN d) : Int) = 365 * (yoeN d : Int) + (yoeN d : Int) / 4 - (yoeN d : Int) / 100 := by unfold startN; omega
  refine ⟨yoeN d, d - startN (yoeN d), hy, by omega, hyle, ?_, fun h4 => ?_⟩
  · rcases h3 with h3 | h3
    · have := Nat.le_of_ble_eq_true h3; omega
    · have := h3.1; omega
  · rcases h3 with h3 | h3
    · have := Nat.le_of_ble_eq_true h3; omega
    · have := h3.2; rw [leap_iff] at this; exact this
theorem leapM_era (y e : Int) : leapM (y + 400 * e) = leapM y := by
  unfold leapM
  have h4 : (y + 400 * e) % 4 = y % 4 := by omega
  have h100 : (y + 400 * e) % 100 = y % 100 := by omega
  have h400 : (y + 400 * e) % 400 = y % 400 := by omega
  rw [h4, h100, h400]
theorem ofM_ok {n : Int} (h0 : 0 ≤ n) (h1 : n ≤ 3652058) : 1 ≤ (ofM n).y ∧ (ofM n).y ≤ 9999 ∧ 1 ≤ (ofM n).m ∧ (ofM n).m ≤ 12 ∧ 1 ≤ (ofM n).d ∧ (ofM n).d ≤ lengthM (ofM n).y (ofM n).m ∧ dayM (ofM n).y (ofM n).m (ofM n).d = n := by
  obtain ⟨yoe, doy, e1, e2, hy, hd, hl⟩ := era_ok ((n + 306) % 146097) (by omega) (by omega)
  obtain ⟨m1, m2, m3⟩ := month_ok doy (by omega)
  have hera : (n + 306) / 146097 * 146097 + (n + 306) % 146097 = n + 306 := by omega
  unfold ofM
  simp only
  rw [e1, e2]
  have em : (5 * (doy : Int) + 2) / 153 = (((5 * doy + 2) / 153 : Nat) : Int) := by omega
  rw [em]
  have ek : (153 * (((5 * doy + 2) / 153 : Nat) : Int) + 2) / 5 = (((153 * ((5 * doy + 2) / 153) + 2) / 5 : Nat) : Int) := by omega
  rw [ek]
  generalize (n + 306) / 146097 = era at *
  generalize (n + 306) % 146097 = doe at *
  have hk5 : ∀ m : Nat, m ≤ 11 → (153 * (m : Int) + 2) / 5 = (((153 * m + 2) / 5 : Nat) : Int) := fun m _ => by omega
  generalize hm : (5 * doy + 2) / 153 = m at *
  have q4 : ((yoe : Int) + 400 * era) / 4 = (yoe : Int) / 4 + 100 * era := by omega
  have q100 : ((yoe : Int) + 400 * era) / 100 = (yoe : Int) / 100 + 4 * era := by omega
  have q400 : ((yoe : Int) + 400 * era) / 400 = era := by omega
  by_cases h10 : ((m : Nat) : Int) ≥ 10
  · rw [if_pos h10]
    simp only
    have hday : dayM ((yoe : Int) + 400 * era + 1) ((m : Int) - 9) ((doy : Int) - (((153 * m + 2) / 5 : Nat) : Int) + 1) = n := by
      unfold dayM
      rw [if_pos (by omega)]
      simp only
      rw [show (yoe : Int) + 400 * era + 1 - 1 = (yoe : Int) + 400 * era by omega, show (m : Int) - 9 + 9 = (m : Int) by omega, hk5 m m1, q4, q100, q400]
      omega
    refine ⟨?_, ?_, by omega, by omega, by omega, ?_, hday⟩
    · omega
    · omega
    · have hm' : m = 10 ∨ m = 11 := by omega
      rcases hm' with rfl | rfl
      · unfold lengthM
        rw [if_neg (by omega), if_neg (by omega), if_neg (by omega)]
        rw [if_neg (by omega), if_neg (by omega)] at m3
        omega
      · unfold lengthM
        rw [if_neg (by omega), if_pos (by omega)]
        rw [if_pos rfl] at m3
        by_cases h365 : doy = 365
        · rw [if_pos h365] at m3
          have hlp : leapM ((yoe : Int) + 400 * era + 1) = true := by
            rw [show (yoe : Int) + 400 * era + 1 = ((yoe : Int) + 1) + 400 * era by omega, leapM_era]
            exact hl h365
          rw [hlp]
          simp only [if_true]
          omega
        · rw [if_neg h365] at m3
          split <;> omega
  · rw [if_neg h10]
    simp only
    have hday : dayM ((yoe : Int) + 400 * era) ((m : Int) + 3) ((doy : Int) - (((153 * m + 2) / 5 : Nat) : Int) + 1) = n := by
      unfold dayM
      rw [if_neg (by omega)]
      simp only
      rw [show (m : Int) + 3 - 3 = (m : Int) by omega, hk5 m m1, q4, q100, q400]
      omega
    refine ⟨?_, ?_, by omega, by omega, by omega, ?_, hday⟩
    · omega
    · omega
    · unfold lengthM
      rw [if_neg (by omega), if_neg (by omega)]
      rw [if_neg (by omega)] at m3
      split at m3
      · rw [if_pos (by omega)]; omega
      · rw [if_neg (by omega)]; omega
/-! ### the written day -/
def padS (w : Nat) (s : Str) : Str := List.replicate (w - s.length) 48 ++ s
def dateS (n : Int) : Str := padS 4 (Lib.itoa (ofM n).y) ++ [45] ++ padS 2 (Lib.itoa (ofM n).m) ++ [45] ++ padS 2 (Lib.itoa (ofM n).d)
theorem decDigits_len : ∀ (k u : Nat), u < 10 ^ (k + 1) → (Lib.decDigits u).length ≤ k + 1
  | 0, u, h => by rw [Lib.decDigits, dif_pos (by simpa using h)]; simp
  | k + 1, u, h => by
    rw [Lib.decDigits]
    split
    · simp
    · have := decDigits_len k (u / 10) (by rw [Nat.pow_succ] at h; omega)
      simp
      omega
theorem padS_ok {w : Nat} {z : Int} (h0 : 0 ≤ z) (k : Nat) (hk : w = k + 1) (h1 : z < ((10 ^ (k + 1) : Nat) : Int)) : (padS w (Lib.itoa z)).length = w ∧ (padS w (Lib.itoa z)).all digB = true ∧ (decN (padS w (Lib.itoa z)) : Int) = z := by
  have hi : Lib.itoa z = Lib.decDigits z.toNat := by unfold Lib.itoa; rw [if_neg (by omega)]
  rw [hi]
  have hl := decDigits_len k z.toNat (by omega)
  have hd := decN_dec z.toNat
  have ha := decDigits_dig z.toNat
  generalize Lib.decDigits z.toNat = s at *
  unfold padS
  refine ⟨by simp; omega, ?_, ?_⟩
  · simp only [List.all_append, Bool.and_eq_true, List.all_eq_true]
    refine ⟨fun c hc => ?_, fun c hc => digB_of (ha c hc)⟩
    rw [List.eq_of_mem_replicate hc]
    decide
  · have hz : ∀ (n : Nat) (s : Str), decN (List.replicate n 48 ++ s) = decN s := by
      intro n
      induction n with
      | zero => intro s; simp
      | succ n ih => intro s; simp only [List.replicate_succ, List.cons_append]; unfold decN at ih ⊢; simpa using ih s
    rw [hz, hd]
    omega
theorem dateS_parts {n : Int} (h0 : 0 ≤ n) (h1 : n ≤ 3652058) : ∃ a b c : Str, dateS n = a ++ [45] ++ b ++ [45] ++ c ∧ a.length = 4 ∧ b.length = 2 ∧ c.length = 2 ∧ a.all digB = true ∧ b.all digB = true ∧ c.all digB = true ∧ (decN a : Int) = (ofM n).y ∧ (decN b : Int) = (ofM n).m ∧ (decN c : Int) = (ofM n).d := by
  obtain ⟨g1, g2, g3, g4, g5, g6, g7⟩ := ofM_ok h0 h1
  have g8 := lengthM_le (ofM n).y (ofM n).m
  obtain ⟨a1, a2, a3⟩ := padS_ok (w := 4) (z := (ofM n).y) (by omega) 3 rfl (by omega)
  obtain ⟨b1, b2, b3⟩ := padS_ok (w := 2) (z := (ofM n).m) (by omega) 1 rfl (by omega)
  obtain ⟨c1, c2, c3⟩ := padS_ok (w := 2) (z := (ofM n).d) (by omega) 1 rfl (by omega)
  exact ⟨_, _, _, rfl, a1, b1, c1, a2, b2, c2, a3, b3, c3⟩
theorem dateS_len {n : Int} (h0 : 0 ≤ n) (h1 : n ≤ 3652058) : (dateS n).length = 10 := by
  obtain ⟨a, b, c, e, ha, hb, hc, -⟩ := dateS_parts h0 h1
  rw [e]
  simp [ha, hb, hc]
theorem dateP_dateS {n : Int} (h0 : 0 ≤ n) (h1 : n ≤ 3652058) : dateP (dateS n) = (n, 0) := by
  obtain ⟨g1, g2, g3, g4, g5, g6, g7⟩ := ofM_ok h0 h1
  obtain ⟨a, b, c, e, ha, hb, hc, da, db, dc, na, nb, nc⟩ := dateS_parts h0 h1
  rw [e]
  match a, ha with
  | [a0, a1, a2, a3], _ =>
    match b, hb with
    | [b0, b1], _ =>
      match c, hc with
      | [c0, c1], _ =>
        unfold dateP
        have e1 : (([a0, a1, a2, a3] ++ [45] ++ [b0, b1] ++ [45] ++ [c0, c1] : Str)).take 4 = [a0, a1, a2, a3] := rfl
        have e2 : ((([a0, a1, a2, a3] ++ [45] ++ [b0, b1] ++ [45] ++ [c0, c1] : Str)).drop 5).take 2 = [b0, b1] := rfl
        have e3 : (([a0, a1, a2, a3] ++ [45] ++ [b0, b1] ++ [45] ++ [c0, c1] : Str)).drop 8 = [c0, c1] := rfl
        rw [e1, e2, e3]
        rw [if_pos ⟨rfl, rfl, rfl, da, db, dc⟩]
        simp only
        rw [na, nb, nc, if_neg (by omega), g7]
theorem dateS_ok : DayOk dateS := by
  intro n h0 h1
  refine ⟨dateS_len h0 h1, fun r => ?_⟩
  have hp := dateP_dateS h0 h1
  have hl := dateS_len h0 h1
  obtain ⟨a, b, c, e, ha, hb, hc, da, db, dc, -⟩ := dateS_parts h0 h1
  have htake : ((64 :: dateS n ++ r : Str)).take 11 = 64 :: dateS n := by
    rw [List.cons_append, List.take_succ_cons, List.take_append_of_le_length (by omega), List.take_of_length_le (by omega)]
  unfold readL
  simp only [List.cons_append, List.getD_cons_zero]
  rw [if_neg (by decide), if_neg (by decide), if_pos (by decide)]
  unfold dayL
  rw [← List.cons_append, if_neg (by simp; omega), htake]
  have hform : ((formL.zip (64 :: dateS n ++ r)).all fun p => fitL p.1 p.2) = true := by
    rw [e]
    match a, ha with
    | [a0, a1, a2, a3], _ =>
      match b, hb with
      | [b0, b1], _ =>
        match c, hc with
        | [c0, c1], _ =>
          simp only [List.all_cons, List.all_nil, Bool.and_true, Bool.and_eq_true] at da db dc
          simp [formL, fitL, da, db, dc]
  rw [if_pos hform]
  simp only [List.drop_succ_cons, List.drop_zero]
  rw [hp]
  simp
end Go.Eng


/-
What is typed can be printed and parsed (plain Lean).
-/
namespace Go.Proofs.YtgpibcgebpgmiaaGreatDoor
open Go Go.Eng Go.RowKit Go.Proofs
set_option linter.unusedVariables false
theorem fieldF_mem {s : Str} (h : (fieldF s).2.1 ≠ 0) : s ∈ fieldNames := by
  by_cases hm : s ∈ fieldNames
  · exact hm
  · exfalso
    have hi : ¬ 0 ≤ idx (isS s) fieldNames := fun h0 => hm (idx_memS.1 h0)
    apply h
    unfold fieldF
    simp only
    rw [if_pos (by omega)]
theorem leaf_wf {k n : Int} {s : Str} (h : leafN k n s ≠ 0) : Wf (.mk k n s []) := by
  unfold leafN at h
  by_cases h4 : k = 4
  · subst h4
    rw [if_pos rfl] at h
    by_cases hn : n = 0
    · subst hn
      rw [if_pos rfl] at h
      exact .field s (fieldF_mem h)
    · rw [if_neg hn] at h; exact absurd rfl h
  · rw [if_neg h4] at h
    by_cases hs : s = []
    · subst hs
      rw [if_neg (by simp)] at h
      by_cases h1 : k = 1
      · subst h1
        rw [if_pos rfl] at h
        split at h
        · exact .num n (by assumption)
        · exact absurd rfl h
      · rw [if_neg h1] at h
        by_cases h2 : k = 2
        · subst h2
          rw [if_pos rfl] at h
          split at h
          · exact .bool n (by omega)
          · exact absurd rfl h
        · rw [if_neg h2] at h
          by_cases h3 : k = 3
          · subst h3
            rw [if_pos rfl] at h
            split at h
            · exact .day n (by assumption)
            · exact absurd rfl h
          · rw [if_neg h3] at h; exact absurd rfl h
    · rw [if_pos hs] at h; exact absurd rfl h
theorem sigI_mem {x : Sig} (h : sigI x ≠ 0) : ∃ p ∈ sigs, p.1 = x := by
  cases hf : sigs.find? (fun p => decide (p.1 = x)) with
  | none =>
    exfalso
    apply h
    unfold sigI sigF mget
    rw [hf]
  | some p => exact ⟨p, List.mem_of_find?_eq_some hf, by simpa using List.find?_some hf⟩
theorem binT_ops {s : Str} {a b : Int} (h : binT s a b ≠ 0) : a = b ∧ s ∈ opsA ++ opsC ++ opsL := by
  unfold binT at h
  split at h
  · rename_i hs
    split at h
    · rename_i hc; exact ⟨hc.1, by simp [hs]⟩
    · exact absurd rfl h
  · split at h
    · rename_i hs
      split at h
      · rename_i hc; exact ⟨hc.1, by simp [hs]⟩
      · exact absurd rfl h
    · split at h
      · rename_i hs
        split at h
        · rename_i hc; exact ⟨hc.1, by simp [hs]⟩
        · exact absurd rfl h
      · exact absurd rfl h
theorem ops_level : ∀ s ∈ opsA ++ opsC ++ opsL, 1 ≤ levelO s := by decide
theorem typed_wf (x : Nd) : typeT x ≠ 0 → Wf x := by
  induction x using Nd.ind with
  | h k n s l ih =>
  intro h
  rw [typeT_eq] at h
  simp only [Nd.kind, Nd.num, Nd.word, Nd.kids] at h
  unfold combT at h
  split at h
  · exact absurd rfl h
  · rename_i hl3
    split at h
    · exact absurd rfl h
    · rename_i hz
      have hk : ∀ y ∈ l, typeT y ≠ 0 := fun y hy e => hz (by rw [← e]; exact List.mem_map_of_mem hy)
      have hw : ∀ y ∈ l, Wf y := fun y hy => ih y hy (hk y hy)
      split at h
      · rename_i he
        have : l = [] := by simpa using he
        subst this
        exact leaf_wf h
      · rename_i hne
        split at h
        · exact absurd rfl h
        · rename_i hn
          have hn0 : n = 0 := by omega
          subst hn0
          match l, hl3, hne, hk, hw, h with
          | [a], _, _, hk, hw, h =>
            have ha := hk a (by simp)
            simp only [List.map_cons, List.map_nil, List.getD_cons_zero, List.getD_cons_succ, List.getD_nil] at h
            split at h
            · exact absurd rfl h
            · split at h
              · exact absurd (binT_ops h).1 ha
              · obtain ⟨p, hp, hpe⟩ := sigI_mem h
                simp only [sigs, ents, units, List.map_cons, List.map_nil, List.flatMap_cons, List.flatMap_nil, unitE, List.cons_append, List.nil_append, List.append_nil, List.mem_cons, List.not_mem_nil, or_false, ent] at hp
                rcases hp with rfl | rfl | rfl | rfl | rfl | rfl | rfl | rfl | rfl | rfl | rfl | rfl | rfl | rfl | rfl <;> simp only [Sig.mk.injEq] at hpe <;> obtain ⟨rfl, rfl, h0, h1, h2⟩ := hpe
                · exact .neg a (hw a (by simp))
                · exact .not a (hw a (by simp))
                · exact .call1 _ a (by decide) (by decide) (hw a (by simp))
                · exact .call1 _ a (by decide) (by decide) (hw a (by simp))
                all_goals exact absurd h1 (by decide)
          | [a, b], _, _, hk, hw, h =>
            have ha := hk a (by simp)
            have hb := hk b (by simp)
            simp only [List.map_cons, List.map_nil, List.getD_cons_zero, List.getD_cons_succ, List.getD_nil] at h
            split at h
            · rename_i hc; exact absurd hc.2.2.2 hb
            · split at h
              · rename_i hc
                have h6 := (binT_ops h).2
                obtain ⟨rfl, _⟩ := hc
                exact .bin s a b (ops_level s h6) (hw a (by simp)) (hw b (by simp))
              · obtain ⟨p, hp, hpe⟩ := sigI_mem h
                simp only [sigs, ents, units, List.map_cons, List.map_nil, List.flatMap_cons, List.flatMap_nil, unitE, List.cons_append, List.nil_append, List.append_nil, List.mem_cons, List.not_mem_nil, or_false, ent] at hp
                rcases hp with rfl | rfl | rfl | rfl | rfl | rfl | rfl | rfl | rfl | rfl | rfl | rfl | rfl | rfl | rfl <;> simp only [Sig.mk.injEq] at hpe <;> obtain ⟨rfl, rfl, h0, h1, h2⟩ := hpe
                all_goals first
                  | exact absurd h1.symm hb
                  | exact .call2 _ a b (by decide) (by decide) (hw a (by simp)) (hw b (by simp))
                  | exact .after _ a b (by decide) (hw a (by simp)) (hw b (by simp))
                  | exact .before _ a b (by decide) (hw a (by simp)) (hw b (by simp))
          | [a, b, c], _, _, hk, hw, h =>
            have hc := hk c (by simp)
            simp only [List.map_cons, List.map_nil, List.getD_cons_zero, List.getD_cons_succ] at h
            split at h
            · rename_i hcd
              obtain ⟨rfl, rfl, _⟩ := hcd
              exact .cond a b c (hw a (by simp)) (hw b (by simp)) (hw c (by simp))
            · split at h
              · rename_i hcd; exact absurd hcd.2 hc
              · obtain ⟨p, hp, hpe⟩ := sigI_mem h
                simp only [sigs, ents, units, List.map_cons, List.map_nil, List.flatMap_cons, List.flatMap_nil, unitE, List.cons_append, List.nil_append, List.append_nil, List.mem_cons, List.not_mem_nil, or_false, ent] at hp
                rcases hp with rfl | rfl | rfl | rfl | rfl | rfl | rfl | rfl | rfl | rfl | rfl | rfl | rfl | rfl | rfl <;> simp only [Sig.mk.injEq] at hpe <;> obtain ⟨rfl, rfl, h0, h1, h2⟩ := hpe
                all_goals exact absurd h2.symm hc
          | a :: b :: c :: d :: r, hl3, _, _, _, _ => simp at hl3
theorem opN_nest {x : Nd} (h : Wf x) : opN x + 2 ≤ 2 * nestN x := by
  have pd : ∀ (k : Nat) (p : Nat × Nat), parD k p ≤ p.2 + 1 := fun k p => by unfold parD; split <;> omega
  induction h with
  | num n h | bool n h | day n h | field s h => rw [opN_mk, nest0]; simp [opK]
  | neg a ha ih => rw [opN_mk, nest1]; have := pd 7 (lvl a, opN a); show 1 + parD 7 (lvl a, opN a) + 2 ≤ _; omega
  | not a ha ih => rw [opN_mk, nest1]; have := pd 3 (lvl a, opN a); show 1 + parD 3 (lvl a, opN a) + 2 ≤ _; omega
  | bin s a b hs ha hb iha ihb =>
    rw [opN_mk, nest2]
    have h1 := pd (leftL (levelO s)) (lvl a, opN a)
    have h2 := pd (levelO s + 1) (lvl b, opN b)
    show max (parD (leftL (levelO s)) (lvl a, opN a)) (parD (levelO s + 1) (lvl b, opN b)) + 2 ≤ _
    simp only at h1 h2
    omega
  | after s a b hs ha hb iha ihb =>
    rw [opN_mk, nest2]
    have h1 := pd 5 (lvl a, opN a)
    have h2 := pd 6 (lvl b, opN b)
    show max (parD 5 (lvl a, opN a)) (parD 6 (lvl b, opN b)) + 2 ≤ _
    simp only at h1 h2
    omega
  | before s a b hs ha hb iha ihb =>
    rw [opN_mk, nest2]
    have h1 := pd 5 (lvl a, opN a)
    have h2 := pd 6 (lvl b, opN b)
    show max (parD 5 (lvl a, opN a)) (parD 6 (lvl b, opN b)) + 2 ≤ _
    simp only at h1 h2
    omega
  | cond a b c ha hb hc iha ihb ihc =>
    rw [opN_mk, nest3]
    show 1 + max (max (max 0 (opN a)) (opN b)) (opN c) + 2 ≤ _
    omega
  | call1 s a hs h1 ha ih =>
    rw [opN_mk, nest1]
    show 1 + max 0 (opN a) + 2 ≤ _
    omega
  | call2 s a b hs h2 ha hb iha ihb =>
    rw [opN_mk, nest2]
    show 1 + max (max 0 (opN a)) (opN b) + 2 ≤ _
    omega
/-- the longest text of a nesting -/
def lenB : Nat → Nat
  | 0 => 0
  | n + 1 => 3 * lenB n + 20
theorem lenB_mono : ∀ {a b : Nat}, a ≤ b → lenB a ≤ lenB b
  | 0, b, _ => Nat.zero_le _
  | a + 1, 0, h => by omega
  | a + 1, b + 1, h => by have := lenB_mono (a := a) (b := b) (by omega); simp only [lenB]; omega
theorem showN_len {x : Nd} (h : Wf x) : (showN dateS x).length ≤ lenB (nestN x) := by
  have pd : ∀ (k : Nat) (p : Nat × Str), (parS k p).length ≤ p.2.length + 2 := fun k p => by unfold parS; split <;> simp <;> omega
  have hb1 : lenB 1 = 20 := rfl
  have funcs : ∀ s ∈ funcW, s.length ≤ 7 := by decide
  have unitsL : ∀ s ∈ unitW, s.length ≤ 9 := by decide
  have fieldsL : ∀ s ∈ fieldW, s.length ≤ 6 := by decide
  have opsLen : ∀ s ∈ opsAll, s.length ≤ 3 := by decide
  induction h with
  | num n h =>
    rw [showN_mk, nest0]
    show (Lib.itoa n).length ≤ 20
    unfold Lib.itoa
    rw [if_neg (by omega)]
    have := decDigits_len 9 n.toNat (by omega)
    omega
  | bool n h => rw [showN_mk, nest0]; show (if n = 1 then [116, 114, 117, 101] else [102, 97, 108, 115, 101] : Str).length ≤ 20; split <;> decide
  | day n h => rw [showN_mk, nest0]; show (64 :: dateS n).length ≤ 20; have := dateS_len h.1 h.2; simp; omega
  | field s h => rw [showN_mk, nest0]; show s.length ≤ 20; have := fieldsL s h; omega
  | neg a ha ih => rw [showN_mk, nest1]; have := pd 7 (lvl a, showN dateS a); rw [Nat.add_comm]; simp only [lenB] at this ⊢; show ([45] ++ parS 7 (lvl a, showN dateS a)).length ≤ _; simp only [List.length_append, List.length_cons, List.length_nil]; omega
  | not a ha ih => rw [showN_mk, nest1]; have := pd 3 (lvl a, showN dateS a); rw [Nat.add_comm]; simp only [lenB] at this ⊢; show ([110, 111, 116, 32] ++ parS 3 (lvl a, showN dateS a)).length ≤ _; simp only [List.length_append, List.length_cons, List.length_nil]; omega
  | bin s a b hs ha hb iha ihb =>
    rw [showN_mk, nest2]
    have h1 := pd (leftL (levelO s)) (lvl a, showN dateS a)
    have h2 := pd (levelO s + 1) (lvl b, showN dateS b)
    have h3 := opsLen s (levelO_mem hs)
    have h4 := lenB_mono (Nat.le_max_left (nestN a) (nestN b))
    have h5 := lenB_mono (Nat.le_max_right (nestN a) (nestN b))
    rw [Nat.add_comm]
    simp only [lenB]
    show (parS (leftL (levelO s)) (lvl a, showN dateS a) ++ [32] ++ s ++ [32] ++ parS (levelO s + 1) (lvl b, showN dateS b)).length ≤ _
    simp only [List.length_append, List.length_cons, List.length_nil] at h1 h2 ⊢
    omega
  | after s a b hs ha hb iha ihb =>
    rw [showN_mk, nest2]
    have h1 := pd 5 (lvl a, showN dateS a)
    have h2 := pd 6 (lvl b, showN dateS b)
    have h3 := unitsL s hs
    have h4 := lenB_mono (Nat.le_max_left (nestN a) (nestN b))
    have h5 := lenB_mono (Nat.le_max_right (nestN a) (nestN b))
    rw [Nat.add_comm]
    simp only [lenB]
    show (parS 5 (lvl a, showN dateS a) ++ [32, 43, 32] ++ parS 6 (lvl b, showN dateS b) ++ [32] ++ s).length ≤ _
    simp only [List.length_append, List.length_cons, List.length_nil] at h1 h2 ⊢
    omega
  | before s a b hs ha hb iha ihb =>
    rw [showN_mk, nest2]
    have h1 := pd 5 (lvl a, showN dateS a)
    have h2 := pd 6 (lvl b, showN dateS b)
    have h3 := unitsL s hs
    have h4 := lenB_mono (Nat.le_max_left (nestN a) (nestN b))
    have h5 := lenB_mono (Nat.le_max_right (nestN a) (nestN b))
    rw [Nat.add_comm]
    simp only [lenB]
    show (parS 5 (lvl a, showN dateS a) ++ [32, 45, 32] ++ parS 6 (lvl b, showN dateS b) ++ [32] ++ s).length ≤ _
    simp only [List.length_append, List.length_cons, List.length_nil] at h1 h2 ⊢
    omega
  | cond a b c ha hb hc iha ihb ihc =>
    rw [showN_mk, nest3]
    have h3 := lenB_mono (Nat.le_trans (Nat.le_max_left (nestN a) (nestN b)) (Nat.le_max_left _ (nestN c)))
    have h4 := lenB_mono (Nat.le_trans (Nat.le_max_right (nestN a) (nestN b)) (Nat.le_max_left _ (nestN c)))
    have h5 := lenB_mono (Nat.le_max_right (max (nestN a) (nestN b)) (nestN c))
    rw [Nat.add_comm]
    simp only [lenB]
    show ([105, 102, 32] ++ showN dateS a ++ [32, 116, 104, 101, 110, 32] ++ showN dateS b ++ [32, 101, 108, 115, 101, 32] ++ showN dateS c ++ [32, 101, 110, 100]).length ≤ _
    simp only [List.length_append, List.length_cons, List.length_nil]
    omega
  | call1 s a hs h1 ha ih =>
    rw [showN_mk, nest1]
    have h3 := funcs s hs
    rw [Nat.add_comm]
    simp only [lenB]
    show (s ++ [40] ++ ([44, 32] : Str).intercalate [showN dateS a] ++ [41]).length ≤ _
    rw [show ([44, 32] : Str).intercalate [showN dateS a] = showN dateS a by simp [List.intercalate, List.intersperse]]
    simp only [List.length_append, List.length_cons, List.length_nil]
    omega
  | call2 s a b hs h2 ha hb iha ihb =>
    rw [showN_mk, nest2]
    have h3 := funcs s hs
    have h4 := lenB_mono (Nat.le_max_left (nestN a) (nestN b))
    have h5 := lenB_mono (Nat.le_max_right (nestN a) (nestN b))
    rw [Nat.add_comm]
    simp only [lenB]
    show (s ++ [40] ++ ([44, 32] : Str).intercalate [showN dateS a, showN dateS b] ++ [41]).length ≤ _
    rw [show ([44, 32] : Str).intercalate [showN dateS a, showN dateS b] = showN dateS a ++ [44, 32] ++ showN dateS b by simp [List.intercalate, List.intersperse]]
    simp only [List.length_append, List.length_cons, List.length_nil]
    omega
/-! ### names and rules -/
theorem lett_ldB {c : UInt8} (h : lett (c.toNat : Int)) : ldB c = true := by
  unfold ldB letB digB
  simp only [Bool.or_eq_true, Bool.and_eq_true, decide_eq_true_eq]
  rcases h with h | h
  · left; omega
  · right; omega
theorem named_ok {s : Str} (h : namedT s = true) : NameOk s := by
  unfold namedT nameOk at h
  simp only [Bool.and_eq_true, decide_eq_true_eq] at h
  obtain ⟨⟨h1, h2, h3, h4, h5⟩, h6, h7⟩ := h
  refine ⟨⟨fun e => by rw [e] at h1; simp at h1, h2, ?_, fun c hc => ?_⟩, ?_⟩
  · unfold letB
    unfold byte at h3 h4
    simp only [Bool.and_eq_true, decide_eq_true_eq]
    omega
  · obtain ⟨i, hi, rfl⟩ := List.getElem_of_mem hc
    have := h5 i hi
    rw [Go.Eng.byte_at hi] at this
    exact lett_ldB this
  · simp only [resW, List.mem_cons, List.not_mem_nil, or_false, not_or] at h6
    intro hm
    simp only [List.mem_append] at hm
    rcases hm with ((hm | hm) | hm) | hm
    · simp only [ruleW, List.mem_cons, List.not_mem_nil, or_false] at hm
      rcases hm with h | h | h | h | h | h | h | h | h | h | h | h | h | h <;> simp [h] at h6
    · simp only [unitW, List.mem_cons, List.not_mem_nil, or_false] at hm
      rcases hm with h | h | h | h <;> simp [h] at h6
    · exact h7 hm
    · simp only [funcW, List.mem_cons, List.not_mem_nil, or_false] at hm
      rcases hm with h | h | h | h | h <;> simp [h] at h6
theorem must_ok {x : Nd} {z : Int} (hz : z ≠ 0) (h : mustF x z = 0) : typeT x = z ∧ nestN x ≤ 12 := by
  unfold mustF at h
  split at h
  · split at h
    · exact absurd h (by decide)
    · split at h
      · exact ⟨by assumption, by assumption⟩
      · exact absurd h (by decide)
  · exact absurd h (by decide)
theorem check_parts {r : Rul} (h : checkT r = 0) : namesT r = true ∧ (0 ≤ r.frm ∧ r.frm ≤ 3652058) ∧ mustF r.cnd 2 = 0 ∧ mustF r.due 3 = 0 := by
  unfold checkT at h
  split at h
  · exact absurd h (by decide)
  · rename_i h1
    split at h
    · exact absurd h (by decide)
    · split at h
      · rename_i h3; exact absurd h h3
      · rename_i h2 h3
        exact ⟨by simpa using h1, by omega, by simpa using h3, h⟩
theorem check_rule {r : RuleM} (h : checkT r.rul = 0) (h1 : nestN r.cond ≤ 7) (h2 : nestN r.due ≤ 7) : RuleOk r := by
  obtain ⟨g1, g2, g3, g4⟩ := check_parts h
  have t1 := (must_ok (by decide) g3).1
  have t2 := (must_ok (by decide) g4).1
  have w1 : Wf r.cond := typed_wf _ (by rw [show typeT r.cond = 2 from t1]; decide)
  have w2 : Wf r.due := typed_wf _ (by rw [show typeT r.due = 3 from t2]; decide)
  have o1 := opN_nest w1
  have o2 := opN_nest w2
  unfold namesT at g1
  simp only [Bool.and_eq_true, Bool.or_eq_true, decide_eq_true_eq] at g1
  obtain ⟨⟨⟨n1, n2⟩, n3⟩, n4⟩ := g1
  exact ⟨named_ok n1, g2, named_ok n2, w1, by omega, w2, by omega, n3.imp id named_ok, n4.imp id named_ok⟩
theorem rule_len {r : RuleM} (h : RuleOk r) (h1 : nestN r.cond ≤ 3) (h2 : nestN r.due ≤ 4) : (showRule dateS r).length ≤ 1300 := by
  have ll : ∀ w s : Str, (lineS w s).length ≤ s.length + w.length + 5 := fun w s => by unfold lineS; split <;> simp <;> omega
  have c1 := Nat.le_trans (showN_len h.cond) (lenB_mono h1)
  have c2 := Nat.le_trans (showN_len h.due) (lenB_mono h2)
  have c3 : lenB 3 = 260 := rfl
  have c4 : lenB 4 = 800 := rfl
  have n1 := h.name.word.len
  have n2 := h.on.word.len
  have nu : r.unl.length ≤ 12 := by rcases h.unl with e | e; rw [e]; simp; exact e.word.len
  have ne : r.els.length ≤ 12 := by rcases h.els with e | e; rw [e]; simp; exact e.word.len
  have e1 := ll [111, 110] r.on
  have e2 := ll [100, 117, 101] (showN dateS r.due)
  have e3 := ll [117, 110, 108, 101, 115, 115] r.unl
  have e4 := ll [101, 108, 115, 101] r.els
  have e5 : (headS dateS r).length = 5 + r.name.length + 7 + (dateS r.frm).length + 3 := by unfold headS; simp; omega
  have e6 := dateS_len h.frm.1 h.frm.2
  have e7 : (ifS dateS r.cond).length ≤ 267 := by
    unfold ifS
    split
    · simp
    · have := ll [105, 102] (showN dateS r.cond)
      simp only [List.length_cons, List.length_nil] at this
      omega
  unfold showRule
  simp only [List.length_append, List.length_cons, List.length_nil] at e1 e2 e3 e4 ⊢
  omega
end Go.Proofs.YtgpibcgebpgmiaaGreatDoor


/-
The walk engine, part 26: code behind a deferral. The regions are walked as ever; what is deferred stays.
-/
namespace Go.Eng
open Go Go.RowKit Go.Proofs
set_option linter.unusedVariables false
def updA (ds : List Deferred) (a : Act) : Act := { a with defers := a.defers ++ ds }
def lftQ (ds : List Deferred) (Q : Exit → Act → World → Prop) : Exit → Act → World → Prop := fun x a w => Q x (updA ds a) w
theorem updA_put (ds : List Deferred) (a : Act) (d : Option Nat) (v : Value) : updA ds (a.put d v) = (updA ds a).put d v := by cases d <;> rfl
theorem updA_eval (ds : List Deferred) (a : Act) : (updA ds a).eval = a.eval := by funext x; cases x <;> rfl
theorem letsOut_lft {ds : List Deferred} {Q : Exit → Act → World → Prop} (h : LetsOut (lftQ ds Q)) : LetsOut Q := let ⟨a, w, h⟩ := h; ⟨_, w, h⟩
theorem oper_lft {P : Program} {ds : List Deferred} {Q : Exit → Act → World → Prop} {o : Oper} {a : Act} {w : World} {K K' : Act → World → Prop} (hK : ∀ a w, K' a w → K (updA ds a) w) (h : o.wp P a w K' (lftQ ds Q)) : o.wp P (updA ds a) w K Q := by
  unfold Oper.wp at *
  rw [updA_eval]
  generalize (execOp a.eval o).run P w = r at *
  cases r with
  | ok x w' =>
    cases x <;> simp only [Oper.upon] at h ⊢
    case value v => have := hK _ _ h; rw [updA_put] at this; exact this
    case skip => have := hK _ _ h; rw [updA_put] at this; exact this
    case defer d => have := hK _ _ h; rw [updA_put] at this; exact this
    case enter f args =>
      refine Calls.mono h fun e w'' he => ?_
      cases e with
      | returned v => have := hK _ _ he; rw [updA_put] at this; exact this
      | panicked c => exact he
      | outgrown => exact letsOut_lft he
    case row row args => exact Rows.mono h fun v w'' he => by have := hK _ _ he; rw [updA_put] at this; exact this
  | halt x w' => cases x <;> simp only [Oper.upon] at h ⊢; exact h
theorem asks_lft {P : Program} {ds : List Deferred} {o : Oper} {a : Act} {w : World} (h : o.asks P a w) : o.asks P (updA ds a) w := by
  unfold Oper.asks at *
  rw [updA_eval]
  exact h
theorem wpList_lft {P : Program} {ds : List Deferred} {Q : Exit → Act → World → Prop} {ops : Array Oper} : ∀ (l : List Oper) (a : Act) (w : World), wpList P ops (lftQ ds Q) l a w → wpList P ops Q l (updA ds a) w
  | [], a, w, h => h
  | o :: rest, a, w, h => by
    unfold wpList at *
    split at h
    · rename_i hw
      rw [if_pos (show Region.wanted o (yielded ops (updA ds a).tmps) = true from hw)]
      rcases h with h | ⟨h1, h2⟩
      · exact .inl (oper_lft (fun a w h => wpList_lft rest a w h) h)
      · exact .inr ⟨asks_lft h1, letsOut_lft h2⟩
    · rename_i hw
      rw [if_neg (show ¬ Region.wanted o (yielded ops (updA ds a).tmps) = true from hw)]
      rw [← updA_put]
      exact wpList_lft rest _ w h
theorem wpOp_lft {P : Program} {ds : List Deferred} {Q : Exit → Act → World → Prop} {ops : Array Oper} {i : Nat} {a : Act} {w : World} {K K' : Act → World → Prop} (hK : ∀ a w, K' a w → K (updA ds a) w) (h : wpOp P ops (lftQ ds Q) i K' a w) : wpOp P ops Q i K (updA ds a) w := by
  unfold wpOp at *
  cases ho : ops[i]? with
  | none => simp only [ho] at h ⊢; exact hK _ _ h
  | some o =>
    simp only [ho] at h ⊢
    split at h
    · rename_i hw
      rw [if_pos (show Region.wanted o (yielded ops (updA ds a).tmps) = true from hw)]
      rcases h with h | ⟨h1, h2⟩
      · exact .inl (oper_lft hK h)
      · exact .inr ⟨asks_lft h1, letsOut_lft h2⟩
    · rename_i hw
      rw [if_neg (show ¬ Region.wanted o (yielded ops (updA ds a).tmps) = true from hw)]
      rw [← updA_put]
      exact hK _ _ h
theorem wpAny_lft {P : Program} {ds : List Deferred} {Q : Exit → Act → World → Prop} {ops : Array Oper} {md : Region.Mode} : ∀ (fuel : Nat) (listed : Array Bool) (a : Act) (w : World), wpAny P md ops (lftQ ds Q) fuel listed a w → wpAny P md ops Q fuel listed (updA ds a) w
  | 0, _, _, _, h => h
  | fuel + 1, _, _, _, h => ⟨h.1, fun i hi => wpOp_lft (fun a w h => wpAny_lft fuel _ a w h) (h.2 i hi)⟩

structure WQD (ds : List Deferred) (n : Nat) (Q : Exit → Act → World → Prop) (x : Exit) (e : Env) (w : World) : Prop where
  h : ∀ a, Has n e a → Q x (updA ds a) w
structure WCD (ds : List Deferred) (P : Program) (n : Nat) (c : Code) (Q : Exit → Act → World → Prop) (e : Env) (w : World) : Prop where
  h : ∀ a, Has n e a → c.wp P Q (updA ds a) w
section rules
variable {P : Program} {n : Nat} {ds : List Deferred} {Q : Exit → Act → World → Prop} {e : Env} {w : World}
theorem WQ_lft {x : Exit} (h : WQD ds n Q x e w) : WQ n (lftQ ds Q) x e w := ⟨fun a ha => h.h a ha⟩
theorem WCD_seq {x y : Code} (h : WCD ds P n x (Exit.then (fun a w => y.wp P Q a w) Q) e w) : WCD ds P n (x.seq y) Q e w := ⟨fun a ha => wp_seq (h.h a ha)⟩
theorem WQD_then {y : Code} (h : WCD ds P n y Q e w) : WQD ds n (Exit.then (fun a w => y.wp P Q a w) Q) .normal e w := ⟨fun a ha => h.h a ha⟩
theorem WQD_then_panic {N : Act → World → Prop} {ch : List PanicEntry} (h : WQD ds n Q (.panic ch) e w) : WQD ds n (Exit.then N Q) (.panic ch) e w := ⟨fun a ha => h.h a ha⟩
theorem WCD_skip (h : WQD ds n Q .normal e w) : WCD ds P n .skip Q e w := ⟨fun a ha => wp_skip (h.h a ha)⟩
theorem WCD_ret (h : WQD ds n Q .ret e w) : WCD ds P n .ret Q e w := ⟨fun a ha => wp_ret (h.h a ha)⟩
theorem HasD.ev {a : Act} (ha : Has n e a) {x : Operand} {v : Value} (hx : ev e x = some v) : (updA ds a).eval x = v := by rw [updA_eval]; exact ha.ev hx
theorem WCD_cond_false {c : Operand} {x y : Code} (hc : ev e c = some (.bool false)) (h : WCD ds P n y Q e w) : WCD ds P n (.cond c x y) Q e w := ⟨fun a ha => wp_cond_false (HasD.ev ha hc) (h.h a ha)⟩
theorem WCD_region {id : Nat} {l : List Oper} (h : WL P n l.toArray (lftQ ds Q) l e w) : WCD ds P n (.region id l.toArray false) Q e w := ⟨fun a ha => wp_region_lit (wpList_lft _ _ _ (h.h a ha))⟩
theorem WCD_drawn {id : Nat} {l : List Oper} (m : Nat) (S : List Nat) (Lt : List Nat) (ord : List (Nat × Nat)) (hlm : l.length = m) (hm : P.follows .mixedOrders = true) (hs : Region.noSelect l.toArray = true) (hl : Nat.beq (wt ord) l.length = true)
    (hB : checkD l.toArray Lt ord (Array.replicate m false) = true)
    (h : ∀ w', Stp [] w w' → WD P n l.toArray S Lt (lftQ ds Q) ord e w') : WCD ds P n (.region id l.toArray true) Q e w := by
  subst hlm
  refine ⟨fun a ha => wp_region_any hm (wpAny_lft _ _ _ _ ?_)⟩
  have h1 := (h { w with drawn := w.drawn + 1 } (Stp.drew [] w)).h _ hs hB a ha
  have h2 := wpAny_of_E (Q := lftQ ds Q) (fun a w hz => hz) _ _ _ _ h1
  rw [Nat.eq_of_beq_eq_true hl] at h2
  simpa using h2
end rules
end Go.Eng


/-
The walk engine, part 27: functions that defer a closure which recovers.
-/
namespace Go.Eng
open Go Go.RowKit Go.Proofs
set_option linter.unusedVariables false
theorem mem_of_look : ∀ {e : Env} {t : Nat} {v : Value}, look e t = some v → (t, v) ∈ e
  | (k, u) :: r, t, v, h => by
    rw [look_cons] at h
    by_cases hk : k = t
    · subst hk; simp at h; subst h; simp
    · rw [if_neg hk] at h; exact List.mem_cons_of_mem _ (mem_of_look h)
theorem Has.of {n : Nat} {e : Env} {a : Act} (h1 : a.defers = []) (h2 : a.tmps.size = n) (h3 : ∀ p ∈ e, a.tmps.getD p.1 undef = p.2) : Has n e a := ⟨h1, h2, fun t v h => h3 (t, v) (mem_of_look h)⟩
section
variable {P : Program} {n : Nat} {Q : Exit → Act → World → Prop} {e : Env} {w : World} {ops : Array Oper} {rest : List Oper} {ty : TypeId} {pos : String} {af : Array Edge} {ds : List Deferred}
/-- behind recover: the rest of the closure's body as ever -/
theorem wpS_of_WC {fn : Func} {c₀ : Frame} {cs : List Frame} {u' : FrameMode} {R : Ending → FrameMode → World → Prop} {c : Code} {a : Act} (ha : Has n e a) (h : WC P n c (bodyPost P fn (fun x w => R x u' w)) e w) :
    c.wpS P (bodyPostS P fn c₀ cs R) a ({ c₀ with mode := u' } :: cs) w := by
  refine wpS_of_wp (wp_mono (h.h a ha) fun ex a' w' hq => ?_)
  cases ex with
  | normal => obtain ⟨hd, v, hr, hR⟩ := hq; exact ⟨hd, u', rfl, v, hr, hR⟩
  | ret => obtain ⟨hd, v, hr, hR⟩ := hq; exact ⟨hd, u', rfl, v, hr, hR⟩
  | panic ch => obtain ⟨hd, hR⟩ := hq; exact ⟨hd, u', rfl, hR⟩
  | exit i => exact hq.elim
  | goto l => exact hq.elim
  | outgrown => exact ⟨u', hq⟩
/-- a function that defers -/
theorem calls_of_WCD {f : FuncId} {fn : Func} {c : Code} {args : Array Value} {w : World} {R : Ending → World → Prop} {n : Nat} (hf : P.funcs[f]? = some fn) (hb : fn.body = some c)
    (hn : fn.ntmps = n) (hs : Nat.ble args.size n = true) (h : WC P n c (bodyPostD P fn R) (argEnv args.toList 0) w) : Calls P f args w R := by
  refine calls_of_wp_defers hf hb (h.h _ ?_)
  rw [hn]
  have hle : args.size ≤ n := Nat.le_of_ble_eq_true hs
  refine ⟨rfl, by simp; omega, fun t v hv => ?_⟩
  obtain ⟨_, h2⟩ := look_argEnv _ _ _ _ hv
  simp only [Nat.sub_zero] at h2
  have hlt : t < args.size := by
    have := (List.getElem?_eq_some_iff.1 h2).1
    simpa using this
  have : args[t]? = some v := by simpa using h2
  have h3 : (args ++ Array.replicate (n - args.size) undef)[t]? = some v := by
    rw [Array.getElem?_append_left hlt]; exact this
  simp [Array.getD_eq_getD_getElem?, h3]
theorem calls_of_WCD2 {f : FuncId} {fn : Func} {c : Code} {a0 a1 : Value} {w : World} {R : Ending → World → Prop} {n : Nat} (hf : P.funcs[f]? = some fn) (hb : fn.body = some c)
    (hn : fn.ntmps = n) (hs : Nat.ble 2 n = true) (h : WC P n c (bodyPostD P fn R) [(0, a0), (1, a1)] w) : Calls P f #[a0, a1] w R := calls_of_WCD hf hb hn hs h
/-- the deferral, last in its region -/
theorem WL_defer {y : Code} {t : Operand} {fv : Fn} {cap : Array Value} (hc : ev e t = some (.func fv #[] cap)) {ts : Array TypeId}
    (h : WCD [{ target := .fn fv cap, args := #[] }] P n y Q e w) :
    WL P n ops (Exit.then (fun a w => y.wp P Q a w) Q) [⟨none, .defer { callee := .value t, args := #[], argTypes := ts }, ty, pos, af, none⟩] e w := by
  refine ⟨fun a ha => ?_⟩
  refine wpList_plain rfl (fun K hK => ?_)
  unfold Oper.wp
  have he : (execOp a.eval ⟨none, .defer { callee := .value t, args := #[], argTypes := ts }, ty, pos, af, none⟩).run P w = .ok (.defer { target := .fn fv cap, args := #[] }) w := by
    simp [execOp, resolve, ha.ev hc, Deferred.ofValue]
  rw [he]
  simp only [Oper.upon]
  refine hK _ _ ?_
  have hd : ({ a with defers := { target := .fn fv cap, args := #[] } :: a.defers } : Act) = updA [{ target := .fn fv cap, args := #[] }] a := by
    unfold updA
    rw [ha.defers]
    rfl
  show wpList P ops _ [] (Act.put { a with defers := _ } none undef) w
  rw [hd]
  exact wpList_nil (h.h a ha)
/-- a call that panics for sure, the slots kept -/
theorem WL_pcallE {d : Nat} {f : Nat} {fn : Func} {xs : Array Operand} {ts : Array TypeId} {vs : Array Value} {c : Operand} {ch : List PanicEntry} {F : World → Prop} [hf : Fun P f fn]
    (hc : ev e c = some (.func (.func f) #[] #[])) (hv : ∀ a, Has n e a → xs.map a.eval = vs) (h : Calls P f vs w (fun e w' => e = .panicked ch ∧ F w')) (hd : Nat.blt d n = true) (k : ∀ w', F w' → WQ n Q (.panic ch) e w') :
    WL P n ops Q (⟨some d, .call { callee := .value c, args := xs, argTypes := ts }, ty, pos, af, none⟩ :: rest) e w :=
  WL_effP (G := fun _ _ => False) (F := fun ch' w' => ch' = ch ∧ F w') (OEP_call hc hv (h.mono fun e w' ⟨h1, h2⟩ => by rw [h1]; exact .pan ⟨rfl, h2⟩)) hd (fun ch' w' ⟨h1, h2⟩ => by subst h1; exact k w' h2) (fun _ _ h => h.elim)
theorem loadVar_1 {t b T : Nat} {D : TypeDesc} {v : Value} [hu : Und P t D] (hA : aggB D = false) (hb : Blk w b T [v]) : (loadVar t ⟨b, 0, none⟩).run P w = .ok v w := by
  have := hb.cell (j := 0) rfl
  simp [loadVar, Und.isAgg, hA, this]
/-- three results in cells -/
theorem results3c {fn : Func} {a : Act} {t1 t2 t3 T1 T2 T3 b1 b2 b3 S1 S2 S3 : Nat} {D1 D2 D3 : TypeDesc} {v1 v2 v3 : Value} (hr : fn.results = #[.cell t1 T1, .cell t2 T2, .cell t3 T3]) [hu1 : Und P T1 D1] [hu2 : Und P T2 D2] [hu3 : Und P T3 D3] (hA1 : aggB D1 = false) (hA2 : aggB D2 = false) (hA3 : aggB D3 = false)
    (h1 : a.tmps.getD t1 undef = .pointer (some ⟨b1, 0, none⟩)) (h2 : a.tmps.getD t2 undef = .pointer (some ⟨b2, 0, none⟩)) (h3 : a.tmps.getD t3 undef = .pointer (some ⟨b3, 0, none⟩))
    (e1 : Blk w b1 S1 [v1]) (e2 : Blk w b2 S2 [v2]) (e3 : Blk w b3 S3 [v3]) : (results fn a.tmps).run P w = .ok (.tuple #[v1, v2, v3]) w := by
  rw [Array.getD_eq_getD_getElem?] at h1 h2 h3
  simp [results, hr, h1, h2, h3, asAddr, loadVar_1 hA1 e1, loadVar_1 hA2 e2, loadVar_1 hA3 e3]
/-- leaving with one deferred closure -/
theorem leaves_one {fn fn' : Func} {tmps : Array Value} {R : Ending → World → Prop} {f : FuncId} {cap : Array Value} {u : FrameMode} (hu : u ≠ .run) [hf : Fun P f fn'] {G : Value → FrameMode → World → Prop}
    (h : CallsD P f cap u w fun e u' w' => ∃ v, e = .returned v ∧ G v u' w') (hk : ∀ v u' w', G v u' w' → settle u' = .returning ∧ ∃ r, (results fn tmps).run P w' = .ok r w' ∧ R (.returned r) w') :
    Leaves P fn tmps R [{ target := .fn (.func f) cap, args := #[] }] u w := by
  refine leaves_cons (f := f) (args := cap) hu ?_ (h.mono fun e u' w' ⟨v, h1, h2⟩ => ?_)
  · simp [invoke]
    exact hf.enters cap w
  · subst h1
    obtain ⟨h3, r, h4, h5⟩ := hk v u' w' h2
    show Leaves P fn tmps R [] (settle u') w'
    rw [h3]
    exact ⟨r, h4, h5⟩
theorem PR_typeAssert {d : Option Nat} {g : Option (Nat × Bool)} {x : Operand} {t s : TypeId} {u v : Value} (hx : ev e x = some u) (hb : ∀ w, (Instr.typeAssert u t s true).run P w = .ok v w) : PR P n ⟨d, .typeAssert x t s true, ty, pos, af, g⟩ e w v :=
  ⟨fun a ha => by simp [execOp, ha.ev hx, hb]⟩
theorem PR_makeFunc4 {d : Option Nat} {g : Option (Nat × Bool)} {f : Nat} {x y z r : Operand} {v u s q : Value} (hx : ev e x = some v) (hy : ev e y = some u) (hz : ev e z = some s) (hr : ev e r = some q) : PR P n ⟨d, .makeFunc (.func f) #[] #[x, y, z, r], ty, pos, af, g⟩ e w (.func (.func f) #[] #[v, u, s, q]) :=
  ⟨fun a ha => by simp [execOp, Instr.makeFunc, ha.ev hx, ha.ev hy, ha.ev hz, ha.ev hr]⟩
end
end Go.Eng


/-
The parser of a source: the rules one after the other; the recovery; Parse.
-/
namespace Go.Eng
open Go Go.RowKit Go.Proofs
set_option linter.unusedVariables false
theorem bind_ok {α β : Type} {x : Out α} {k : α → Nat → Nat → Out β} {y : β} {i o : Nat} (h : x.bind k = .ok y i o) : ∃ a i1 o1, x = .ok a i1 o1 ∧ k a i1 o1 = .ok y i o := by
  cases x with
  | err a c => simp [Out.bind] at h
  | ok a i1 o1 => exact ⟨a, i1, o1, rfl, h⟩
theorem nameO_lt {l : List Tkn} {i o : Nat} {s : Str} {i' o' : Nat} (h : nameO l i o = .ok s i' o') : i < i' := by
  unfold nameO at h
  split at h
  · simp [failO] at h
  · obtain ⟨a, i1, o1, h1, h2⟩ := bind_ok h
    have := tokenO_open h1
    simp only [Out.ok.injEq] at h2
    omega
theorem wholeO_lt {l : List Tkn} {i o : Nat} {x : Nd} {i' o' : Nat} (h : wholeO l i o = .ok x i' o') : i < i' := by
  have h1 := wholeO_eq l i o
  rw [h] at h1
  have := exprO_le l _ _ _ _ _ _ _ h1
  simp only [Call.lo] at this
  omega
theorem partO_le {α : Type} {l : List Tkn} {wd : Str} {z : α} {rd : Nat → Nat → Out α} {i o : Nat} {x : α} {i' o' : Nat} (hr : ∀ i o x i' o', rd i o = .ok x i' o' → i < i') (h : partO l wd z rd i o = .ok x i' o') : i ≤ i' := by
  unfold partO at h
  split at h
  · obtain ⟨a, i1, o1, h1, h2⟩ := bind_ok h
    obtain ⟨a2, i2, o2, h3, h4⟩ := bind_ok h2
    have := hr _ _ _ _ _ h1
    have := (mustO_i h3).1
    simp only [Out.ok.injEq] at h4
    omega
  · simp only [Out.ok.injEq] at h
    omega
theorem ruleO_lt {l : List Tkn} {i o : Nat} {r : RuleM} {i' o' : Nat} (h : ruleO l i o = .ok r i' o') : i < i' := by
  unfold ruleO at h
  obtain ⟨a1, i1, o1, h1, h⟩ := bind_ok h
  obtain ⟨a2, i2, o2, h2, h⟩ := bind_ok h
  obtain ⟨a3, i3, o3, h3, h⟩ := bind_ok h
  obtain ⟨a4, i4, o4, h4, h⟩ := bind_ok h
  obtain ⟨a5, i5, o5, h5, h⟩ := bind_ok h
  split at h
  · obtain ⟨a6, i6, o6, h6, h⟩ := bind_ok h
    obtain ⟨a7, i7, o7, h7, h⟩ := bind_ok h
    split at h
    · obtain ⟨a8, i8, o8, h8, h⟩ := bind_ok h
      obtain ⟨a9, i9, o9, h9, h⟩ := bind_ok h
      obtain ⟨a10, i10, o10, h10, h⟩ := bind_ok h
      obtain ⟨a11, i11, o11, h11, h⟩ := bind_ok h
      have := (mustO_i h1).1
      have := nameO_lt h2
      have := (mustO_i h3).1
      have := (tokenO_open h4).2.1
      have := (mustO_i h5).1
      have := partO_le (fun _ _ _ _ _ h => nameO_lt h) h6
      have := partO_le (fun _ _ _ _ _ h => wholeO_lt h) h7
      have := partO_le (fun _ _ _ _ _ h => wholeO_lt h) h8
      have := partO_le (fun _ _ _ _ _ h => nameO_lt h) h9
      have := partO_le (fun _ _ _ _ _ h => nameO_lt h) h10
      have := (mustO_i h11).1
      simp only [Out.ok.injEq] at h
      omega
    · simp [failO] at h
  · simp [failO] at h
end Go.Eng
namespace Go.Proofs.YtgpibcgebpgmiaaGreatDoor
open Go Go.Eng Go.RowKit Go.Proofs
set_option linter.unusedVariables false
theorem buildSR1 (r : Rul) (p : Option Addr) (a c : Nat) (p' : Option Addr) (a' c' : Nat) (w : World) : (Instr.buildSlice 23 1 #[(0, .agg (rlC r (.slice p a c) (.slice p' a' c')).toArray)]).run Tryz.prog w = .ok (.slice (some ⟨w.heap.size, 0, none⟩) 1 1) (w.alloc (.cells (rlC r (.slice p a c) (.slice p' a' c')).toArray 38)) := by kernel_rfl
theorem repsR1 {X : List Nat} {w : World} {r : Rul} {cs : List Value} (h : GoRep.rep X w r cs) : ∀ i (hi : i < [r].length) (hi' : i < [cs].length), GoRep.rep X w [r][i] [cs][i]
  | 0, _, _ => h
set_option maxHeartbeats 2000000 in
theorem Parse1_any (X : List Nat) (b : Nat) (tv : Value) (l : List Tkn) (hL : Toks l) (m : Int) (i o f : Nat) (w : World) (hb1 : b ≠ 1) (hbX : b ∈ X) (hX : ∀ c ∈ X, c < w.heap.size) (hm : w.cell? ⟨1, 0, none⟩ = some (.int .i64 m)) (hp : Pd w b tv l i o) (hf : l.length ≤ i + f) :
    Calls Tryz.prog 25 #[.pointer (some ⟨b, 0, none⟩)] w (PC b w tv l (rulesO l f [] i o) (fun rs v w' => SlV X w' v (rs.map RuleM.rul))) := by
  have hs0 := hp.2.1
  have hm0 := hm
  have hbw := hp.lt
  have hll := hp.2.2.2.1
  generalize hR : rulesO l f [] i o = R
  refine calls_of_WC1 (n := 22) Tryz.func25 rfl rfl rfl ?_
  refine W ?_
  refine WC_loop (σ := Nat × List RuleM × Value × Nat × Nat) (fun q => [(0, .pointer (some ⟨b, 0, none⟩)), (3, q.2.2.1)])
    (fun q w' => rulesO l q.1 q.2.1 q.2.2.2.1 q.2.2.2.2 = R ∧ l.length ≤ q.2.2.2.1 + q.1 ∧ q.2.1.length ≤ q.2.2.2.1 ∧ Pd w' b tv l q.2.2.2.1 q.2.2.2.2 ∧ Row X w' w.heap.size 38 q.2.2.1 (q.2.1.map RuleM.rul) ∧ w'.cell? ⟨1, 0, none⟩ = some (.int .i64 m) ∧ Stp [b] w w')
    (fun q => q.1) (f, [], .slice none 0 0, i, o) ⟨rfl, rfl, trivial⟩ ⟨hR, hf, Nat.zero_le _, hp, Row.nil, hm, Stp.refl _ _⟩ ?_
  clear hR hp hm hf
  rintro ⟨f1, rs, rv, i1, o1⟩ w1 ⟨hR, hf, hrl, hp, hrow, hm, hS⟩
  dsimp only at hR hf hrl hp hrow ⊢
  have hi1 := hp.i_lt
  obtain ⟨f1, rfl⟩ : ∃ f', f1 = f' + 1 := ⟨f1 - 1, by omega⟩
  simp only [rulesO] at hR
  refine W ?_
  refine WC_drawn 12 [] [] [(0, 0), (1, 0), (2, 0), (3, 1), (4, 0), (5, 0), (6, 0), (7, 1), (8, 0), (9, 0), (10, 1), (11, 0)] rfl mixed (by kernel_rfl) (by kernel_rfl) (by kernel_rfl) (fun w1 hS1 => ?_)
  replace hS1' := hS1
  replace hp := hp.up hS1; replace hrow := hrow.up hS1
  replace hm := hS1.cell (by simp) hm
  replace hS := hS.trans (hS1.mono (by simp))
  clear hS1 hS1'
  obtain ⟨hpb, hps, hpi, hpl, hpo⟩ := id hp
  have hcur := cur_of hpi
  refine D ?_
  by_cases hk : (cur l i1).kind = 0
  · rw [if_pos hk] at hR
    subst hR
    rw [hcur] at hk
    repeat' (first | refine W1 ?_ | (exfalso; omega) | refine WL_split rfl rfl (fun hg => ?_) (fun hg => ?_) | refine WL_splitB rfl rfl (fun hg => ?_) (fun hg => ?_) | refine WC_cond rfl (fun hc => ?_) (fun hc => ?_) | refine WC_condB rfl (fun hc => ?_) (fun hc => ?_))
    first | refine WQ_ret1 rfl rfl ?_ | refine WQ_ret2 rfl rfl rfl ?_ | refine WQ_ret3 rfl rfl rfl rfl ?_ | refine WQ_ret0 rfl ?_ | refine WQ_end0 rfl ?_
    refine PC.ok ?_ hp hS
    exact hrow.slv hX
  · rw [if_neg hk] at hR
    rw [hcur] at hk
    repeat' (first | refine W1 ?_ | (exfalso; omega) | refine WL_split rfl rfl (fun hg => ?_) (fun hg => ?_) | refine WL_splitB rfl rfl (fun hg => ?_) (fun hg => ?_) | refine WC_cond rfl (fun hc => ?_) (fun hc => ?_) | refine WC_condB rfl (fun hc => ?_) (fun hc => ?_))
    have hXk : ∀ c ∈ ob rv ++ X, c < w1.heap.size := fun c hc => by
      rcases List.mem_append.1 hc with h | h
      · exact (hrow.ob_le c h).2
      · exact Nat.lt_of_lt_of_le (hX c h) hS.size
    have hsub := rule_any (ob rv ++ X) b tv l hL m i1 o1 _ hb1 (by simp [hbX]) hXk hm hp
    rcases hU : ruleO l i1 o1 with ⟨a, c⟩ | ⟨r, i2, o2⟩
    · rw [hU] at hR
      simp only [Out.bind] at hR
      subst hR
      refine WL_pcall rfl (evs1 rfl) (PC.falls hsub hU hS) rfl ?_
      intro wz hwz
      repeat' (first | refine WQ_then_panic ?_ | refine WQ_block_panic ?_)
      refine WQ_panic ?_
      exact PC.err hwz
    · rw [hU] at hR
      simp only [Out.bind] at hR
      have hlt := ruleO_lt hU
      refine WL_eff (OE_call rfl (evs1 rfl) (PC.goes hsub hU)) rfl ?_
      rintro _ w3 ⟨⟨ki, kd, rfl, hki, hkd⟩, hp3, hT⟩
      replace hrow := hrow.ext (X' := X) hT (fun c hc => by
        simp only [List.mem_singleton] at hc
        subst hc
        exact ⟨hbX, fun h => by have := (hrow.ob_le c h).1; omega⟩) (fun c hc => .inl hc)
      replace hm := cell_up hm hb1 hT
      replace hS := hS.trans hT
      have hXk3 : ∀ c ∈ ob rv ++ X, c < w3.heap.size := fun c hc => Nat.lt_of_lt_of_le (hXk c hc) hT.size
      clear hT hp hXk hsub hpb hps
      obtain ⟨p1, c1, rfl, -⟩ := id hki
      obtain ⟨p2, c2, rfl, -⟩ := id hkd
      refine WL_eff (OE_buildSlice (vs := [(0, .agg (rlC r.rul (.slice p1 r.rul.cnd.kids.length c1) (.slice p2 r.rul.due.kids.length c2)).toArray)]) rfl (buildSR1 _ _ _ _ _ _ _)) rfl ?_
      intro bv w4 hN
      have hbv : SlV (ob rv ++ X) w4 bv [r.rul] := hN.slvG (css := [rlC r.rul _ _]) hXk3 rfl rfl (by simp) (repsR1 ⟨_, _, rfl, hki, hkd⟩) (by simp [maxLen])
      have hT := NewSl.stp hN
      replace hp3 := hp3.up hT; replace hrow := hrow.up hT
      replace hm := hT.cell (by simp) hm
      replace hS := hS.trans (hT.mono (by simp))
      clear hT hN hki hkd
      have hls := hS.size
      refine WL_eff (OE_append (X := X) (base := w.heap.size) rfl (by decide) rfl rfl hrow hbv (by simp only [List.length_cons, List.length_nil, List.length_map]; omega) (by simp only [List.length_cons, List.length_nil, List.length_map, maxLen]; omega) hls) rfl ?_
      rintro rv' w5 ⟨hrow', hT, hown⟩
      have hown1 : ∀ c ∈ ob rv, w.heap.size ≤ c := fun c hc => (hrow.ob_le c hc).1
      have hn1 : (1 : Nat) ∉ ob rv := fun h => by have := hown1 _ h; have := block_lt_of_cell hm0; simp at this; omega
      replace hm := hT.cell hn1 hm
      replace hS := hS.own hT (fun c hc => .inr (hown1 c hc))
      replace hp3 : Pd w5 b tv l i2 o2 := by
        obtain ⟨g1, g2, g3, g4, g5⟩ := hp3
        exact ⟨g1.ext hT (fun h => by have := hown1 b h; omega), hs0.ext hS (fun c hc => hc) (fun c hc => .inl hc), g3, g4, g5⟩
      clear hT
      refine W ?_
      refine WQ_loop (f1, rs ++ [r], rv', i2, o2) ⟨rfl, rfl, trivial⟩ ⟨hR, by dsimp only; omega, by simp; omega, hp3, ?_, hm, hS⟩ (by dsimp only; omega)
      rw [List.map_append]
      exact hrow'
end Go.Proofs.YtgpibcgebpgmiaaGreatDoor

