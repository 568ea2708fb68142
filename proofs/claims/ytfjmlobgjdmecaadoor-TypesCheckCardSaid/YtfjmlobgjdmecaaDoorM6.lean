/-
Merged by program out of own texts: Chk1.
-/
import Derived.Test.YtfjmlobgjdmecaaDoorM5
namespace Go.Proofs.YtfjmlobgjdmecaaDoor
open Go Go.Eng Go.RowKit
set_option linter.unusedVariables false
theorem checkLaw (lv : Value) (l : List Int) (n z m : Int) (a : Str) (v4 : Value) (x : Nd) (w : World) (hF : SlV [] w flds fieldNames) (hm : w.cell? ⟨1, 0, none⟩ = some (.int .i64 m)) (hs : SlV [] w lv l) (hl : ∀ a ∈ l, I64 a) (hn : I64 n) (hz : I64 z) (hx : NdV [] w v4 x) :
    Calls Tryd.prog 12 #[lv, .int .i64 n, str a, .int .i64 z, v4] w (Ret fun r w' => r = .bool true ∧ Stp [] w w') := by
  obtain ⟨kx, rfl, hkx⟩ := hx
  refine calls_of_WC5 (n := 75) Tryd.func12 rfl rfl rfl ?_
  refine W ?_
  refine WL_eff (OE_box rfl) rfl ?_
  rintro _ w1 ⟨b9, rfl, hb9, e9, hS⟩
  replace e9 : Blk w1 b9 24 (ndC x kx) := e9
  replace hkx := hkx.up hS
  clear hb9
  refine W ?_
  refine WL_eff (OE_call rfl (evs1 rfl) (Rule14_any [] lv l _ (hs.up hS) hl (by simp))) rfl ?_
  rintro _ w1 ⟨r, ⟨ki, kd, rfl, hi, hd⟩, hz1, hz2, hck, hT⟩
  replace hkx := hkx.up hT
  replace e9 := e9.up hT
  replace hS := hS.trans hT
  clear hT
  refine WL_eff OE_alloc rfl ?_
  rintro _ w2 ⟨b11, rfl, hb, e0, hT⟩
  have n9 : b9 ≠ b11 := by have := e9.lt; omega
  have hbw : w.heap.size ≤ b11 := Nat.le_trans hS.size hb
  refine WL_eff0 (OE_storeA (us := rlC r ki kd) rfl rfl rfl rfl (rlC_one r hi hd) e0 rfl) ?_
  rintro _ w3 ⟨hT2, e11⟩
  replace hi := (hi.ext (X' := [b11]) hT (by simp) (fun b h => by simp at h; subst h; exact .inr hb)).ext hT2 (by simp) (fun _ h => .inl h)
  replace hd := (hd.ext (X' := [b11]) hT (by simp) (fun b h => by simp at h; subst h; exact .inr hb)).ext hT2 (by simp) (fun _ h => .inl h)
  replace hkx := (hkx.ext (X' := [b11]) hT (by simp) (fun b h => by simp at h; subst h; exact .inr hb)).ext hT2 (by simp) (fun _ h => .inl h)
  replace e9 := (e9.up hT).ext hT2 (by simp; exact n9)
  replace hS := hS.trans (hT.own hT2 (fun b hb => .inr (by simp at hb; omega)))
  clear hT hT2 hb e0
  refine W ?_
  refine WL_eff (OE_call rfl (evs1 rfl) (CheckL_any _ r 0 m _ ⟨_, _, rfl, hi.wk (by simp), hd.wk (by simp)⟩ (hF.up hS) (hS.cell (by simp) hm) hck)) rfl ?_
  rintro _ w4 ⟨rfl, hT⟩
  replace hi := hi.ext hT (by simp) (fun _ h => .inl h)
  replace hd := hd.ext hT (by simp) (fun _ h => .inl h)
  replace hkx := hkx.ext hT (by simp) (fun _ h => .inl h)
  replace e9 := e9.up hT
  replace e11 := e11.up hT
  replace hS := hS.trans hT
  clear hT
  repeat' (first | refine W1 ?_ | (exfalso; omega) | refine WL_split rfl rfl (fun hg => ?_) (fun hg => ?_) | refine WL_splitB rfl rfl (fun hg => ?_) (fun hg => ?_) | refine WC_cond rfl (fun hc => ?_) (fun hc => ?_) | refine WC_condB rfl (fun hc => ?_) (fun hc => ?_))
  refine WL_eff (OE_call rfl (evs2 rfl rfl) (Around01_any z 60 _ (by decide) hz)) rfl ?_
  rintro _ w4 ⟨rfl, hT⟩
  have hk0 := (around_range (if z < 0 then -(z + 1) else z) 60 (by decide)).1
  generalize (if z < 0 then -(z + 1) else z) % 60 = k0 at *
  replace hi := hi.ext hT (by simp) (fun _ h => .inl h)
  replace hd := hd.ext hT (by simp) (fun _ h => .inl h)
  replace hkx := hkx.ext hT (by simp) (fun _ h => .inl h)
  replace e9 := e9.up hT
  replace e11 := e11.up hT
  replace hS := hS.trans hT
  clear hT
  refine W ?_
  refine WL_eff (OE_call rfl evs0 (Reserved_any [] _ (by simp))) rfl ?_
  rintro rv w4 ⟨hrv, hT⟩
  replace hrv := hrv.slv0
  replace hi := hi.ext hT (by simp) (fun _ h => .inl h)
  replace hd := hd.ext hT (by simp) (fun _ h => .inl h)
  replace hkx := hkx.ext hT (by simp) (fun _ h => .inl h)
  replace e9 := e9.up hT
  replace e11 := e11.up hT
  replace hS := hS.trans hT
  clear hT
  refine W ?_
  refine WC_cutQ (σ := Str) (fun q => [(0, lv), (1, .int .i64 n), (3, .int .i64 z), (9, .pointer (some ⟨b9, 0, none⟩)), (11, .pointer (some ⟨b11, 0, none⟩)), (12, str q)]) (fun q w' => SlV [b11] w' ki r.cnd.kids ∧ SlV [b11] w' kd r.due.kids ∧ SlV [b11] w' kx x.kids ∧ Blk w' b9 24 (ndC x kx) ∧ Blk w' b11 50 (rlC r ki kd) ∧ Stp [] w w') ?_ ?_
  · repeat' (first | refine W1 ?_ | (exfalso; omega) | refine WL_split rfl rfl (fun hg => ?_) (fun hg => ?_) | refine WL_splitB rfl rfl (fun hg => ?_) (fun hg => ?_) | refine WC_cond rfl (fun hc => ?_) (fun hc => ?_) | refine WC_condB rfl (fun hc => ?_) (fun hc => ?_))
    · refine WL_eff (OE_call rfl evs0 (Reserved_any [] _ (by simp))) rfl ?_
      rintro rv2 w5 ⟨hrv2, hT⟩
      replace hrv2 := hrv2.slv0
      replace hi := hi.ext hT (by simp) (fun _ h => .inl h)
      replace hd := hd.ext hT (by simp) (fun _ h => .inl h)
      replace hkx := hkx.ext hT (by simp) (fun _ h => .inl h)
      replace e9 := e9.up hT
      replace e11 := e11.up hT
      replace hS := hS.trans hT
      clear hT
      obtain ⟨k1, rfl⟩ : ∃ k1 : Nat, k0 = (k1 : Int) := ⟨k0.toNat, by omega⟩
      have hk1 : k1 < (resW ++ fieldNames).length := by omega
      refine W ?_
      exact WQ_cut (resW ++ fieldNames)[k1] ⟨rfl, rfl, rfl, rfl, rfl, rfl, trivial⟩ ⟨hi, hd, hkx, e9, e11, hS⟩
    · exact WQ_cut a ⟨rfl, rfl, rfl, rfl, rfl, rfl, trivial⟩ ⟨hi, hd, hkx, e9, e11, hS⟩
  clear hi hd hkx e9 e11 hS hrv
  rintro s w4 ⟨hi, hd, hkx, e9, e11, hS⟩
  refine W ?_
  refine WL_eff (OE_call rfl (evs2 rfl rfl) (Around01_any n 8 _ (by decide) hn)) rfl ?_
  rintro _ w4 ⟨rfl, hT⟩
  generalize (if n < 0 then -(n + 1) else n) % 8 = k at *
  replace hi := hi.ext hT (by simp) (fun _ h => .inl h)
  replace hd := hd.ext hT (by simp) (fun _ h => .inl h)
  replace hkx := hkx.ext hT (by simp) (fun _ h => .inl h)
  replace e9 := e9.up hT
  replace e11 := e11.up hT
  replace hS := hS.trans hT
  clear hT
  refine W ?_
  refine WC_cutB (σ := Rul × Value × Value) (fun q => [(11, .pointer (some ⟨b11, 0, none⟩))]) (fun q w' => sizeN q.1.cnd ≤ 400 ∧ sizeN q.1.due ≤ 400 ∧ SlV [b11] w' q.2.1 q.1.cnd.kids ∧ SlV [b11] w' q.2.2 q.1.due.kids ∧ Blk w' b11 50 (rlC q.1 q.2.1 q.2.2) ∧ Stp [] w w') ?_ ?_
  · repeat' (first | refine W1 ?_ | (exfalso; omega) | refine WL_split rfl rfl (fun hg => ?_) (fun hg => ?_) | refine WL_splitB rfl rfl (fun hg => ?_) (fun hg => ?_) | refine WC_cond rfl (fun hc => ?_) (fun hc => ?_) | refine WC_condB rfl (fun hc => ?_) (fun hc => ?_))
    · refine W ?_
      refine WL_eff0 (OE_store1 (o := 0) (u := str s) rfl rfl rfl rfl e11 (by simp)) ?_
      rintro _ w5 ⟨hT, e11⟩
      refine W ?_
      exact WQ_cut (⟨s, r.frm, r.on, r.cnd, r.due, r.unl, r.els⟩, ki, kd) ⟨rfl, trivial⟩ ⟨hz1, hz2, hi.ext hT (by simp) (fun _ h => .inl h), hd.ext hT (by simp) (fun _ h => .inl h), e11, hS.own hT (fun b hb => .inr (by simp at hb; omega))⟩
    · refine W ?_
      refine WL_eff0 (OE_store1 (o := 2) (u := str s) rfl rfl rfl rfl e11 (by simp)) ?_
      rintro _ w5 ⟨hT, e11⟩
      refine W ?_
      exact WQ_cut (⟨r.name, r.frm, s, r.cnd, r.due, r.unl, r.els⟩, ki, kd) ⟨rfl, trivial⟩ ⟨hz1, hz2, hi.ext hT (by simp) (fun _ h => .inl h), hd.ext hT (by simp) (fun _ h => .inl h), e11, hS.own hT (fun b hb => .inr (by simp at hb; omega))⟩
    · refine W ?_
      refine WL_eff0 (OE_store1 (o := 11) (u := str s) rfl rfl rfl rfl e11 (by simp)) ?_
      rintro _ w5 ⟨hT, e11⟩
      refine W ?_
      exact WQ_cut (⟨r.name, r.frm, r.on, r.cnd, r.due, s, r.els⟩, ki, kd) ⟨rfl, trivial⟩ ⟨hz1, hz2, hi.ext hT (by simp) (fun _ h => .inl h), hd.ext hT (by simp) (fun _ h => .inl h), e11, hS.own hT (fun b hb => .inr (by simp at hb; omega))⟩
    · refine W ?_
      refine WL_eff0 (OE_store1 (o := 12) (u := str s) rfl rfl rfl rfl e11 (by simp)) ?_
      rintro _ w5 ⟨hT, e11⟩
      refine W ?_
      exact WQ_cut (⟨r.name, r.frm, r.on, r.cnd, r.due, r.unl, s⟩, ki, kd) ⟨rfl, trivial⟩ ⟨hz1, hz2, hi.ext hT (by simp) (fun _ h => .inl h), hd.ext hT (by simp) (fun _ h => .inl h), e11, hS.own hT (fun b hb => .inr (by simp at hb; omega))⟩
    · refine W ?_
      refine WL_eff0 (OE_store1 (o := 1) (u := .int .i64 z) rfl rfl rfl rfl e11 (by simp)) ?_
      rintro _ w5 ⟨hT, e11⟩
      refine W ?_
      exact WQ_cut (⟨r.name, z, r.on, r.cnd, r.due, r.unl, r.els⟩, ki, kd) ⟨rfl, trivial⟩ ⟨hz1, hz2, hi.ext hT (by simp) (fun _ h => .inl h), hd.ext hT (by simp) (fun _ h => .inl h), e11, hS.own hT (fun b hb => .inr (by simp at hb; omega))⟩
    · refine W ?_
      refine WL_eff (OE_call rfl (evs2 rfl rfl) (Pruned_any [b11] _ x _ 14 (by decide) (by decide) (fun b hb => by simp at hb; subst hb; exact e11.lt) ⟨_, rfl, hkx.wk (by simp)⟩)) rfl ?_
      rintro _ w5 ⟨y, ⟨ky, rfl, hy⟩, hsy, hT⟩
      replace hi := hi.ext hT (by simp) (fun _ h => .inl h)
      replace hd := hd.ext hT (by simp) (fun _ h => .inl h)
      replace e11 := e11.up hT
      replace hS := hS.trans hT
      clear hT
      refine W ?_
      refine WL_eff0 (OE_store (o := 3) (us := ndC y ky) rfl rfl rfl rfl (ndC_one hy) e11 (by simp)) ?_
      rintro _ w6 ⟨hT, e11⟩
      refine W ?_
      exact WQ_cut (⟨r.name, r.frm, r.on, y, r.due, r.unl, r.els⟩, ky, kd) ⟨rfl, trivial⟩ ⟨hsy, hz2, hy.ext hT (by simp) (fun _ h => .inl h), hd.ext hT (by simp) (fun _ h => .inl h), e11, hS.own hT (fun b hb => .inr (by simp at hb; omega))⟩
    · refine W ?_
      refine WL_eff (OE_call rfl (evs3 rfl rfl rfl) (Expr_any [b11] lv l z 4 4 _ (by decide) (by decide) rfl hz (hs.up hS) hl (fun b hb => by simp at hb; subst hb; exact e11.lt))) rfl ?_
      rintro _ w5 ⟨y, ⟨ky, rfl, hy⟩, hsy, -, hT⟩
      replace hi := hi.ext hT (by simp) (fun _ h => .inl h)
      replace hd := hd.ext hT (by simp) (fun _ h => .inl h)
      replace e11 := e11.up hT
      replace hS := hS.trans hT
      clear hT
      refine W ?_
      refine WL_eff0 (OE_store (o := 7) (us := ndC y ky) rfl rfl rfl rfl (ndC_one hy) e11 (by simp)) ?_
      rintro _ w6 ⟨hT, e11⟩
      refine W ?_
      exact WQ_cut (⟨r.name, r.frm, r.on, r.cnd, y, r.unl, r.els⟩, ki, ky) ⟨rfl, trivial⟩ ⟨hz1, hsy, hi.ext hT (by simp) (fun _ h => .inl h), hy.ext hT (by simp) (fun _ h => .inl h), e11, hS.own hT (fun b hb => .inr (by simp at hb; omega))⟩
    · refine W ?_
      refine WL_eff (OE_call rfl (evs3 rfl rfl rfl) (Expr_any [b11] lv l z 4 4 _ (by decide) (by decide) rfl hz (hs.up hS) hl (fun b hb => by simp at hb; subst hb; exact e11.lt))) rfl ?_
      rintro _ w5 ⟨y, ⟨ky, rfl, hy⟩, hsy, -, hT⟩
      replace hi := hi.ext hT (by simp) (fun _ h => .inl h)
      replace hd := hd.ext hT (by simp) (fun _ h => .inl h)
      replace e11 := e11.up hT
      replace hS := hS.trans hT
      clear hT
      refine W ?_
      refine WL_eff0 (OE_store (o := 3) (us := ndC y ky) rfl rfl rfl rfl (ndC_one hy) e11 (by simp)) ?_
      rintro _ w6 ⟨hT, e11⟩
      refine W ?_
      exact WQ_cut (⟨r.name, r.frm, r.on, y, r.due, r.unl, r.els⟩, ky, kd) ⟨rfl, trivial⟩ ⟨hsy, hz2, hy.ext hT (by simp) (fun _ h => .inl h), hd.ext hT (by simp) (fun _ h => .inl h), e11, hS.own hT (fun b hb => .inr (by simp at hb; omega))⟩
  clear hi hd hkx e9 e11 hS hz1 hz2 hck r ki kd
  rintro ⟨r, ki, kd⟩ w5 ⟨hz1, hz2, hi, hd, e11, hS⟩
  try dsimp only at hz1 hz2 hi hd e11
  refine W ?_
  refine WC_drawn 9 [] [] [(0, 1), (2, 1), (1, 2), (3, 2), (4, 0), (5, 0), (6, 2), (7, 0), (8, 0)] rfl mixed (by kernel_rfl) (by kernel_rfl) (by kernel_rfl) (fun w1 hS1 => ?_)
  replace hi := hi.ext hS1 (by simp) (fun _ h => .inl h)
  replace hd := hd.ext hS1 (by simp) (fun _ h => .inl h)
  replace e11 := e11.up hS1
  replace hS := hS.trans hS1
  clear hS1
  refine D ?_
  refine WD_eff rfl trivial (OE_call rfl (evs1 rfl) (Check14_any _ r m _ ⟨_, _, rfl, hi.wk (by simp), hd.wk (by simp)⟩ (hF.up hS) (hS.cell (by simp) hm))) (fun _ _ h => h.2) rfl ?_
  rintro _ w6 ⟨rfl, hT⟩
  replace hi := hi.ext hT (by simp) (fun _ h => .inl h)
  replace hd := hd.ext hT (by simp) (fun _ h => .inl h)
  replace e11 := e11.up hT
  replace hS := hS.trans hT
  clear hT
  refine D ?_
  refine WD_eff rfl trivial (OE_call rfl (evs1 rfl) (CheckR_any _ r _ ⟨_, _, rfl, hi.wk (by simp), hd.wk (by simp)⟩ (by omega) (by omega))) (fun _ _ h => h.2) rfl ?_
  rintro _ w6 ⟨rfl, hT⟩
  replace hS := hS.trans hT
  clear hT
  generalize checkT r = ck at *
  refine D ?_
  rw [decide_eq_true (rfl : ck = ck)]
  refine WD_eff rfl rfl (OE_call rfl evs0 (lives14_any m _ (hF.up hS) (hS.cell (by simp) hm))) (fun _ _ h => h.2) rfl ?_
  rintro _ w6 ⟨rfl, hT⟩
  refine D ?_
  refine W ?_
  first | refine WQ_ret1 rfl rfl ?_ | refine WQ_ret2 rfl rfl rfl ?_ | refine WQ_ret3 rfl rfl rfl rfl ?_ | refine WQ_ret0 rfl ?_ | refine WQ_end0 rfl ?_
  exact .mk ⟨rfl, hS.trans hT⟩
end Go.Proofs.YtfjmlobgjdmecaaDoor
