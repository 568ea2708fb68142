/-
Merged by program out of own texts: Chk1, Use2, Lvs1.
-/
import Derived.Test.YtfjmlobgjdmecaaDoorM5
namespace Go.Proofs.YtfjmlobgjdmecaaDoor
open Go Go.Eng Go.RowKit
set_option linter.unusedVariables false
theorem checkLaw (lv : Value) (l : List Int) (n z m : Int) (a : Str) (v4 : Value) (x : Nd) (w : World) (hF : SlV [] w flds fieldNames) (hm : w.cell? ⟨1, 0, none⟩ = some (.int .i64 m)) (hs : SlV [] w lv l) (hl : ∀ a ∈ l, I64 a) (hn : I64 n) (hz : I64 z) (hx : NdV [] w v4 x) :
    Calls Tryd.prog 12 #[lv, .int .i64 n, str a, .int .i64 z, v4] w (Ret fun r w' => r = .bool true ∧ Stp [] w w') := by
  obtain ⟨kx, rfl, hkx⟩ := hx
  refine calls_of_WC5 (n := 75) Tryd.func12 rfl rfl rfl ?_
  refine W ?_
  refine WL_eff (OE_box rfl) rfl ?_
  rintro _ w1 ⟨b9, rfl, hb9, e9, hS⟩
  replace e9 : Blk w1 b9 24 (ndC x kx) := e9
  replace hkx := hkx.up hS
  clear hb9
  refine W ?_
  refine WL_eff (OE_call rfl (evs1 rfl) (Rule14_any [] lv l _ (hs.up hS) hl (by simp))) rfl ?_
  rintro _ w1 ⟨r, ⟨ki, kd, rfl, hi, hd⟩, hz1, hz2, hck, hT⟩
  replace hkx := hkx.up hT
  replace e9 := e9.up hT
  replace hS := hS.trans hT
  clear hT
  refine WL_eff OE_alloc rfl ?_
  rintro _ w2 ⟨b11, rfl, hb, e0, hT⟩
  have n9 : b9 ≠ b11 := by have := e9.lt; omega
  have hbw : w.heap.size ≤ b11 := Nat.le_trans hS.size hb
  refine WL_eff0 (OE_storeA (us := rlC r ki kd) rfl rfl rfl rfl (rlC_one r hi hd) e0 rfl) ?_
  rintro _ w3 ⟨hT2, e11⟩
  replace hi := (hi.ext (X' := [b11]) hT (by simp) (fun b h => by simp at h; subst h; exact .inr hb)).ext hT2 (by simp) (fun _ h => .inl h)
  replace hd := (hd.ext (X' := [b11]) hT (by simp) (fun b h => by simp at h; subst h; exact .inr hb)).ext hT2 (by simp) (fun _ h => .inl h)
  replace hkx := (hkx.ext (X' := [b11]) hT (by simp) (fun b h => by simp at h; subst h; exact .inr hb)).ext hT2 (by simp) (fun _ h => .inl h)
  replace e9 := (e9.up hT).ext hT2 (by simp; exact n9)
  replace hS := hS.trans (hT.own hT2 (fun b hb => .inr (by simp at hb; omega)))
  clear hT hT2 hb e0
  refine W ?_
  refine WL_eff (OE_call rfl (evs1 rfl) (CheckL_any _ r 0 m _ ⟨_, _, rfl, hi.wk (by simp), hd.wk (by simp)⟩ (hF.up hS) (hS.cell (by simp) hm) hck)) rfl ?_
  rintro _ w4 ⟨rfl, hT⟩
  replace hi := hi.ext hT (by simp) (fun _ h => .inl h)
  replace hd := hd.ext hT (by simp) (fun _ h => .inl h)
  replace hkx := hkx.ext hT (by simp) (fun _ h => .inl h)
  replace e9 := e9.up hT
  replace e11 := e11.up hT
  replace hS := hS.trans hT
  clear hT
  repeat' (first | refine W1 ?_ | (exfalso; omega) | refine WL_split rfl rfl (fun hg => ?_) (fun hg => ?_) | refine WL_splitB rfl rfl (fun hg => ?_) (fun hg => ?_) | refine WC_cond rfl (fun hc => ?_) (fun hc => ?_) | refine WC_condB rfl (fun hc => ?_) (fun hc => ?_))
  refine WL_eff (OE_call rfl (evs2 rfl rfl) (Around01_any z 60 _ (by decide) hz)) rfl ?_
  rintro _ w4 ⟨rfl, hT⟩
  have hk0 := (around_range (if z < 0 then -(z + 1) else z) 60 (by decide)).1
  generalize (if z < 0 then -(z + 1) else z) % 60 = k0 at *
  replace hi := hi.ext hT (by simp) (fun _ h => .inl h)
  replace hd := hd.ext hT (by simp) (fun _ h => .inl h)
  replace hkx := hkx.ext hT (by simp) (fun _ h => .inl h)
  replace e9 := e9.up hT
  replace e11 := e11.up hT
  replace hS := hS.trans hT
  clear hT
  refine W ?_
  refine WL_eff (OE_call rfl evs0 (Reserved_any [] _ (by simp))) rfl ?_
  rintro rv w4 ⟨hrv, hT⟩
  replace hrv := hrv.slv0
  replace hi := hi.ext hT (by simp) (fun _ h => .inl h)
  replace hd := hd.ext hT (by simp) (fun _ h => .inl h)
  replace hkx := hkx.ext hT (by simp) (fun _ h => .inl h)
  replace e9 := e9.up hT
  replace e11 := e11.up hT
  replace hS := hS.trans hT
  clear hT
  refine W ?_
  refine WC_cutQ (σ := Str) (fun q => [(0, lv), (1, .int .i64 n), (3, .int .i64 z), (9, .pointer (some ⟨b9, 0, none⟩)), (11, .pointer (some ⟨b11, 0, none⟩)), (12, str q)]) (fun q w' => SlV [b11] w' ki r.cnd.kids ∧ SlV [b11] w' kd r.due.kids ∧ SlV [b11] w' kx x.kids ∧ Blk w' b9 24 (ndC x kx) ∧ Blk w' b11 50 (rlC r ki kd) ∧ Stp [] w w') ?_ ?_
  · repeat' (first | refine W1 ?_ | (exfalso; omega) | refine WL_split rfl rfl (fun hg => ?_) (fun hg => ?_) | refine WL_splitB rfl rfl (fun hg => ?_) (fun hg => ?_) | refine WC_cond rfl (fun hc => ?_) (fun hc => ?_) | refine WC_condB rfl (fun hc => ?_) (fun hc => ?_))
    · refine WL_eff (OE_call rfl evs0 (Reserved_any [] _ (by simp))) rfl ?_
      rintro rv2 w5 ⟨hrv2, hT⟩
      replace hrv2 := hrv2.slv0
      replace hi := hi.ext hT (by simp) (fun _ h => .inl h)
      replace hd := hd.ext hT (by simp) (fun _ h => .inl h)
      replace hkx := hkx.ext hT (by simp) (fun _ h => .inl h)
      replace e9 := e9.up hT
      replace e11 := e11.up hT
      replace hS := hS.trans hT
      clear hT
      obtain ⟨k1, rfl⟩ : ∃ k1 : Nat, k0 = (k1 : Int) := ⟨k0.toNat, by omega⟩
      have hk1 : k1 < (resW ++ fieldNames).length := by omega
      refine W ?_
      exact WQ_cut (resW ++ fieldNames)[k1] ⟨rfl, rfl, rfl, rfl, rfl, rfl, trivial⟩ ⟨hi, hd, hkx, e9, e11, hS⟩
    · exact WQ_cut a ⟨rfl, rfl, rfl, rfl, rfl, rfl, trivial⟩ ⟨hi, hd, hkx, e9, e11, hS⟩
  clear hi hd hkx e9 e11 hS hrv
  rintro s w4 ⟨hi, hd, hkx, e9, e11, hS⟩
  refine W ?_
  refine WL_eff (OE_call rfl (evs2 rfl rfl) (Around01_any n 8 _ (by decide) hn)) rfl ?_
  rintro _ w4 ⟨rfl, hT⟩
  generalize (if n < 0 then -(n + 1) else n) % 8 = k at *
  replace hi := hi.ext hT (by simp) (fun _ h => .inl h)
  replace hd := hd.ext hT (by simp) (fun _ h => .inl h)
  replace hkx := hkx.ext hT (by simp) (fun _ h => .inl h)
  replace e9 := e9.up hT
  replace e11 := e11.up hT
  replace hS := hS.trans hT
  clear hT
  refine W ?_
  refine WC_cutB (σ := Rul × Value × Value) (fun q => [(11, .pointer (some ⟨b11, 0, none⟩))]) (fun q w' => sizeN q.1.cnd ≤ 400 ∧ sizeN q.1.due ≤ 400 ∧ SlV [b11] w' q.2.1 q.1.cnd.kids ∧ SlV [b11] w' q.2.2 q.1.due.kids ∧ Blk w' b11 50 (rlC q.1 q.2.1 q.2.2) ∧ Stp [] w w') ?_ ?_
  · repeat' (first | refine W1 ?_ | (exfalso; omega) | refine WL_split rfl rfl (fun hg => ?_) (fun hg => ?_) | refine WL_splitB rfl rfl (fun hg => ?_) (fun hg => ?_) | refine WC_cond rfl (fun hc => ?_) (fun hc => ?_) | refine WC_condB rfl (fun hc => ?_) (fun hc => ?_))
    · refine W ?_
      refine WL_eff0 (OE_store1 (o := 0) (u := str s) rfl rfl rfl rfl e11 (by simp)) ?_
      rintro _ w5 ⟨hT, e11⟩
      refine W ?_
      exact WQ_cut (⟨s, r.frm, r.on, r.cnd, r.due, r.unl, r.els⟩, ki, kd) ⟨rfl, trivial⟩ ⟨hz1, hz2, hi.ext hT (by simp) (fun _ h => .inl h), hd.ext hT (by simp) (fun _ h => .inl h), e11, hS.own hT (fun b hb => .inr (by simp at hb; omega))⟩
    · refine W ?_
      refine WL_eff0 (OE_store1 (o := 2) (u := str s) rfl rfl rfl rfl e11 (by simp)) ?_
      rintro _ w5 ⟨hT, e11⟩
      refine W ?_
      exact WQ_cut (⟨r.name, r.frm, s, r.cnd, r.due, r.unl, r.els⟩, ki, kd) ⟨rfl, trivial⟩ ⟨hz1, hz2, hi.ext hT (by simp) (fun _ h => .inl h), hd.ext hT (by simp) (fun _ h => .inl h), e11, hS.own hT (fun b hb => .inr (by simp at hb; omega))⟩
    · refine W ?_
      refine WL_eff0 (OE_store1 (o := 11) (u := str s) rfl rfl rfl rfl e11 (by simp)) ?_
      rintro _ w5 ⟨hT, e11⟩
      refine W ?_
      exact WQ_cut (⟨r.name, r.frm, r.on, r.cnd, r.due, s, r.els⟩, ki, kd) ⟨rfl, trivial⟩ ⟨hz1, hz2, hi.ext hT (by simp) (fun _ h => .inl h), hd.ext hT (by simp) (fun _ h => .inl h), e11, hS.own hT (fun b hb => .inr (by simp at hb; omega))⟩
    · refine W ?_
      refine WL_eff0 (OE_store1 (o := 12) (u := str s) rfl rfl rfl rfl e11 (by simp)) ?_
      rintro _ w5 ⟨hT, e11⟩
      refine W ?_
      exact WQ_cut (⟨r.name, r.frm, r.on, r.cnd, r.due, r.unl, s⟩, ki, kd) ⟨rfl, trivial⟩ ⟨hz1, hz2, hi.ext hT (by simp) (fun _ h => .inl h), hd.ext hT (by simp) (fun _ h => .inl h), e11, hS.own hT (fun b hb => .inr (by simp at hb; omega))⟩
    · refine W ?_
      refine WL_eff0 (OE_store1 (o := 1) (u := .int .i64 z) rfl rfl rfl rfl e11 (by simp)) ?_
      rintro _ w5 ⟨hT, e11⟩
      refine W ?_
      exact WQ_cut (⟨r.name, z, r.on, r.cnd, r.due, r.unl, r.els⟩, ki, kd) ⟨rfl, trivial⟩ ⟨hz1, hz2, hi.ext hT (by simp) (fun _ h => .inl h), hd.ext hT (by simp) (fun _ h => .inl h), e11, hS.own hT (fun b hb => .inr (by simp at hb; omega))⟩
    · refine W ?_
      refine WL_eff (OE_call rfl (evs2 rfl rfl) (Pruned_any [b11] _ x _ 14 (by decide) (by decide) (fun b hb => by simp at hb; subst hb; exact e11.lt) ⟨_, rfl, hkx.wk (by simp)⟩)) rfl ?_
      rintro _ w5 ⟨y, ⟨ky, rfl, hy⟩, hsy, hT⟩
      replace hi := hi.ext hT (by simp) (fun _ h => .inl h)
      replace hd := hd.ext hT (by simp) (fun _ h => .inl h)
      replace e11 := e11.up hT
      replace hS := hS.trans hT
      clear hT
      refine W ?_
      refine WL_eff0 (OE_store (o := 3) (us := ndC y ky) rfl rfl rfl rfl (ndC_one hy) e11 (by simp)) ?_
      rintro _ w6 ⟨hT, e11⟩
      refine W ?_
      exact WQ_cut (⟨r.name, r.frm, r.on, y, r.due, r.unl, r.els⟩, ky, kd) ⟨rfl, trivial⟩ ⟨hsy, hz2, hy.ext hT (by simp) (fun _ h => .inl h), hd.ext hT (by simp) (fun _ h => .inl h), e11, hS.own hT (fun b hb => .inr (by simp at hb; omega))⟩
    · refine W ?_
      refine WL_eff (OE_call rfl (evs3 rfl rfl rfl) (Expr_any [b11] lv l z 4 4 _ (by decide) (by decide) rfl hz (hs.up hS) hl (fun b hb => by simp at hb; subst hb; exact e11.lt))) rfl ?_
      rintro _ w5 ⟨y, ⟨ky, rfl, hy⟩, hsy, -, hT⟩
      replace hi := hi.ext hT (by simp) (fun _ h => .inl h)
      replace hd := hd.ext hT (by simp) (fun _ h => .inl h)
      replace e11 := e11.up hT
      replace hS := hS.trans hT
      clear hT
      refine W ?_
      refine WL_eff0 (OE_store (o := 7) (us := ndC y ky) rfl rfl rfl rfl (ndC_one hy) e11 (by simp)) ?_
      rintro _ w6 ⟨hT, e11⟩
      refine W ?_
      exact WQ_cut (⟨r.name, r.frm, r.on, r.cnd, y, r.unl, r.els⟩, ki, ky) ⟨rfl, trivial⟩ ⟨hz1, hsy, hi.ext hT (by simp) (fun _ h => .inl h), hy.ext hT (by simp) (fun _ h => .inl h), e11, hS.own hT (fun b hb => .inr (by simp at hb; omega))⟩
    · refine W ?_
      refine WL_eff (OE_call rfl (evs3 rfl rfl rfl) (Expr_any [b11] lv l z 4 4 _ (by decide) (by decide) rfl hz (hs.up hS) hl (fun b hb => by simp at hb; subst hb; exact e11.lt))) rfl ?_
      rintro _ w5 ⟨y, ⟨ky, rfl, hy⟩, hsy, -, hT⟩
      replace hi := hi.ext hT (by simp) (fun _ h => .inl h)
      replace hd := hd.ext hT (by simp) (fun _ h => .inl h)
      replace e11 := e11.up hT
      replace hS := hS.trans hT
      clear hT
      refine W ?_
      refine WL_eff0 (OE_store (o := 3) (us := ndC y ky) rfl rfl rfl rfl (ndC_one hy) e11 (by simp)) ?_
      rintro _ w6 ⟨hT, e11⟩
      refine W ?_
      exact WQ_cut (⟨r.name, r.frm, r.on, y, r.due, r.unl, r.els⟩, ky, kd) ⟨rfl, trivial⟩ ⟨hsy, hz2, hy.ext hT (by simp) (fun _ h => .inl h), hd.ext hT (by simp) (fun _ h => .inl h), e11, hS.own hT (fun b hb => .inr (by simp at hb; omega))⟩
  clear hi hd hkx e9 e11 hS hz1 hz2 hck r ki kd
  rintro ⟨r, ki, kd⟩ w5 ⟨hz1, hz2, hi, hd, e11, hS⟩
  try dsimp only at hz1 hz2 hi hd e11
  refine W ?_
  refine WC_drawn 9 [] [] [(0, 1), (2, 1), (1, 2), (3, 2), (4, 0), (5, 0), (6, 2), (7, 0), (8, 0)] rfl mixed (by kernel_rfl) (by kernel_rfl) (by kernel_rfl) (fun w1 hS1 => ?_)
  replace hi := hi.ext hS1 (by simp) (fun _ h => .inl h)
  replace hd := hd.ext hS1 (by simp) (fun _ h => .inl h)
  replace e11 := e11.up hS1
  replace hS := hS.trans hS1
  clear hS1
  refine D ?_
  refine WD_eff rfl trivial (OE_call rfl (evs1 rfl) (Check14_any _ r m _ ⟨_, _, rfl, hi.wk (by simp), hd.wk (by simp)⟩ (hF.up hS) (hS.cell (by simp) hm))) (fun _ _ h => h.2) rfl ?_
  rintro _ w6 ⟨rfl, hT⟩
  replace hi := hi.ext hT (by simp) (fun _ h => .inl h)
  replace hd := hd.ext hT (by simp) (fun _ h => .inl h)
  replace e11 := e11.up hT
  replace hS := hS.trans hT
  clear hT
  refine D ?_
  refine WD_eff rfl trivial (OE_call rfl (evs1 rfl) (CheckR_any _ r _ ⟨_, _, rfl, hi.wk (by simp), hd.wk (by simp)⟩ (by omega) (by omega))) (fun _ _ h => h.2) rfl ?_
  rintro _ w6 ⟨rfl, hT⟩
  replace hS := hS.trans hT
  clear hT
  generalize checkT r = ck at *
  refine D ?_
  rw [decide_eq_true (rfl : ck = ck)]
  refine WD_eff rfl rfl (OE_call rfl evs0 (lives14_any m _ (hF.up hS) (hS.cell (by simp) hm))) (fun _ _ h => h.2) rfl ?_
  rintro _ w6 ⟨rfl, hT⟩
  refine D ?_
  refine W ?_
  first | refine WQ_ret1 rfl rfl ?_ | refine WQ_ret2 rfl rfl rfl ?_ | refine WQ_ret3 rfl rfl rfl rfl ?_ | refine WQ_ret0 rfl ?_ | refine WQ_end0 rfl ?_
  exact .mk ⟨rfl, hS.trans hT⟩
end Go.Proofs.YtfjmlobgjdmecaaDoor
namespace Go.Proofs.YtfjmlobgjdmecaaDoor
open Go Go.Eng Go.RowKit
set_option linter.unusedVariables false
set_option maxHeartbeats 1000000 in
theorem uses14_any (x : Nd) : ∀ (v : Value) (nm : Str) (w : World), okN x = true → NdV [] w v x →
    Calls Tryd.prog 93 #[v, str nm] w (Ret fun r w' => r = .bool (usesT nm x) ∧ Stp [] w w') := by
  induction x using Nd.ind with
  | h k n s l ih =>
  intro v nm w hok hx
  obtain ⟨hk1, hk2⟩ := (okN_iff _).1 hok
  replace hk1 : l.length ≤ 1000 := hk1
  replace hk2 : ∀ y ∈ l, okN y = true := hk2
  obtain ⟨kv, rfl, hs⟩ := hx
  replace hs : SlV [] w kv l := hs
  rw [usesT_eq]
  refine calls_of_WC2 (n := 34) Tryd.func93 rfl rfl rfl ?_
  refine W ?_
  refine WL_eff (OE_box rfl) rfl ?_
  rintro _ w1 ⟨b, rfl, hbb, hblk, hS⟩
  replace hblk : Blk w1 b _ (ndL k n s kv) := hblk
  replace hs := hs.up hS
  refine W ?_
  refine WL_cutQ (σ := Bool) (fun q => [(1, str nm), (2, .pointer (some ⟨b, 0, none⟩)), (5, .bool q)]) (fun q w' => w' = w1 ∧ q = (decide (k = 4) && decide (s = nm))) ?_ ?_
  · repeat' (first | refine W1 ?_ | (exfalso; omega) | refine WL_split rfl rfl (fun hg => ?_) (fun hg => ?_) | refine WL_splitB rfl rfl (fun hg => ?_) (fun hg => ?_) | refine WC_cond rfl (fun hc => ?_) (fun hc => ?_) | refine WC_condB rfl (fun hc => ?_) (fun hc => ?_))
    all_goals exact WQ_cut _ ⟨rfl, rfl, rfl, trivial⟩ ⟨rfl, by simp [*]⟩
  rintro q w1 ⟨rfl, hq⟩
  try dsimp only at hq ⊢
  refine W ?_
  have hs0 := hs
  have hblk0 := hblk
  refine WC_loop (σ := Nat × Bool) (fun q => [(1, str nm), (2, .pointer (some ⟨b, 0, none⟩)), (5, .bool q.2), (6, .int .i64 (q.1 : Int))]) (fun q w' => q.1 ≤ l.length ∧ q.2 = ((decide (k = 4) && decide (s = nm)) || ((l.take q.1).map (usesT nm)).any id) ∧ Stp [] w1 w') (fun q => l.length - q.1) (0, q) ⟨rfl, rfl, rfl, rfl, trivial⟩ ⟨Nat.zero_le _, by simp [hq], Stp.refl _ _⟩ ?_
  clear hs hblk hq q
  rintro ⟨j, q⟩ w2 ⟨hj, hq, hS2⟩
  dsimp only at hj hq ⊢
  have hs := hs0.up hS2
  have hblk := hblk0.up hS2
  by_cases hlt : j < l.length
  · have hnext : ((decide (k = 4) && decide (s = nm)) || ((l.take (j + 1)).map (usesT nm)).any id) = (q || usesT nm l[j]) := by
      rw [List.take_succ_eq_append_getElem hlt, List.map_append, List.any_append, ← Bool.or_assoc, ← hq]
      simp
    cases q with
    | true =>
      repeat' (first | refine W1 ?_ | (exfalso; omega) | refine WL_split rfl rfl (fun hg => ?_) (fun hg => ?_) | refine WL_splitB rfl rfl (fun hg => ?_) (fun hg => ?_) | refine WC_cond rfl (fun hc => ?_) (fun hc => ?_) | refine WC_condB rfl (fun hc => ?_) (fun hc => ?_))
      exact WQ_loop (j + 1, true) ⟨rfl, rfl, rfl, rfl, trivial⟩ ⟨hlt, by dsimp only; rw [hnext]; rfl, hS2⟩ (by dsimp only; omega)
    | false =>
      obtain ⟨kv2, hs2, hc2⟩ := hs.nd hlt
      repeat' (first | refine W1 ?_ | (exfalso; omega) | refine WL_split rfl rfl (fun hg => ?_) (fun hg => ?_) | refine WL_splitB rfl rfl (fun hg => ?_) (fun hg => ?_) | refine WC_cond rfl (fun hc => ?_) (fun hc => ?_) | refine WC_condB rfl (fun hc => ?_) (fun hc => ?_))
      apply WL_pure (PR_loadNd rfl rfl hs hlt hc2) rfl
      refine W ?_
      refine WL_eff (OE_call rfl (evs2 rfl rfl) (ih l[j] (List.getElem_mem hlt) _ nm _ (hk2 _ (List.getElem_mem hlt)) ⟨kv2, rfl, hs2⟩)) rfl ?_
      rintro _ w3 ⟨rfl, hS3⟩
      refine W ?_
      exact WQ_loop (j + 1, usesT nm l[j]) ⟨rfl, rfl, rfl, rfl, trivial⟩ ⟨hlt, by dsimp only; rw [hnext]; rfl, hS2.trans hS3⟩ (by dsimp only; omega)
  · have hje : j = l.length := by omega
    subst hje
    rw [List.take_length] at hq
    repeat' (first | refine W1 ?_ | (exfalso; omega) | refine WL_split rfl rfl (fun hg => ?_) (fun hg => ?_) | refine WL_splitB rfl rfl (fun hg => ?_) (fun hg => ?_) | refine WC_cond rfl (fun hc => ?_) (fun hc => ?_) | refine WC_condB rfl (fun hc => ?_) (fun hc => ?_))
    first | refine WQ_ret1 rfl rfl ?_ | refine WQ_ret2 rfl rfl rfl ?_ | refine WQ_ret3 rfl rfl rfl rfl ?_ | refine WQ_ret0 rfl ?_ | refine WQ_end0 rfl ?_
    exact .mk ⟨by rw [← hq], hS.trans hS2⟩
theorem Uses14_any (v : Value) (x : Nd) (w : World) (hok : okN x = true) (hx : NdV [] w v x) :
    Calls Tryd.prog 51 #[v] w (Ret fun r w' => SlV [] w' r (usesF x) ∧ Stp [] w w') := by
  obtain ⟨kv, rfl, hs⟩ := hx
  rw [uses_eq]
  refine calls_of_WC1 (n := 24) Tryd.func51 rfl rfl rfl ?_
  refine W ?_
  refine WL_eff (OE_box rfl) rfl ?_
  rintro _ w1 ⟨b, rfl, hbb, hblk, hS⟩
  replace hblk : Blk w1 b _ (ndC x kv) := hblk
  refine W ?_
  refine WL_eff (OE_call rfl evs0 (Fields_any [] _ (by simp))) rfl ?_
  rintro fv w2 ⟨hf, hT⟩
  replace hf := hf.slv0
  replace hblk := hblk.up hT
  replace hS := hS.trans hT
  clear hT hbb
  refine W ?_
  refine WC_loop (σ := Nat × Value) (fun q => [(1, .pointer (some ⟨b, 0, none⟩)), (3, q.2), (4, fv), (5, .int .i64 (q.1 : Int))]) (fun q w' => q.1 ≤ 7 ∧ Row [] w' w2.heap.size 3 q.2 (((List.range q.1).filter (fun i => usesT (fieldNames.getD i []) x)).map (fun (i : Nat) => (i : Int))) ∧ Stp [] w2 w') (fun q => 7 - q.1) (0, .slice none 0 0) ⟨rfl, rfl, rfl, rfl, trivial⟩ ⟨Nat.zero_le _, Row.nil, Stp.refl _ _⟩ ?_
  have hblk0 := hblk
  have hf0 := hf
  have hS0 := hS
  clear hblk hf hS
  rintro ⟨j, u⟩ w3 ⟨hj, hrow, hS2⟩
  dsimp only at hj hrow ⊢
  have hblk := hblk0.up hS2
  have hf := hf0.up hS2
  have hS := hS0.trans hS2
  have hfl : fieldNames.length = 7 := rfl
  by_cases hlt : j < 7
  · have hjl : j < fieldNames.length := by omega
    have hgd : fieldNames.getD j [] = fieldNames[j] := by simp [List.getD, hjl]
    repeat' (first | refine W1 ?_ | (exfalso; omega) | refine WL_split rfl rfl (fun hg => ?_) (fun hg => ?_) | refine WL_splitB rfl rfl (fun hg => ?_) (fun hg => ?_) | refine WC_cond rfl (fun hc => ?_) (fun hc => ?_) | refine WC_condB rfl (fun hc => ?_) (fun hc => ?_))
    refine WC_drawn 6 [] [] [(0, 1), (1, 0), (2, 0), (3, 0), (4, 1), (5, 2)] rfl mixed (by kernel_rfl) (by kernel_rfl) (by kernel_rfl) (fun w1 hS1 => ?_)
    replace hrow := hrow.up hS1
    replace hblk := hblk.up hS1
    replace hf := hf.up hS1
    replace hS2 := hS2.trans hS1
    replace hS := hS.trans hS1
    clear hS1
    refine D ?_
    refine WD_eff rfl trivial (OE_call rfl (evs2 rfl rfl) (uses14_any x _ fieldNames[j] _ hok ⟨kv, rfl, hs.up hS⟩)) (fun _ _ h => h.2) rfl ?_
    rintro _ w3 ⟨rfl, hT⟩
    replace hrow := hrow.up hT
    replace hblk := hblk.up hT
    replace hf := hf.up hT
    replace hS2 := hS2.trans hT
    replace hS := hS.trans hT
    clear hT
    refine D ?_
    cases hu : usesT fieldNames[j] x with
    | false =>
      repeat' (first | refine W1 ?_ | (exfalso; omega) | refine WL_split rfl rfl (fun hg => ?_) (fun hg => ?_) | refine WL_splitB rfl rfl (fun hg => ?_) (fun hg => ?_) | refine WC_cond rfl (fun hc => ?_) (fun hc => ?_) | refine WC_condB rfl (fun hc => ?_) (fun hc => ?_))
      exact WQ_loop (j + 1, u) ⟨rfl, rfl, rfl, rfl, trivial⟩ ⟨hlt, by dsimp only; rw [List.range_succ, List.filter_append, List.map_append, show List.filter (fun i => usesT (fieldNames.getD i []) x) [j] = [] by simp only [List.filter_cons, List.filter_nil, hgd, hu]; rfl, List.map_nil, List.append_nil]; exact hrow, hS2⟩ (by dsimp only; omega)
    | true =>
      repeat' (first | refine W1 ?_ | (exfalso; omega) | refine WL_split rfl rfl (fun hg => ?_) (fun hg => ?_) | refine WL_splitB rfl rfl (fun hg => ?_) (fun hg => ?_) | refine WC_cond rfl (fun hc => ?_) (fun hc => ?_) | refine WC_condB rfl (fun hc => ?_) (fun hc => ?_))
      refine WL_eff (OE_buildSlice (vs := [(0, .int .i64 (j : Int))]) rfl (buildSI1 _)) rfl ?_
      rintro bv w4 hN
      have hbv : SlV (ob u ++ []) w4 bv [(j : Int)] := hN.slv (fun b hb => (hrow.ob_le b (by simpa using hb)).2) rfl rfl (by simp [maxLen])
      have hT := NewSl.stp hN
      clear hN
      replace hrow := hrow.up hT
      replace hblk := hblk.up hT
      replace hf := hf.up hT
      replace hS2 := hS2.trans hT
      clear hT
      have hbase := hS2.size
      have hll : (((List.range j).filter (fun i => usesT (fieldNames.getD i []) x)).map (fun (i : Nat) => (i : Int))).length ≤ 7 := by
        rw [List.length_map]
        exact Nat.le_trans (List.length_filter_le _ _) (by simp; omega)
      refine WL_eff (OE_append (X := []) (base := w2.heap.size) rfl (by decide) rfl rfl hrow hbv (by simp only [List.length_cons, List.length_nil]; omega) (by simp only [List.length_cons, List.length_nil, maxLen]; omega) hbase) rfl ?_
      rintro u' w5 ⟨hrow', hS5, _⟩
      refine W ?_
      have hown : ∀ b ∈ ob u, b ∈ ([] : List Nat) ∨ w2.heap.size ≤ b := fun c hc => .inr (hrow.ob_le c hc).1
      exact WQ_loop (j + 1, u') ⟨rfl, rfl, rfl, rfl, trivial⟩ ⟨hlt, by dsimp only; rw [List.range_succ, List.filter_append, List.map_append, show List.filter (fun i => usesT (fieldNames.getD i []) x) [j] = [j] by simp only [List.filter_cons, List.filter_nil, hgd, hu]; rfl]; exact hrow', hS2.own hS5 hown⟩ (by dsimp only; omega)
  · have hje : j = 7 := by omega
    subst hje
    repeat' (first | refine W1 ?_ | (exfalso; omega) | refine WL_split rfl rfl (fun hg => ?_) (fun hg => ?_) | refine WL_splitB rfl rfl (fun hg => ?_) (fun hg => ?_) | refine WC_cond rfl (fun hc => ?_) (fun hc => ?_) | refine WC_condB rfl (fun hc => ?_) (fun hc => ?_))
    first | refine WQ_ret1 rfl rfl ?_ | refine WQ_ret2 rfl rfl rfl ?_ | refine WQ_ret3 rfl rfl rfl rfl ?_ | refine WQ_ret0 rfl ?_ | refine WQ_end0 rfl ?_
    exact .mk ⟨hrow.slv0, hS⟩
theorem usesLaw (v0 lv : Value) (x : Nd) (l : List Int) (a : Str) (m : Int) (w : World) (hF : SlV [] w flds fieldNames) (hm : w.cell? ⟨1, 0, none⟩ = some (.int .i64 m)) (hx : NdV [] w v0 x) (hs : SlV [] w lv l) (hl : ∀ a ∈ l, I64 a) :
    Calls Tryd.prog 13 #[v0, lv, str a] w (Ret fun r w' => r = .bool true ∧ Stp [] w w') := by
  obtain ⟨kx, rfl, hkx⟩ := hx
  refine calls_of_WC3 (n := 77) Tryd.func13 rfl rfl rfl ?_
  refine W ?_
  refine WL_eff (OE_box rfl) rfl ?_
  rintro _ w1 ⟨b3, rfl, hb3, e3, hS⟩
  replace e3 : Blk w1 b3 24 (ndC x kx) := e3
  refine W ?_
  refine WL_eff (OE_call rfl (evs2 rfl rfl) (Pruned_any [] _ x _ 14 (by decide) (by decide) (by simp) ⟨kx, rfl, hkx.up hS⟩)) rfl ?_
  rintro _ w2 ⟨y, ⟨ky, rfl, hky⟩, hsy, hT⟩
  replace hS := hS.trans hT
  clear hT e3 hb3
  refine WL_eff OE_alloc rfl ?_
  rintro _ w3 ⟨b7, rfl, hb7, e0, hT⟩
  refine WL_eff0 (OE_storeA (us := ndC y ky) rfl rfl rfl rfl (ndC_one hky) e0 rfl) ?_
  rintro _ w4 ⟨hT2, e7⟩
  replace hT := hT.own hT2 (fun b hb => .inr (by simp at hb; omega))
  clear hT2 e0 hb7
  replace hky := hky.up hT
  replace hS := hS.trans hT
  clear hT
  refine W ?_
  refine WL_eff (OE_call rfl (evs3 rfl rfl rfl) (Expr_any [] lv l 1 5 5 _ (by decide) (by decide) rfl (by unfold I64; omega) (hs.up hS) hl (by simp))) rfl ?_
  rintro _ w5 ⟨z, ⟨kz, rfl, hkz⟩, hsz, -, hT⟩
  replace hky := hky.up hT
  replace e7 := e7.up hT
  replace hS := hS.trans hT
  clear hT
  refine WL_eff OE_alloc rfl ?_
  rintro _ w6 ⟨b8, rfl, hb8, e0, hT⟩
  refine WL_eff0 (OE_storeA (us := ndC z kz) rfl rfl rfl rfl (ndC_one hkz) e0 rfl) ?_
  rintro _ w7 ⟨hT2, e8⟩
  replace hT := hT.own hT2 (fun b hb => .inr (by simp at hb; omega))
  clear hT2 e0 hb8
  replace hky := hky.up hT
  replace e7 := e7.up hT
  replace hkz := hkz.up hT
  replace hS := hS.trans hT
  clear hT
  refine W ?_
  have hbase0 : w7.heap.size ≤ w7.heap.size := Nat.le_refl _
  refine WL_eff (OE_buildSlice (vs := [(0, str a), (1, str [120]), (2, str [])]) rfl (buildSS3 _ _ _)) rfl ?_
  rintro bv w8 hN
  have hrow : Row [] w8 w7.heap.size 9 bv [a, [120], []] := hN.row hbase0 rfl rfl (by simp [maxLen])
  have hW := NewSl.stp hN
  clear hN
  refine W ?_
  refine WL_eff (OE_call rfl evs0 (Reserved_any (ob bv) _ (fun b hb => (hrow.ob_le b hb).2))) rfl ?_
  rintro rv w9 ⟨hrv, hT⟩
  replace hrv : SlV (ob bv ++ []) w9 rv (resW ++ fieldNames) := by rw [List.append_nil]; exact hrv.slv (fun b hb => (hrow.ob_le b hb).2)
  replace hrow := hrow.up hT
  replace hW := hW.trans hT
  clear hT
  have hbase := hW.size
  have hrl : (resW ++ fieldNames).length ≤ 100 := by decide +kernel
  generalize resW ++ fieldNames = RW at *
  refine WL_eff (OE_append (X := []) (base := w7.heap.size) rfl (by decide) rfl rfl hrow hrv (by simp only [List.length_cons, List.length_nil]; omega) (by simp only [List.length_cons, List.length_nil, maxLen]; omega) hbase) rfl ?_
  rintro nv w10 ⟨hrow', hT, _⟩
  replace hW := hW.own hT (fun b hb => .inr (hrow.ob_le b hb).1)
  clear hT
  have hnv := hrow'.slv0
  have hnl : ([a, [120], []] ++ RW).length ≤ 200 := by simp only [List.length_append, List.length_cons, List.length_nil]; omega
  generalize [a, [120], []] ++ RW = NM at *
  replace hky := hky.up hW
  replace hkz := hkz.up hW
  replace e7 := e7.up hW
  replace e8 := e8.up hW
  replace hS := hS.trans hW
  clear hW hrow hrow' hrv hbase hbase0
  refine W ?_
  refine WC_loop (σ := Nat) (fun q => [(7, .pointer (some ⟨b7, 0, none⟩)), (8, .pointer (some ⟨b8, 0, none⟩)), (9, nv), (10, .int .i64 (q : Int))]) (fun q w' => q ≤ NM.length ∧ Stp [] w10 w') (fun q => NM.length - q) 0 ⟨rfl, rfl, rfl, rfl, trivial⟩ ⟨Nat.zero_le _, Stp.refl _ _⟩ ?_
  rintro j w11 ⟨hj, hW⟩
  replace hky := hky.up hW
  replace hkz := hkz.up hW
  replace e7 := e7.up hW
  replace e8 := e8.up hW
  replace hnv := hnv.up hW
  replace hS := hS.trans hW
  by_cases hlt : j < NM.length
  · repeat' (first | refine W1 ?_ | (exfalso; omega) | refine WL_split rfl rfl (fun hg => ?_) (fun hg => ?_) | refine WL_splitB rfl rfl (fun hg => ?_) (fun hg => ?_) | refine WC_cond rfl (fun hc => ?_) (fun hc => ?_) | refine WC_condB rfl (fun hc => ?_) (fun hc => ?_))
    refine WL_eff (OE_call rfl (evs1 rfl) (Field_any NM[j] _ (hF.up hS))) rfl ?_
    rintro _ w12 ⟨rfl, hT⟩
    replace hnv := hnv.up hT
    replace hW := hW.trans hT
    clear hT
    refine W ?_
    refine WL_eff (OE_call rfl (evs1 rfl) (Field14_any NM[j] _)) rfl ?_
    rintro _ w13 ⟨rfl, hT⟩
    replace hW := hW.trans hT
    clear hT
    generalize fieldF NM[j] = ff at *
    obtain ⟨f1, f2, f3⟩ := ff
    repeat' (first | refine W1 ?_ | (exfalso; omega) | refine WL_split rfl rfl (fun hg => ?_) (fun hg => ?_) | refine WL_splitB rfl rfl (fun hg => ?_) (fun hg => ?_) | refine WC_cond rfl (fun hc => ?_) (fun hc => ?_) | refine WC_condB rfl (fun hc => ?_) (fun hc => ?_))
    all_goals try (exact absurd rfl (by assumption))
    exact WQ_loop (j + 1) ⟨rfl, rfl, rfl, rfl, trivial⟩ ⟨hlt, hW⟩ (by omega)
  · repeat' (first | refine W1 ?_ | (exfalso; omega) | refine WL_split rfl rfl (fun hg => ?_) (fun hg => ?_) | refine WL_splitB rfl rfl (fun hg => ?_) (fun hg => ?_) | refine WC_cond rfl (fun hc => ?_) (fun hc => ?_) | refine WC_condB rfl (fun hc => ?_) (fun hc => ?_))
    refine WC_drawn 16 [] [] [(0, 1), (2, 1), (1, 2), (3, 2), (4, 2), (5, 0), (6, 1), (8, 1), (7, 2), (9, 2), (10, 2), (11, 0), (12, 0), (13, 2), (14, 0), (15, 0)] rfl mixed (by kernel_rfl) (by kernel_rfl) (by kernel_rfl) (fun w1 hS1 => ?_)
    replace hky := hky.up hS1
    replace hkz := hkz.up hS1
    replace e7 := e7.up hS1
    replace e8 := e8.up hS1
    replace hS := hS.trans hS1
    clear hS1
    refine D ?_
    refine WD_eff rfl trivial (OE_call rfl (evs1 rfl) (Uses_any y _ _ (okN_of_size y (by omega)) ⟨_, rfl, hky⟩ (hF.up hS))) (fun _ _ h => h.2) rfl ?_
    rintro u1 w12 ⟨hu1, hT⟩
    replace hky := hky.up hT
    replace hkz := hkz.up hT
    replace e7 := e7.up hT
    replace e8 := e8.up hT
    replace hS := hS.trans hT
    clear hT
    replace hu1 := hu1.slv0.up (Stp.refl [] _)
    refine D ?_
    refine WD_eff rfl trivial (OE_call rfl (evs1 rfl) (Uses14_any _ y _ (okN_of_size y (by omega)) ⟨_, rfl, hky⟩)) (fun _ _ h => h.2) rfl ?_
    rintro u2 w13 ⟨hu2, hT⟩
    replace hky := hky.up hT
    replace hkz := hkz.up hT
    replace e7 := e7.up hT
    replace e8 := e8.up hT
    replace hu1 := hu1.up hT
    replace hS := hS.trans hT
    clear hT
    refine D ?_
    refine WD_eff rfl trivial (OE_call rfl (evs2 rfl rfl) (SameIntsL_any _ _ _ _ _ hu1 hu2)) (fun _ _ h => h.2) rfl ?_
    rintro _ w14 ⟨rfl, hT⟩
    replace hky := hky.up hT
    replace hkz := hkz.up hT
    replace e7 := e7.up hT
    replace e8 := e8.up hT
    replace hS := hS.trans hT
    clear hT
    rw [decide_eq_true (rfl : usesF y = usesF y)]
    refine D ?_
    refine WD_eff rfl rfl (OE_call rfl (evs1 rfl) (Uses_any z _ _ (okN_of_size z (by omega)) ⟨_, rfl, hkz⟩ (hF.up hS))) (fun _ _ h => h.2) rfl ?_
    rintro u3 w15 ⟨hu3, hT⟩
    replace hky := hky.up hT
    replace hkz := hkz.up hT
    replace e7 := e7.up hT
    replace e8 := e8.up hT
    replace hS := hS.trans hT
    clear hT
    replace hu3 := hu3.slv0
    refine D ?_
    refine WD_eff rfl rfl (OE_call rfl (evs1 rfl) (Uses14_any _ z _ (okN_of_size z (by omega)) ⟨_, rfl, hkz⟩)) (fun _ _ h => h.2) rfl ?_
    rintro u4 w16 ⟨hu4, hT⟩
    replace hky := hky.up hT
    replace hkz := hkz.up hT
    replace e7 := e7.up hT
    replace e8 := e8.up hT
    replace hu3 := hu3.up hT
    replace hS := hS.trans hT
    clear hT
    refine D ?_
    refine WD_eff rfl rfl (OE_call rfl (evs2 rfl rfl) (SameIntsL_any _ _ _ _ _ hu3 hu4)) (fun _ _ h => h.2) rfl ?_
    rintro _ w17 ⟨rfl, hT⟩
    replace hky := hky.up hT
    replace hkz := hkz.up hT
    replace e7 := e7.up hT
    replace e8 := e8.up hT
    replace hS := hS.trans hT
    clear hT
    rw [decide_eq_true (rfl : usesF z = usesF z)]
    refine D ?_
    refine WD_eff rfl rfl (OE_call rfl (evs0) (lives14_any m _ (hF.up hS) (hS.cell (by simp) hm))) (fun _ _ h => h.2) rfl ?_
    rintro _ w18 ⟨rfl, hT⟩
    replace hky := hky.up hT
    replace hkz := hkz.up hT
    replace e7 := e7.up hT
    replace e8 := e8.up hT
    replace hS := hS.trans hT
    clear hT
    refine D ?_
    refine W ?_
    first | refine WQ_ret1 rfl rfl ?_ | refine WQ_ret2 rfl rfl rfl ?_ | refine WQ_ret3 rfl rfl rfl rfl ?_ | refine WQ_ret0 rfl ?_ | refine WQ_end0 rfl ?_
    exact .mk ⟨rfl, hS⟩
end Go.Proofs.YtfjmlobgjdmecaaDoor
namespace Go.Eng
open Go Go.RowKit
theorem Row.drop {α : Type} [GoRep α] {X : List Nat} {w : World} {base T : Nat} {v : Value} {xs : List α} (h : Row X w base T v xs) : SlV [] w v xs :=
  (h.ext (S := []) (X' := []) (Stp.refl [] w) (by simp) (by simp)).slv (by simp)
end Go.Eng
namespace Go.Proofs.YtfjmlobgjdmecaaDoor
open Go Go.Eng Go.RowKit
set_option linter.unusedVariables false
theorem buildN012 (k n : Int) (s : Str) (w : World) : (Instr.build 24 #[(0, .int .i64 k), (1, .int .i64 n), (2, str s)]).run Tryd.prog w = .ok (.agg #[.int .i64 k, .int .i64 n, str s, .slice none 0 0]) w := by kernel_rfl
theorem OfL14_any (v : Value) (x : Nd) (t e : Int) (w : World) (hok : okN x = true) (hn : nestN x ≤ 1000000) (hx : NdV [] w v x) (h1 : (if nestN x ≤ 12 then typeT x else 0) = t) (h2 : (if nestN x ≤ 12 then (if typeT x = 0 then 21 else 0) else 2) = e) :
    Calls Tryd.prog 37 #[v] w (Ret fun r w' => r = .tuple #[.int .i64 t, .int .i64 e] ∧ Stp [] w w') := by
  have := Of14_any [] v x w hok hn hx
  rw [h1, h2] at this
  exact this
set_option maxHeartbeats 1000000 in
theorem leavesLaw (kd n zc m : Int) (s : Str) (lv : Value) (l : List Int) (w : World) (hF : SlV [] w flds fieldNames) (hm : w.cell? ⟨1, 0, none⟩ = some (.int .i64 m)) (hkd : I64 kd) (hzc : I64 zc) (hs : SlV [] w lv l) (hl : ∀ a ∈ l, I64 a) :
    Calls Tryd.prog 10 #[.int .i64 kd, .int .i64 n, str s, lv, .int .i64 zc] w (Ret fun r w' => r = .bool true ∧ Stp [] w w') := by
  refine calls_of_WC5 (n := 96) Tryd.func10 rfl rfl rfl ?_
  refine W ?_
  apply WL_build (vs := [(0, .int .i64 kd), (1, .int .i64 n), (2, str s)]) rfl (buildN012 _ _ _) rfl
  refine WL_eff OE_alloc rfl ?_
  rintro _ w1 ⟨b11, rfl, hb11, e0, hT⟩
  refine WL_eff0 (OE_storeA (us := ndC (.mk kd n s []) nilS) rfl rfl rfl rfl (ndC_one (x := .mk kd n s []) (nilSlv (α := Nd) [] w)) e0 rfl) ?_
  rintro _ w2 ⟨hT2, e11⟩
  have hS := hT.own hT2 (fun b hb => .inr (by simp at hb; omega))
  clear hT hT2 e0
  refine W ?_
  refine WL_eff (OE_call rfl (evs2 rfl rfl) (Around01_any kd 10 _ (by decide) hkd)) rfl ?_
  rintro _ w3 ⟨rfl, hT⟩
  have hr := around_range (if kd < 0 then -(kd + 1) else kd) 10 (by decide)
  generalize (if kd < 0 then -(kd + 1) else kd) % 10 = k0 at *
  replace e11 := e11.up hT
  replace hS := hS.trans hT
  clear hT
  refine W ?_
  apply WL_build (vs := [(0, .int .i64 (1 + k0)), (2, str s)]) rfl (buildN02 _ _) rfl
  refine WL_eff OE_alloc rfl ?_
  rintro _ w4 ⟨b12, rfl, hb12, e0, hT⟩
  have n12 : b11 ≠ b12 := by have := e11.lt; omega
  have hb12w : w.heap.size ≤ b12 := Nat.le_trans hS.size hb12
  refine WL_eff0 (OE_storeA (us := ndC (.mk (1 + k0) 0 s []) nilS) rfl rfl rfl rfl (ndC_one (x := .mk (1 + k0) 0 s []) (nilSlv (α := Nd) [] w)) e0 rfl) ?_
  rintro _ w5 ⟨hT2, e12⟩
  replace hT := hT.own hT2 (fun b hb => .inr (by simp at hb; omega))
  clear hT2 e0 hb12
  replace e11 := e11.up hT
  replace hS := hS.trans hT
  clear hT
  have l11 := e11.lt
  have l12 := e12.lt
  refine W ?_
  refine WC_loop (σ := Nat × Value × Value × List Nd) (fun q => [(3, lv), (4, .int .i64 zc), (11, .pointer (some ⟨b11, 0, none⟩)), (12, .pointer (some ⟨b12, 0, none⟩)), (13, .int .i64 (q.1 : Int))])
    (fun q w' => q.1 ≤ 3 ∧ q.2.2.2.length = q.1 ∧ (∀ y ∈ q.2.2.2, sizeN y ≤ 400) ∧ Row (ob q.2.2.1 ++ [b11, b12]) w' w5.heap.size 24 q.2.1 q.2.2.2 ∧ Row (ob q.2.1 ++ [b11, b12]) w' w5.heap.size 24 q.2.2.1 q.2.2.2 ∧ (∀ b ∈ ob q.2.1, b ∉ ob q.2.2.1) ∧ Blk w' b11 24 (ndC (.mk kd n s q.2.2.2) q.2.1) ∧ Blk w' b12 24 (ndC (.mk (1 + k0) 0 s q.2.2.2) q.2.2.1) ∧ Stp [b11, b12] w5 w')
    (fun q => 3 - q.1) (0, nilS, nilS, []) ⟨rfl, rfl, rfl, rfl, rfl, trivial⟩ ⟨Nat.zero_le _, rfl, by simp, Row.nil, Row.nil, by simp [ob], e11, e12, Stp.refl _ _⟩ ?_
  clear e11 e12
  rintro ⟨j, u1, u2, L⟩ w6 ⟨hj, hL, hLs, hr1, hr2, hd, e11, e12, hW⟩
  dsimp only at hj hL hLs hr1 hr2 hd e11 e12 ⊢
  have hSw : Stp [] w w6 := hS.own hW (fun b hb => .inr (by simp at hb; omega))
  refine W ?_
  refine WL_eff (OE_call rfl (evs2 rfl rfl) (Around01_any zc 4 _ (by decide) hzc)) rfl ?_
  rintro _ w7 ⟨rfl, hT⟩
  have hq := around_range (if zc < 0 then -(zc + 1) else zc) 4 (by decide)
  generalize (if zc < 0 then -(zc + 1) else zc) % 4 = kz at *
  replace hr1 := hr1.up hT
  replace hr2 := hr2.up hT
  replace e11 := e11.up hT
  replace e12 := e12.up hT
  replace hW := hW.trans (hT.mono (by simp))
  replace hSw := hSw.trans hT
  clear hT
  by_cases hlt : (j : Int) < kz
  · repeat' (first | refine W1 ?_ | (exfalso; omega) | refine WL_split rfl rfl (fun hg => ?_) (fun hg => ?_) | refine WL_splitB rfl rfl (fun hg => ?_) (fun hg => ?_) | refine WC_cond rfl (fun hc => ?_) (fun hc => ?_) | refine WC_condB rfl (fun hc => ?_) (fun hc => ?_))
    refine WL_eff (OE_call rfl (evs3 rfl rfl rfl) (Pick01_any [] _ l j 3 _ (by decide) (by unfold I64; omega) (hs.up hSw) hl)) rfl ?_
    rintro _ w8 ⟨q, rfl, hq3, hT⟩
    replace hr1 := hr1.up hT
    replace hr2 := hr2.up hT
    replace e11 := e11.up hT
    replace e12 := e12.up hT
    replace hW := hW.trans (hT.mono (by simp))
    replace hSw := hSw.trans hT
    clear hT
    refine W ?_
    have hXX : ∀ b ∈ ob u1 ++ (ob u2 ++ [b11, b12]), b < w8.heap.size := fun b hb => by
      simp only [List.mem_append, List.mem_cons, List.not_mem_nil, or_false] at hb
      rcases hb with h | h | h | h
      · exact (hr1.ob_le b h).2
      · exact (hr2.ob_le b h).2
      · rw [h]; exact e11.lt
      · rw [h]; exact e12.lt
    refine WL_eff (OE_call rfl (evs3 rfl rfl rfl) (Expr_any (ob u1 ++ (ob u2 ++ [b11, b12])) lv l (q : Int) 2 2 _ (by decide) (by decide) rfl (by unfold I64; omega) (hs.up hSw) hl hXX)) rfl ?_
    rintro _ w9 ⟨y, ⟨ky, rfl, hy⟩, hsy, -, hT⟩
    have hT0 := hT.size
    replace hr1 := hr1.up hT
    replace hr2 := hr2.up hT
    replace e11 := e11.up hT
    replace e12 := e12.up hT
    replace hW := hW.trans (hT.mono (by simp))
    replace hSw := hSw.trans hT
    clear hT
    replace hXX := fun b hb => Nat.lt_of_lt_of_le (hXX b hb) hT0
    refine WL_eff OE_alloc rfl ?_
    rintro _ w10 ⟨b14, rfl, hb14, e0, hT⟩
    refine WL_eff0 (OE_storeA (us := ndC y ky) rfl rfl rfl rfl (ndC_one hy) e0 rfl) ?_
    rintro _ w11 ⟨hT2, e14⟩
    replace hT := hT.own hT2 (fun b hb => .inr (by simp at hb; omega))
    have n14 : ∀ b ∈ ob u1 ++ (ob u2 ++ [b11, b12]), b < b14 := fun b hb => Nat.lt_of_lt_of_le (hXX b hb) hb14
    clear hT2 e0 hb14
    have hT0 := hT.size
    replace hy := hy.up hT
    replace hr1 := hr1.up hT
    replace hr2 := hr2.up hT
    replace e11 := e11.up hT
    replace e12 := e12.up hT
    replace hW := hW.trans (hT.mono (by simp))
    replace hSw := hSw.trans hT
    clear hT
    replace hXX := fun b hb => Nat.lt_of_lt_of_le (hXX b hb) hT0
    clear hT0
    obtain ⟨p0, c0, rfl, -⟩ := id hy
    refine W ?_
    refine W ?_
    refine WL_eff (OE_buildSlice (vs := [(0, .agg (ndC y (.slice p0 y.kids.length c0)).toArray)]) rfl (buildSN1 _ _ _ _ _ _)) rfl ?_
    rintro bv w12 hN
    have hbv : SlV (ob u1 ++ (ob u2 ++ [b11, b12])) w12 bv [y] := hN.slvG (css := [ndC y _]) hXX rfl rfl rfl (reps1 hy) (by simp [maxLen])
    have hT := NewSl.stp hN
    clear hN
    have hT0 := hT.size
    replace hXX := fun b hb => Nat.lt_of_lt_of_le (hXX b hb) hT0
    clear hT0
    replace hy := hy.up hT
    replace e14 := e14.up hT
    replace hr1 := hr1.up hT
    replace hr2 := hr2.up hT
    replace e11 := e11.up hT
    replace e12 := e12.up hT
    replace hW := hW.trans (hT.mono (by simp))
    replace hSw := hSw.trans hT
    clear hT
    have hbase := hW.size
    have hbase2 := hS.size
    refine WL_eff (OE_append (X := ob u2 ++ [b11, b12]) (base := w5.heap.size) rfl (by decide) rfl rfl hr1 hbv (by simp only [List.length_cons, List.length_nil]; omega) (by simp only [List.length_cons, List.length_nil, maxLen]; omega) hbase) rfl ?_
    rintro x1 w13 ⟨hrv, hT, hown⟩
    have ho1 := hr1.ob_le
    have ho2 := hr2.ob_le
    have hov := hrv.ob_le
    clear hr1
    replace hr2 := hr2.ext (X' := ob x1 ++ [b11, b12]) hT (fun b hb => ⟨by simp [hb], hd b hb⟩) (fun b hb => by
      simp only [List.mem_append] at hb ⊢
      rcases hb with h | h
      · rcases hown b h with h' | h'
        · exact .inl (.inl h')
        · exact .inr h'
      · exact .inl (.inr h))
    have hd' : ∀ b ∈ ob x1, b ∉ ob u2 := fun b hb h2 => by
      rcases hown b hb with h | h
      · exact hd b h h2
      · have := (ho2 b h2).2; omega
    replace hy := hy.ext (X' := ob u2 ++ (ob x1 ++ [b11, b12])) hT (fun b hb => by simp [hb]) (fun b hb => by
      simp only [List.mem_append] at hb ⊢
      rcases hb with h | h | h
      · exact .inl (.inr (.inl h))
      · rcases hown b h with h' | h'
        · exact .inl (.inl h')
        · exact .inr h'
      · exact .inl (.inr (.inr h)))
    replace e11 := e11.ext hT (fun h => by have := (ho1 _ h).1; omega)
    replace e12 := e12.ext hT (fun h => by have := (ho1 _ h).1; omega)
    replace e14 := e14.ext hT (fun h => by have := n14 b14 (by simp [h]); omega)
    replace hW := hW.own hT (fun b hb => .inr (ho1 b hb).1)
    replace hSw := hSw.own hT (fun b hb => .inr (by have := (ho1 b hb).1; omega))
    have hXX : ∀ b ∈ ob u2 ++ (ob x1 ++ [b11, b12]), b < w13.heap.size := fun b hb => by
      simp only [List.mem_append, List.mem_cons, List.not_mem_nil, or_false] at hb
      rcases hb with h | h | h | h
      · exact (hr2.ob_le b h).2
      · exact (hov b h).2
      · rw [h]; exact e11.lt
      · rw [h]; exact e12.lt
    clear hT hbv
    have hcv : x1.cells.toList = [x1] := by
      obtain ⟨p, c, h, -⟩ := id hrv.drop
      rw [h]; rfl
    refine W ?_
    refine WL_eff0 (OE_store1 (o := 3) (u := x1) rfl rfl hcv hrv.drop.one e11 (by simp)) ?_
    rintro _ w14 ⟨hT, e11⟩
    replace e11 : Blk w14 b11 24 (ndC (.mk kd n s (L ++ [y])) x1) := e11
    replace hXX := fun b hb => Nat.lt_of_lt_of_le (hXX b hb) hT.size
    replace hrv := hrv.ext (X' := ob u2 ++ [b11, b12]) hT (fun b hb => ⟨by simp at hb; simp [hb], fun h => by have := (hov _ h).1; simp at hb; omega⟩) (fun b hb => .inl hb)
    replace hr2 := hr2.ext (X' := ob x1 ++ [b11, b12]) hT (fun b hb => ⟨by simp at hb; simp [hb], fun h => by have := (ho2 _ h).1; simp at hb; omega⟩) (fun b hb => .inl hb)
    replace hy := hy.ext hT (fun b hb => by simp at hb; simp [hb]) (fun _ h => .inl h)
    replace e12 := e12.ext hT (by simp; omega)
    replace e14 := e14.ext hT (by have := n14 b11 (by simp); simp; omega)
    replace hW := hW.trans (hT.mono (by simp))
    replace hSw := hSw.own hT (fun b hb => .inr (by simp at hb; omega))
    clear hT hown hbase hbase2 ho1 ho2 hov hcv
    have hr1 := hrv
    replace hd := hd'
    clear hrv hd'
    refine W ?_
    refine WL_eff (OE_buildSlice (vs := [(0, .agg (ndC y (.slice p0 y.kids.length c0)).toArray)]) rfl (buildSN1 _ _ _ _ _ _)) rfl ?_
    rintro bv w12 hN
    have hbv : SlV (ob u2 ++ (ob x1 ++ [b11, b12])) w12 bv [y] := hN.slvG (css := [ndC y _]) hXX rfl rfl rfl (reps1 hy) (by simp [maxLen])
    have hT := NewSl.stp hN
    clear hN
    have hT0 := hT.size
    replace hXX := fun b hb => Nat.lt_of_lt_of_le (hXX b hb) hT0
    clear hT0
    replace hy := hy.up hT
    replace e14 := e14.up hT
    replace hr1 := hr1.up hT
    replace hr2 := hr2.up hT
    replace e11 := e11.up hT
    replace e12 := e12.up hT
    replace hW := hW.trans (hT.mono (by simp))
    replace hSw := hSw.trans hT
    clear hT
    have hbase := hW.size
    have hbase2 := hS.size
    refine WL_eff (OE_append (X := ob x1 ++ [b11, b12]) (base := w5.heap.size) rfl (by decide) rfl rfl hr2 hbv (by simp only [List.length_cons, List.length_nil]; omega) (by simp only [List.length_cons, List.length_nil, maxLen]; omega) hbase) rfl ?_
    rintro x2 w13 ⟨hrv, hT, hown⟩
    have ho1 := hr2.ob_le
    have ho2 := hr1.ob_le
    have hov := hrv.ob_le
    clear hr2
    replace hr1 := hr1.ext (X' := ob x2 ++ [b11, b12]) hT (fun b hb => ⟨by simp [hb], fun h => hd b h hb⟩) (fun b hb => by
      simp only [List.mem_append] at hb ⊢
      rcases hb with h | h
      · rcases hown b h with h' | h'
        · exact .inl (.inl h')
        · exact .inr h'
      · exact .inl (.inr h))
    have hd' : ∀ b ∈ ob x2, b ∉ ob x1 := fun b hb h2 => by
      rcases hown b hb with h | h
      · exact hd b h2 h
      · have := (ho2 b h2).2; omega
    replace hy := hy.ext (X' := ob x1 ++ (ob x2 ++ [b11, b12])) hT (fun b hb => by simp [hb]) (fun b hb => by
      simp only [List.mem_append] at hb ⊢
      rcases hb with h | h | h
      · exact .inl (.inr (.inl h))
      · rcases hown b h with h' | h'
        · exact .inl (.inl h')
        · exact .inr h'
      · exact .inl (.inr (.inr h)))
    replace e11 := e11.ext hT (fun h => by have := (ho1 _ h).1; omega)
    replace e12 := e12.ext hT (fun h => by have := (ho1 _ h).1; omega)
    replace e14 := e14.ext hT (fun h => by have := n14 b14 (by simp [h]); omega)
    replace hW := hW.own hT (fun b hb => .inr (ho1 b hb).1)
    replace hSw := hSw.own hT (fun b hb => .inr (by have := (ho1 b hb).1; omega))
    have hXX : ∀ b ∈ ob x1 ++ (ob x2 ++ [b11, b12]), b < w13.heap.size := fun b hb => by
      simp only [List.mem_append, List.mem_cons, List.not_mem_nil, or_false] at hb
      rcases hb with h | h | h | h
      · exact (hr1.ob_le b h).2
      · exact (hov b h).2
      · rw [h]; exact e11.lt
      · rw [h]; exact e12.lt
    clear hT hbv
    have hcv : x2.cells.toList = [x2] := by
      obtain ⟨p, c, h, -⟩ := id hrv.drop
      rw [h]; rfl
    refine W ?_
    refine WL_eff0 (OE_store1 (o := 3) (u := x2) rfl rfl hcv hrv.drop.one e12 (by simp)) ?_
    rintro _ w14 ⟨hT, e12⟩
    replace e12 : Blk w14 b12 24 (ndC (.mk (1 + k0) 0 s (L ++ [y])) x2) := e12
    replace hXX := fun b hb => Nat.lt_of_lt_of_le (hXX b hb) hT.size
    replace hrv := hrv.ext (X' := ob x1 ++ [b11, b12]) hT (fun b hb => ⟨by simp at hb; simp [hb], fun h => by have := (hov _ h).1; simp at hb; omega⟩) (fun b hb => .inl hb)
    replace hr1 := hr1.ext (X' := ob x2 ++ [b11, b12]) hT (fun b hb => ⟨by simp at hb; simp [hb], fun h => by have := (ho2 _ h).1; simp at hb; omega⟩) (fun b hb => .inl hb)
    replace hy := hy.ext hT (fun b hb => by simp at hb; simp [hb]) (fun _ h => .inl h)
    replace e11 := e11.ext hT (by simp; omega)
    replace e14 := e14.ext hT (by have := n14 b12 (by simp); simp; omega)
    replace hW := hW.trans (hT.mono (by simp))
    replace hSw := hSw.own hT (fun b hb => .inr (by simp at hb; omega))
    clear hT hown hbase hbase2 ho1 ho2 hov hcv
    refine W ?_
    exact WQ_loop (j + 1, x1, x2, L ++ [y]) ⟨rfl, rfl, rfl, rfl, rfl, trivial⟩ ⟨by dsimp only; omega, by simp [hL], fun z hz => by
      rcases List.mem_append.1 hz with h | h
      · exact hLs z h
      · rw [List.mem_singleton.1 h]; exact hsy, hr1, hrv, fun b hb h => hd' b h hb, e11, e12, hW⟩ (by dsimp only; omega)
  · have d1 := hr1.drop
    have d2 := hr2.drop
    have hok : ∀ k n s, okN (.mk k n s L) = true := fun k n s => (okN_iff _).2 ⟨by show L.length ≤ 1000; omega, fun y hy => okN_of_size y (by have := hLs y hy; omega)⟩
    have hn : ∀ k n s, nestN (.mk k n s L) ≤ 1000000 := fun k n s => by
      rw [nestN_eq]
      have : ((Nd.mk k n s L).kids.map nestN).foldl max 0 ≤ 400 := (foldl_max_le _ _ _).2 ⟨by omega, fun x hx => by
        obtain ⟨y, hy, rfl⟩ := List.mem_map.1 hx
        exact Nat.le_trans (nest_le_size y) (hLs y hy)⟩
      omega
    obtain ⟨T1, hT1⟩ : ∃ t, (if nestN (.mk kd n s L) ≤ 12 then typeT (.mk kd n s L) else 0) = t := ⟨_, rfl⟩
    obtain ⟨E1, hE1⟩ : ∃ t, (if nestN (.mk kd n s L) ≤ 12 then (if typeT (.mk kd n s L) = 0 then (21 : Int) else 0) else 2) = t := ⟨_, rfl⟩
    obtain ⟨T2, hT2⟩ : ∃ t, (if nestN (.mk (1 + k0) 0 s L) ≤ 12 then typeT (.mk (1 + k0) 0 s L) else 0) = t := ⟨_, rfl⟩
    obtain ⟨E2, hE2⟩ : ∃ t, (if nestN (.mk (1 + k0) 0 s L) ≤ 12 then (if typeT (.mk (1 + k0) 0 s L) = 0 then (21 : Int) else 0) else 2) = t := ⟨_, rfl⟩
    repeat' (first | refine W1 ?_ | (exfalso; omega) | refine WL_split rfl rfl (fun hg => ?_) (fun hg => ?_) | refine WL_splitB rfl rfl (fun hg => ?_) (fun hg => ?_) | refine WC_cond rfl (fun hc => ?_) (fun hc => ?_) | refine WC_condB rfl (fun hc => ?_) (fun hc => ?_))
    refine WL_eff (OE_call rfl (evs1 rfl) (OfL_any _ (.mk kd n s L) T1 E1 _ ⟨u1, rfl, d1⟩ (hF.up hSw) hT1 hE1)) rfl ?_
    rintro _ w8 ⟨rfl, hT⟩
    replace d1 := d1.up hT
    replace d2 := d2.up hT
    replace e11 := e11.up hT
    replace e12 := e12.up hT
    replace hSw := hSw.trans hT
    clear hT
    repeat' (first | refine W1 ?_ | (exfalso; omega) | refine WL_split rfl rfl (fun hg => ?_) (fun hg => ?_) | refine WL_splitB rfl rfl (fun hg => ?_) (fun hg => ?_) | refine WC_cond rfl (fun hc => ?_) (fun hc => ?_) | refine WC_condB rfl (fun hc => ?_) (fun hc => ?_))
    all_goals try (exact absurd rfl (by assumption))
    refine WL_eff (OE_call rfl (evs1 rfl) (OfL14_any _ (.mk kd n s L) T1 E1 _ (hok _ _ _) (hn _ _ _) ⟨u1, rfl, d1⟩ hT1 hE1)) rfl ?_
    rintro _ w8 ⟨rfl, hT⟩
    replace d1 := d1.up hT
    replace d2 := d2.up hT
    replace e11 := e11.up hT
    replace e12 := e12.up hT
    replace hSw := hSw.trans hT
    clear hT
    repeat' (first | refine W1 ?_ | (exfalso; omega) | refine WL_split rfl rfl (fun hg => ?_) (fun hg => ?_) | refine WL_splitB rfl rfl (fun hg => ?_) (fun hg => ?_) | refine WC_cond rfl (fun hc => ?_) (fun hc => ?_) | refine WC_condB rfl (fun hc => ?_) (fun hc => ?_))
    all_goals try (exact absurd rfl (by assumption))
    refine WL_eff (OE_call rfl (evs1 rfl) (OfL_any _ (.mk (1 + k0) 0 s L) T2 E2 _ ⟨u2, rfl, d2⟩ (hF.up hSw) hT2 hE2)) rfl ?_
    rintro _ w8 ⟨rfl, hT⟩
    replace d1 := d1.up hT
    replace d2 := d2.up hT
    replace e11 := e11.up hT
    replace e12 := e12.up hT
    replace hSw := hSw.trans hT
    clear hT
    repeat' (first | refine W1 ?_ | (exfalso; omega) | refine WL_split rfl rfl (fun hg => ?_) (fun hg => ?_) | refine WL_splitB rfl rfl (fun hg => ?_) (fun hg => ?_) | refine WC_cond rfl (fun hc => ?_) (fun hc => ?_) | refine WC_condB rfl (fun hc => ?_) (fun hc => ?_))
    all_goals try (exact absurd rfl (by assumption))
    refine WL_eff (OE_call rfl (evs1 rfl) (OfL14_any _ (.mk (1 + k0) 0 s L) T2 E2 _ (hok _ _ _) (hn _ _ _) ⟨u2, rfl, d2⟩ hT2 hE2)) rfl ?_
    rintro _ w8 ⟨rfl, hT⟩
    replace d1 := d1.up hT
    replace d2 := d2.up hT
    replace e11 := e11.up hT
    replace e12 := e12.up hT
    replace hSw := hSw.trans hT
    clear hT
    repeat' (first | refine W1 ?_ | (exfalso; omega) | refine WL_split rfl rfl (fun hg => ?_) (fun hg => ?_) | refine WL_splitB rfl rfl (fun hg => ?_) (fun hg => ?_) | refine WC_cond rfl (fun hc => ?_) (fun hc => ?_) | refine WC_condB rfl (fun hc => ?_) (fun hc => ?_))
    all_goals try (exact absurd rfl (by assumption))
    refine WL_eff (OE_call rfl evs0 (lives14_any m _ (hF.up hSw) (hSw.cell (by simp) hm))) rfl ?_
    rintro _ w9 ⟨rfl, hT⟩
    refine W ?_
    first | refine WQ_ret1 rfl rfl ?_ | refine WQ_ret2 rfl rfl rfl ?_ | refine WQ_ret3 rfl rfl rfl rfl ?_ | refine WQ_ret0 rfl ?_ | refine WQ_end0 rfl ?_
    exact .mk ⟨rfl, hSw.trans hT⟩
end Go.Proofs.YtfjmlobgjdmecaaDoor
