/-
Merged by program out of own texts: Chk1, Use2, Lvs1, Ckc1, Flt1, Flt2, Eng18, Wir0, Wir1, Wir2, Wir3, Enc1, Chks, Arg17.
-/
import Derived.Test.YtfjmlobgjdmecaaDoorM5
import Derived.Laws.BitsAllLaws
import Derived.Laws.Bits64
import Derived.Lib.SlBytesRow
import Derived.Lib.AppendStr
import Derived.Laws.BytesArg
import Derived.Laws.Cover3
namespace Go.Proofs.YtfjmlobgjdmecaaDoor
open Go Go.Eng Go.RowKit
set_option linter.unusedVariables false
theorem checkLaw (lv : Value) (l : List Int) (n z m : Int) (a : Str) (v4 : Value) (x : Nd) (w : World) (hF : SlV [] w flds fieldNames) (hm : w.cell? ⟨1, 0, none⟩ = some (.int .i64 m)) (hs : SlV [] w lv l) (hl : ∀ a ∈ l, I64 a) (hn : I64 n) (hz : I64 z) (hx : NdV [] w v4 x) :
    Calls Tryd.prog 12 #[lv, .int .i64 n, str a, .int .i64 z, v4] w (Ret fun r w' => r = .bool true ∧ Stp [] w w') := by
  obtain ⟨kx, rfl, hkx⟩ := hx
  refine calls_of_WC5 (n := 75) Tryd.func12 rfl rfl rfl ?_
  refine W ?_
  refine WL_eff (OE_box rfl) rfl ?_
  rintro _ w1 ⟨b9, rfl, hb9, e9, hS⟩
  replace e9 : Blk w1 b9 24 (ndC x kx) := e9
  replace hkx := hkx.up hS
  clear hb9
  refine W ?_
  refine WL_eff (OE_call rfl (evs1 rfl) (Rule14_any [] lv l _ (hs.up hS) hl (by simp))) rfl ?_
  rintro _ w1 ⟨r, ⟨ki, kd, rfl, hi, hd⟩, hz1, hz2, hck, hT⟩
  replace hkx := hkx.up hT
  replace e9 := e9.up hT
  replace hS := hS.trans hT
  clear hT
  refine WL_eff OE_alloc rfl ?_
  rintro _ w2 ⟨b11, rfl, hb, e0, hT⟩
  have n9 : b9 ≠ b11 := by have := e9.lt; omega
  have hbw : w.heap.size ≤ b11 := Nat.le_trans hS.size hb
  refine WL_eff0 (OE_storeA (us := rlC r ki kd) rfl rfl rfl rfl (rlC_one r hi hd) e0 rfl) ?_
  rintro _ w3 ⟨hT2, e11⟩
  replace hi := (hi.ext (X' := [b11]) hT (by simp) (fun b h => by simp at h; subst h; exact .inr hb)).ext hT2 (by simp) (fun _ h => .inl h)
  replace hd := (hd.ext (X' := [b11]) hT (by simp) (fun b h => by simp at h; subst h; exact .inr hb)).ext hT2 (by simp) (fun _ h => .inl h)
  replace hkx := (hkx.ext (X' := [b11]) hT (by simp) (fun b h => by simp at h; subst h; exact .inr hb)).ext hT2 (by simp) (fun _ h => .inl h)
  replace e9 := (e9.up hT).ext hT2 (by simp; exact n9)
  replace hS := hS.trans (hT.own hT2 (fun b hb => .inr (by simp at hb; omega)))
  clear hT hT2 hb e0
  refine W ?_
  refine WL_eff (OE_call rfl (evs1 rfl) (CheckL_any _ r 0 m _ ⟨_, _, rfl, hi.wk (by simp), hd.wk (by simp)⟩ (hF.up hS) (hS.cell (by simp) hm) hck)) rfl ?_
  rintro _ w4 ⟨rfl, hT⟩
  replace hi := hi.ext hT (by simp) (fun _ h => .inl h)
  replace hd := hd.ext hT (by simp) (fun _ h => .inl h)
  replace hkx := hkx.ext hT (by simp) (fun _ h => .inl h)
  replace e9 := e9.up hT
  replace e11 := e11.up hT
  replace hS := hS.trans hT
  clear hT
  repeat' (first | refine W1 ?_ | (exfalso; omega) | refine WL_split rfl rfl (fun hg => ?_) (fun hg => ?_) | refine WL_splitB rfl rfl (fun hg => ?_) (fun hg => ?_) | refine WC_cond rfl (fun hc => ?_) (fun hc => ?_) | refine WC_condB rfl (fun hc => ?_) (fun hc => ?_))
  refine WL_eff (OE_call rfl (evs2 rfl rfl) (Around01_any z 60 _ (by decide) hz)) rfl ?_
  rintro _ w4 ⟨rfl, hT⟩
  have hk0 := (around_range (if z < 0 then -(z + 1) else z) 60 (by decide)).1
  generalize (if z < 0 then -(z + 1) else z) % 60 = k0 at *
  replace hi := hi.ext hT (by simp) (fun _ h => .inl h)
  replace hd := hd.ext hT (by simp) (fun _ h => .inl h)
  replace hkx := hkx.ext hT (by simp) (fun _ h => .inl h)
  replace e9 := e9.up hT
  replace e11 := e11.up hT
  replace hS := hS.trans hT
  clear hT
  refine W ?_
  refine WL_eff (OE_call rfl evs0 (Reserved_any [] _ (by simp))) rfl ?_
  rintro rv w4 ⟨hrv, hT⟩
  replace hrv := hrv.slv0
  replace hi := hi.ext hT (by simp) (fun _ h => .inl h)
  replace hd := hd.ext hT (by simp) (fun _ h => .inl h)
  replace hkx := hkx.ext hT (by simp) (fun _ h => .inl h)
  replace e9 := e9.up hT
  replace e11 := e11.up hT
  replace hS := hS.trans hT
  clear hT
  refine W ?_
  refine WC_cutQ (σ := Str) (fun q => [(0, lv), (1, .int .i64 n), (3, .int .i64 z), (9, .pointer (some ⟨b9, 0, none⟩)), (11, .pointer (some ⟨b11, 0, none⟩)), (12, str q)]) (fun q w' => SlV [b11] w' ki r.cnd.kids ∧ SlV [b11] w' kd r.due.kids ∧ SlV [b11] w' kx x.kids ∧ Blk w' b9 24 (ndC x kx) ∧ Blk w' b11 50 (rlC r ki kd) ∧ Stp [] w w') ?_ ?_
  · repeat' (first | refine W1 ?_ | (exfalso; omega) | refine WL_split rfl rfl (fun hg => ?_) (fun hg => ?_) | refine WL_splitB rfl rfl (fun hg => ?_) (fun hg => ?_) | refine WC_cond rfl (fun hc => ?_) (fun hc => ?_) | refine WC_condB rfl (fun hc => ?_) (fun hc => ?_))
    · refine WL_eff (OE_call rfl evs0 (Reserved_any [] _ (by simp))) rfl ?_
      rintro rv2 w5 ⟨hrv2, hT⟩
      replace hrv2 := hrv2.slv0
      replace hi := hi.ext hT (by simp) (fun _ h => .inl h)
      replace hd := hd.ext hT (by simp) (fun _ h => .inl h)
      replace hkx := hkx.ext hT (by simp) (fun _ h => .inl h)
      replace e9 := e9.up hT
      replace e11 := e11.up hT
      replace hS := hS.trans hT
      clear hT
      obtain ⟨k1, rfl⟩ : ∃ k1 : Nat, k0 = (k1 : Int) := ⟨k0.toNat, by omega⟩
      have hk1 : k1 < (resW ++ fieldNames).length := by omega
      refine W ?_
      exact WQ_cut (resW ++ fieldNames)[k1] ⟨rfl, rfl, rfl, rfl, rfl, rfl, trivial⟩ ⟨hi, hd, hkx, e9, e11, hS⟩
    · exact WQ_cut a ⟨rfl, rfl, rfl, rfl, rfl, rfl, trivial⟩ ⟨hi, hd, hkx, e9, e11, hS⟩
  clear hi hd hkx e9 e11 hS hrv
  rintro s w4 ⟨hi, hd, hkx, e9, e11, hS⟩
  refine W ?_
  refine WL_eff (OE_call rfl (evs2 rfl rfl) (Around01_any n 8 _ (by decide) hn)) rfl ?_
  rintro _ w4 ⟨rfl, hT⟩
  generalize (if n < 0 then -(n + 1) else n) % 8 = k at *
  replace hi := hi.ext hT (by simp) (fun _ h => .inl h)
  replace hd := hd.ext hT (by simp) (fun _ h => .inl h)
  replace hkx := hkx.ext hT (by simp) (fun _ h => .inl h)
  replace e9 := e9.up hT
  replace e11 := e11.up hT
  replace hS := hS.trans hT
  clear hT
  refine W ?_
  refine WC_cutB (σ := Rul × Value × Value) (fun q => [(11, .pointer (some ⟨b11, 0, none⟩))]) (fun q w' => sizeN q.1.cnd ≤ 400 ∧ sizeN q.1.due ≤ 400 ∧ SlV [b11] w' q.2.1 q.1.cnd.kids ∧ SlV [b11] w' q.2.2 q.1.due.kids ∧ Blk w' b11 50 (rlC q.1 q.2.1 q.2.2) ∧ Stp [] w w') ?_ ?_
  · repeat' (first | refine W1 ?_ | (exfalso; omega) | refine WL_split rfl rfl (fun hg => ?_) (fun hg => ?_) | refine WL_splitB rfl rfl (fun hg => ?_) (fun hg => ?_) | refine WC_cond rfl (fun hc => ?_) (fun hc => ?_) | refine WC_condB rfl (fun hc => ?_) (fun hc => ?_))
    · refine W ?_
      refine WL_eff0 (OE_store1 (o := 0) (u := str s) rfl rfl rfl rfl e11 (by simp)) ?_
      rintro _ w5 ⟨hT, e11⟩
      refine W ?_
      exact WQ_cut (⟨s, r.frm, r.on, r.cnd, r.due, r.unl, r.els⟩, ki, kd) ⟨rfl, trivial⟩ ⟨hz1, hz2, hi.ext hT (by simp) (fun _ h => .inl h), hd.ext hT (by simp) (fun _ h => .inl h), e11, hS.own hT (fun b hb => .inr (by simp at hb; omega))⟩
    · refine W ?_
      refine WL_eff0 (OE_store1 (o := 2) (u := str s) rfl rfl rfl rfl e11 (by simp)) ?_
      rintro _ w5 ⟨hT, e11⟩
      refine W ?_
      exact WQ_cut (⟨r.name, r.frm, s, r.cnd, r.due, r.unl, r.els⟩, ki, kd) ⟨rfl, trivial⟩ ⟨hz1, hz2, hi.ext hT (by simp) (fun _ h => .inl h), hd.ext hT (by simp) (fun _ h => .inl h), e11, hS.own hT (fun b hb => .inr (by simp at hb; omega))⟩
    · refine W ?_
      refine WL_eff0 (OE_store1 (o := 11) (u := str s) rfl rfl rfl rfl e11 (by simp)) ?_
      rintro _ w5 ⟨hT, e11⟩
      refine W ?_
      exact WQ_cut (⟨r.name, r.frm, r.on, r.cnd, r.due, s, r.els⟩, ki, kd) ⟨rfl, trivial⟩ ⟨hz1, hz2, hi.ext hT (by simp) (fun _ h => .inl h), hd.ext hT (by simp) (fun _ h => .inl h), e11, hS.own hT (fun b hb => .inr (by simp at hb; omega))⟩
    · refine W ?_
      refine WL_eff0 (OE_store1 (o := 12) (u := str s) rfl rfl rfl rfl e11 (by simp)) ?_
      rintro _ w5 ⟨hT, e11⟩
      refine W ?_
      exact WQ_cut (⟨r.name, r.frm, r.on, r.cnd, r.due, r.unl, s⟩, ki, kd) ⟨rfl, trivial⟩ ⟨hz1, hz2, hi.ext hT (by simp) (fun _ h => .inl h), hd.ext hT (by simp) (fun _ h => .inl h), e11, hS.own hT (fun b hb => .inr (by simp at hb; omega))⟩
    · refine W ?_
      refine WL_eff0 (OE_store1 (o := 1) (u := .int .i64 z) rfl rfl rfl rfl e11 (by simp)) ?_
      rintro _ w5 ⟨hT, e11⟩
      refine W ?_
      exact WQ_cut (⟨r.name, z, r.on, r.cnd, r.due, r.unl, r.els⟩, ki, kd) ⟨rfl, trivial⟩ ⟨hz1, hz2, hi.ext hT (by simp) (fun _ h => .inl h), hd.ext hT (by simp) (fun _ h => .inl h), e11, hS.own hT (fun b hb => .inr (by simp at hb; omega))⟩
    · refine W ?_
      refine WL_eff (OE_call rfl (evs2 rfl rfl) (Pruned_any [b11] _ x _ 14 (by decide) (by decide) (fun b hb => by simp at hb; subst hb; exact e11.lt) ⟨_, rfl, hkx.wk (by simp)⟩)) rfl ?_
      rintro _ w5 ⟨y, ⟨ky, rfl, hy⟩, hsy, hT⟩
      replace hi := hi.ext hT (by simp) (fun _ h => .inl h)
      replace hd := hd.ext hT (by simp) (fun _ h => .inl h)
      replace e11 := e11.up hT
      replace hS := hS.trans hT
      clear hT
      refine W ?_
      refine WL_eff0 (OE_store (o := 3) (us := ndC y ky) rfl rfl rfl rfl (ndC_one hy) e11 (by simp)) ?_
      rintro _ w6 ⟨hT, e11⟩
      refine W ?_
      exact WQ_cut (⟨r.name, r.frm, r.on, y, r.due, r.unl, r.els⟩, ky, kd) ⟨rfl, trivial⟩ ⟨hsy, hz2, hy.ext hT (by simp) (fun _ h => .inl h), hd.ext hT (by simp) (fun _ h => .inl h), e11, hS.own hT (fun b hb => .inr (by simp at hb; omega))⟩
    · refine W ?_
      refine WL_eff (OE_call rfl (evs3 rfl rfl rfl) (Expr_any [b11] lv l z 4 4 _ (by decide) (by decide) rfl hz (hs.up hS) hl (fun b hb => by simp at hb; subst hb; exact e11.lt))) rfl ?_
      rintro _ w5 ⟨y, ⟨ky, rfl, hy⟩, hsy, -, hT⟩
      replace hi := hi.ext hT (by simp) (fun _ h => .inl h)
      replace hd := hd.ext hT (by simp) (fun _ h => .inl h)
      replace e11 := e11.up hT
      replace hS := hS.trans hT
      clear hT
      refine W ?_
      refine WL_eff0 (OE_store (o := 7) (us := ndC y ky) rfl rfl rfl rfl (ndC_one hy) e11 (by simp)) ?_
      rintro _ w6 ⟨hT, e11⟩
      refine W ?_
      exact WQ_cut (⟨r.name, r.frm, r.on, r.cnd, y, r.unl, r.els⟩, ki, ky) ⟨rfl, trivial⟩ ⟨hz1, hsy, hi.ext hT (by simp) (fun _ h => .inl h), hy.ext hT (by simp) (fun _ h => .inl h), e11, hS.own hT (fun b hb => .inr (by simp at hb; omega))⟩
    · refine W ?_
      refine WL_eff (OE_call rfl (evs3 rfl rfl rfl) (Expr_any [b11] lv l z 4 4 _ (by decide) (by decide) rfl hz (hs.up hS) hl (fun b hb => by simp at hb; subst hb; exact e11.lt))) rfl ?_
      rintro _ w5 ⟨y, ⟨ky, rfl, hy⟩, hsy, -, hT⟩
      replace hi := hi.ext hT (by simp) (fun _ h => .inl h)
      replace hd := hd.ext hT (by simp) (fun _ h => .inl h)
      replace e11 := e11.up hT
      replace hS := hS.trans hT
      clear hT
      refine W ?_
      refine WL_eff0 (OE_store (o := 3) (us := ndC y ky) rfl rfl rfl rfl (ndC_one hy) e11 (by simp)) ?_
      rintro _ w6 ⟨hT, e11⟩
      refine W ?_
      exact WQ_cut (⟨r.name, r.frm, r.on, y, r.due, r.unl, r.els⟩, ky, kd) ⟨rfl, trivial⟩ ⟨hsy, hz2, hy.ext hT (by simp) (fun _ h => .inl h), hd.ext hT (by simp) (fun _ h => .inl h), e11, hS.own hT (fun b hb => .inr (by simp at hb; omega))⟩
  clear hi hd hkx e9 e11 hS hz1 hz2 hck r ki kd
  rintro ⟨r, ki, kd⟩ w5 ⟨hz1, hz2, hi, hd, e11, hS⟩
  try dsimp only at hz1 hz2 hi hd e11
  refine W ?_
  refine WC_drawn 9 [] [] [(0, 1), (2, 1), (1, 2), (3, 2), (4, 0), (5, 0), (6, 2), (7, 0), (8, 0)] rfl mixed (by kernel_rfl) (by kernel_rfl) (by kernel_rfl) (fun w1 hS1 => ?_)
  replace hi := hi.ext hS1 (by simp) (fun _ h => .inl h)
  replace hd := hd.ext hS1 (by simp) (fun _ h => .inl h)
  replace e11 := e11.up hS1
  replace hS := hS.trans hS1
  clear hS1
  refine D ?_
  refine WD_eff rfl trivial (OE_call rfl (evs1 rfl) (Check14_any _ r m _ ⟨_, _, rfl, hi.wk (by simp), hd.wk (by simp)⟩ (hF.up hS) (hS.cell (by simp) hm))) (fun _ _ h => h.2) rfl ?_
  rintro _ w6 ⟨rfl, hT⟩
  replace hi := hi.ext hT (by simp) (fun _ h => .inl h)
  replace hd := hd.ext hT (by simp) (fun _ h => .inl h)
  replace e11 := e11.up hT
  replace hS := hS.trans hT
  clear hT
  refine D ?_
  refine WD_eff rfl trivial (OE_call rfl (evs1 rfl) (CheckR_any _ r _ ⟨_, _, rfl, hi.wk (by simp), hd.wk (by simp)⟩ (by omega) (by omega))) (fun _ _ h => h.2) rfl ?_
  rintro _ w6 ⟨rfl, hT⟩
  replace hS := hS.trans hT
  clear hT
  generalize checkT r = ck at *
  refine D ?_
  rw [decide_eq_true (rfl : ck = ck)]
  refine WD_eff rfl rfl (OE_call rfl evs0 (lives14_any m _ (hF.up hS) (hS.cell (by simp) hm))) (fun _ _ h => h.2) rfl ?_
  rintro _ w6 ⟨rfl, hT⟩
  refine D ?_
  refine W ?_
  first | refine WQ_ret1 rfl rfl ?_ | refine WQ_ret2 rfl rfl rfl ?_ | refine WQ_ret3 rfl rfl rfl rfl ?_ | refine WQ_ret0 rfl ?_ | refine WQ_end0 rfl ?_
  exact .mk ⟨rfl, hS.trans hT⟩
end Go.Proofs.YtfjmlobgjdmecaaDoor
namespace Go.Proofs.YtfjmlobgjdmecaaDoor
open Go Go.Eng Go.RowKit
set_option linter.unusedVariables false
set_option maxHeartbeats 1000000 in
theorem uses14_any (x : Nd) : ∀ (v : Value) (nm : Str) (w : World), okN x = true → NdV [] w v x →
    Calls Tryd.prog 93 #[v, str nm] w (Ret fun r w' => r = .bool (usesT nm x) ∧ Stp [] w w') := by
  induction x using Nd.ind with
  | h k n s l ih =>
  intro v nm w hok hx
  obtain ⟨hk1, hk2⟩ := (okN_iff _).1 hok
  replace hk1 : l.length ≤ 1000 := hk1
  replace hk2 : ∀ y ∈ l, okN y = true := hk2
  obtain ⟨kv, rfl, hs⟩ := hx
  replace hs : SlV [] w kv l := hs
  rw [usesT_eq]
  refine calls_of_WC2 (n := 34) Tryd.func93 rfl rfl rfl ?_
  refine W ?_
  refine WL_eff (OE_box rfl) rfl ?_
  rintro _ w1 ⟨b, rfl, hbb, hblk, hS⟩
  replace hblk : Blk w1 b _ (ndL k n s kv) := hblk
  replace hs := hs.up hS
  refine W ?_
  refine WL_cutQ (σ := Bool) (fun q => [(1, str nm), (2, .pointer (some ⟨b, 0, none⟩)), (5, .bool q)]) (fun q w' => w' = w1 ∧ q = (decide (k = 4) && decide (s = nm))) ?_ ?_
  · repeat' (first | refine W1 ?_ | (exfalso; omega) | refine WL_split rfl rfl (fun hg => ?_) (fun hg => ?_) | refine WL_splitB rfl rfl (fun hg => ?_) (fun hg => ?_) | refine WC_cond rfl (fun hc => ?_) (fun hc => ?_) | refine WC_condB rfl (fun hc => ?_) (fun hc => ?_))
    all_goals exact WQ_cut _ ⟨rfl, rfl, rfl, trivial⟩ ⟨rfl, by simp [*]⟩
  rintro q w1 ⟨rfl, hq⟩
  try dsimp only at hq ⊢
  refine W ?_
  have hs0 := hs
  have hblk0 := hblk
  refine WC_loop (σ := Nat × Bool) (fun q => [(1, str nm), (2, .pointer (some ⟨b, 0, none⟩)), (5, .bool q.2), (6, .int .i64 (q.1 : Int))]) (fun q w' => q.1 ≤ l.length ∧ q.2 = ((decide (k = 4) && decide (s = nm)) || ((l.take q.1).map (usesT nm)).any id) ∧ Stp [] w1 w') (fun q => l.length - q.1) (0, q) ⟨rfl, rfl, rfl, rfl, trivial⟩ ⟨Nat.zero_le _, by simp [hq], Stp.refl _ _⟩ ?_
  clear hs hblk hq q
  rintro ⟨j, q⟩ w2 ⟨hj, hq, hS2⟩
  dsimp only at hj hq ⊢
  have hs := hs0.up hS2
  have hblk := hblk0.up hS2
  by_cases hlt : j < l.length
  · have hnext : ((decide (k = 4) && decide (s = nm)) || ((l.take (j + 1)).map (usesT nm)).any id) = (q || usesT nm l[j]) := by
      rw [List.take_succ_eq_append_getElem hlt, List.map_append, List.any_append, ← Bool.or_assoc, ← hq]
      simp
    cases q with
    | true =>
      repeat' (first | refine W1 ?_ | (exfalso; omega) | refine WL_split rfl rfl (fun hg => ?_) (fun hg => ?_) | refine WL_splitB rfl rfl (fun hg => ?_) (fun hg => ?_) | refine WC_cond rfl (fun hc => ?_) (fun hc => ?_) | refine WC_condB rfl (fun hc => ?_) (fun hc => ?_))
      exact WQ_loop (j + 1, true) ⟨rfl, rfl, rfl, rfl, trivial⟩ ⟨hlt, by dsimp only; rw [hnext]; rfl, hS2⟩ (by dsimp only; omega)
    | false =>
      obtain ⟨kv2, hs2, hc2⟩ := hs.nd hlt
      repeat' (first | refine W1 ?_ | (exfalso; omega) | refine WL_split rfl rfl (fun hg => ?_) (fun hg => ?_) | refine WL_splitB rfl rfl (fun hg => ?_) (fun hg => ?_) | refine WC_cond rfl (fun hc => ?_) (fun hc => ?_) | refine WC_condB rfl (fun hc => ?_) (fun hc => ?_))
      apply WL_pure (PR_loadNd rfl rfl hs hlt hc2) rfl
      refine W ?_
      refine WL_eff (OE_call rfl (evs2 rfl rfl) (ih l[j] (List.getElem_mem hlt) _ nm _ (hk2 _ (List.getElem_mem hlt)) ⟨kv2, rfl, hs2⟩)) rfl ?_
      rintro _ w3 ⟨rfl, hS3⟩
      refine W ?_
      exact WQ_loop (j + 1, usesT nm l[j]) ⟨rfl, rfl, rfl, rfl, trivial⟩ ⟨hlt, by dsimp only; rw [hnext]; rfl, hS2.trans hS3⟩ (by dsimp only; omega)
  · have hje : j = l.length := by omega
    subst hje
    rw [List.take_length] at hq
    repeat' (first | refine W1 ?_ | (exfalso; omega) | refine WL_split rfl rfl (fun hg => ?_) (fun hg => ?_) | refine WL_splitB rfl rfl (fun hg => ?_) (fun hg => ?_) | refine WC_cond rfl (fun hc => ?_) (fun hc => ?_) | refine WC_condB rfl (fun hc => ?_) (fun hc => ?_))
    first | refine WQ_ret1 rfl rfl ?_ | refine WQ_ret2 rfl rfl rfl ?_ | refine WQ_ret3 rfl rfl rfl rfl ?_ | refine WQ_ret0 rfl ?_ | refine WQ_end0 rfl ?_
    exact .mk ⟨by rw [← hq], hS.trans hS2⟩
theorem Uses14_any (v : Value) (x : Nd) (w : World) (hok : okN x = true) (hx : NdV [] w v x) :
    Calls Tryd.prog 51 #[v] w (Ret fun r w' => SlV [] w' r (usesF x) ∧ Stp [] w w') := by
  obtain ⟨kv, rfl, hs⟩ := hx
  rw [uses_eq]
  refine calls_of_WC1 (n := 24) Tryd.func51 rfl rfl rfl ?_
  refine W ?_
  refine WL_eff (OE_box rfl) rfl ?_
  rintro _ w1 ⟨b, rfl, hbb, hblk, hS⟩
  replace hblk : Blk w1 b _ (ndC x kv) := hblk
  refine W ?_
  refine WL_eff (OE_call rfl evs0 (Fields_any [] _ (by simp))) rfl ?_
  rintro fv w2 ⟨hf, hT⟩
  replace hf := hf.slv0
  replace hblk := hblk.up hT
  replace hS := hS.trans hT
  clear hT hbb
  refine W ?_
  refine WC_loop (σ := Nat × Value) (fun q => [(1, .pointer (some ⟨b, 0, none⟩)), (3, q.2), (4, fv), (5, .int .i64 (q.1 : Int))]) (fun q w' => q.1 ≤ 7 ∧ Row [] w' w2.heap.size 3 q.2 (((List.range q.1).filter (fun i => usesT (fieldNames.getD i []) x)).map (fun (i : Nat) => (i : Int))) ∧ Stp [] w2 w') (fun q => 7 - q.1) (0, .slice none 0 0) ⟨rfl, rfl, rfl, rfl, trivial⟩ ⟨Nat.zero_le _, Row.nil, Stp.refl _ _⟩ ?_
  have hblk0 := hblk
  have hf0 := hf
  have hS0 := hS
  clear hblk hf hS
  rintro ⟨j, u⟩ w3 ⟨hj, hrow, hS2⟩
  dsimp only at hj hrow ⊢
  have hblk := hblk0.up hS2
  have hf := hf0.up hS2
  have hS := hS0.trans hS2
  have hfl : fieldNames.length = 7 := rfl
  by_cases hlt : j < 7
  · have hjl : j < fieldNames.length := by omega
    have hgd : fieldNames.getD j [] = fieldNames[j] := by simp [List.getD, hjl]
    repeat' (first | refine W1 ?_ | (exfalso; omega) | refine WL_split rfl rfl (fun hg => ?_) (fun hg => ?_) | refine WL_splitB rfl rfl (fun hg => ?_) (fun hg => ?_) | refine WC_cond rfl (fun hc => ?_) (fun hc => ?_) | refine WC_condB rfl (fun hc => ?_) (fun hc => ?_))
    refine WC_drawn 6 [] [] [(0, 1), (1, 0), (2, 0), (3, 0), (4, 1), (5, 2)] rfl mixed (by kernel_rfl) (by kernel_rfl) (by kernel_rfl) (fun w1 hS1 => ?_)
    replace hrow := hrow.up hS1
    replace hblk := hblk.up hS1
    replace hf := hf.up hS1
    replace hS2 := hS2.trans hS1
    replace hS := hS.trans hS1
    clear hS1
    refine D ?_
    refine WD_eff rfl trivial (OE_call rfl (evs2 rfl rfl) (uses14_any x _ fieldNames[j] _ hok ⟨kv, rfl, hs.up hS⟩)) (fun _ _ h => h.2) rfl ?_
    rintro _ w3 ⟨rfl, hT⟩
    replace hrow := hrow.up hT
    replace hblk := hblk.up hT
    replace hf := hf.up hT
    replace hS2 := hS2.trans hT
    replace hS := hS.trans hT
    clear hT
    refine D ?_
    cases hu : usesT fieldNames[j] x with
    | false =>
      repeat' (first | refine W1 ?_ | (exfalso; omega) | refine WL_split rfl rfl (fun hg => ?_) (fun hg => ?_) | refine WL_splitB rfl rfl (fun hg => ?_) (fun hg => ?_) | refine WC_cond rfl (fun hc => ?_) (fun hc => ?_) | refine WC_condB rfl (fun hc => ?_) (fun hc => ?_))
      exact WQ_loop (j + 1, u) ⟨rfl, rfl, rfl, rfl, trivial⟩ ⟨hlt, by dsimp only; rw [List.range_succ, List.filter_append, List.map_append, show List.filter (fun i => usesT (fieldNames.getD i []) x) [j] = [] by simp only [List.filter_cons, List.filter_nil, hgd, hu]; rfl, List.map_nil, List.append_nil]; exact hrow, hS2⟩ (by dsimp only; omega)
    | true =>
      repeat' (first | refine W1 ?_ | (exfalso; omega) | refine WL_split rfl rfl (fun hg => ?_) (fun hg => ?_) | refine WL_splitB rfl rfl (fun hg => ?_) (fun hg => ?_) | refine WC_cond rfl (fun hc => ?_) (fun hc => ?_) | refine WC_condB rfl (fun hc => ?_) (fun hc => ?_))
      refine WL_eff (OE_buildSlice (vs := [(0, .int .i64 (j : Int))]) rfl (buildSI1 _)) rfl ?_
      rintro bv w4 hN
      have hbv : SlV (ob u ++ []) w4 bv [(j : Int)] := hN.slv (fun b hb => (hrow.ob_le b (by simpa using hb)).2) rfl rfl (by simp [maxLen])
      have hT := NewSl.stp hN
      clear hN
      replace hrow := hrow.up hT
      replace hblk := hblk.up hT
      replace hf := hf.up hT
      replace hS2 := hS2.trans hT
      clear hT
      have hbase := hS2.size
      have hll : (((List.range j).filter (fun i => usesT (fieldNames.getD i []) x)).map (fun (i : Nat) => (i : Int))).length ≤ 7 := by
        rw [List.length_map]
        exact Nat.le_trans (List.length_filter_le _ _) (by simp; omega)
      refine WL_eff (OE_append (X := []) (base := w2.heap.size) rfl (by decide) rfl rfl hrow hbv (by simp only [List.length_cons, List.length_nil]; omega) (by simp only [List.length_cons, List.length_nil, maxLen]; omega) hbase) rfl ?_
      rintro u' w5 ⟨hrow', hS5, _⟩
      refine W ?_
      have hown : ∀ b ∈ ob u, b ∈ ([] : List Nat) ∨ w2.heap.size ≤ b := fun c hc => .inr (hrow.ob_le c hc).1
      exact WQ_loop (j + 1, u') ⟨rfl, rfl, rfl, rfl, trivial⟩ ⟨hlt, by dsimp only; rw [List.range_succ, List.filter_append, List.map_append, show List.filter (fun i => usesT (fieldNames.getD i []) x) [j] = [j] by simp only [List.filter_cons, List.filter_nil, hgd, hu]; rfl]; exact hrow', hS2.own hS5 hown⟩ (by dsimp only; omega)
  · have hje : j = 7 := by omega
    subst hje
    repeat' (first | refine W1 ?_ | (exfalso; omega) | refine WL_split rfl rfl (fun hg => ?_) (fun hg => ?_) | refine WL_splitB rfl rfl (fun hg => ?_) (fun hg => ?_) | refine WC_cond rfl (fun hc => ?_) (fun hc => ?_) | refine WC_condB rfl (fun hc => ?_) (fun hc => ?_))
    first | refine WQ_ret1 rfl rfl ?_ | refine WQ_ret2 rfl rfl rfl ?_ | refine WQ_ret3 rfl rfl rfl rfl ?_ | refine WQ_ret0 rfl ?_ | refine WQ_end0 rfl ?_
    exact .mk ⟨hrow.slv0, hS⟩
theorem usesLaw (v0 lv : Value) (x : Nd) (l : List Int) (a : Str) (m : Int) (w : World) (hF : SlV [] w flds fieldNames) (hm : w.cell? ⟨1, 0, none⟩ = some (.int .i64 m)) (hx : NdV [] w v0 x) (hs : SlV [] w lv l) (hl : ∀ a ∈ l, I64 a) :
    Calls Tryd.prog 13 #[v0, lv, str a] w (Ret fun r w' => r = .bool true ∧ Stp [] w w') := by
  obtain ⟨kx, rfl, hkx⟩ := hx
  refine calls_of_WC3 (n := 77) Tryd.func13 rfl rfl rfl ?_
  refine W ?_
  refine WL_eff (OE_box rfl) rfl ?_
  rintro _ w1 ⟨b3, rfl, hb3, e3, hS⟩
  replace e3 : Blk w1 b3 24 (ndC x kx) := e3
  refine W ?_
  refine WL_eff (OE_call rfl (evs2 rfl rfl) (Pruned_any [] _ x _ 14 (by decide) (by decide) (by simp) ⟨kx, rfl, hkx.up hS⟩)) rfl ?_
  rintro _ w2 ⟨y, ⟨ky, rfl, hky⟩, hsy, hT⟩
  replace hS := hS.trans hT
  clear hT e3 hb3
  refine WL_eff OE_alloc rfl ?_
  rintro _ w3 ⟨b7, rfl, hb7, e0, hT⟩
  refine WL_eff0 (OE_storeA (us := ndC y ky) rfl rfl rfl rfl (ndC_one hky) e0 rfl) ?_
  rintro _ w4 ⟨hT2, e7⟩
  replace hT := hT.own hT2 (fun b hb => .inr (by simp at hb; omega))
  clear hT2 e0 hb7
  replace hky := hky.up hT
  replace hS := hS.trans hT
  clear hT
  refine W ?_
  refine WL_eff (OE_call rfl (evs3 rfl rfl rfl) (Expr_any [] lv l 1 5 5 _ (by decide) (by decide) rfl (by unfold I64; omega) (hs.up hS) hl (by simp))) rfl ?_
  rintro _ w5 ⟨z, ⟨kz, rfl, hkz⟩, hsz, -, hT⟩
  replace hky := hky.up hT
  replace e7 := e7.up hT
  replace hS := hS.trans hT
  clear hT
  refine WL_eff OE_alloc rfl ?_
  rintro _ w6 ⟨b8, rfl, hb8, e0, hT⟩
  refine WL_eff0 (OE_storeA (us := ndC z kz) rfl rfl rfl rfl (ndC_one hkz) e0 rfl) ?_
  rintro _ w7 ⟨hT2, e8⟩
  replace hT := hT.own hT2 (fun b hb => .inr (by simp at hb; omega))
  clear hT2 e0 hb8
  replace hky := hky.up hT
  replace e7 := e7.up hT
  replace hkz := hkz.up hT
  replace hS := hS.trans hT
  clear hT
  refine W ?_
  have hbase0 : w7.heap.size ≤ w7.heap.size := Nat.le_refl _
  refine WL_eff (OE_buildSlice (vs := [(0, str a), (1, str [120]), (2, str [])]) rfl (buildSS3 _ _ _)) rfl ?_
  rintro bv w8 hN
  have hrow : Row [] w8 w7.heap.size 9 bv [a, [120], []] := hN.row hbase0 rfl rfl (by simp [maxLen])
  have hW := NewSl.stp hN
  clear hN
  refine W ?_
  refine WL_eff (OE_call rfl evs0 (Reserved_any (ob bv) _ (fun b hb => (hrow.ob_le b hb).2))) rfl ?_
  rintro rv w9 ⟨hrv, hT⟩
  replace hrv : SlV (ob bv ++ []) w9 rv (resW ++ fieldNames) := by rw [List.append_nil]; exact hrv.slv (fun b hb => (hrow.ob_le b hb).2)
  replace hrow := hrow.up hT
  replace hW := hW.trans hT
  clear hT
  have hbase := hW.size
  have hrl : (resW ++ fieldNames).length ≤ 100 := by decide +kernel
  generalize resW ++ fieldNames = RW at *
  refine WL_eff (OE_append (X := []) (base := w7.heap.size) rfl (by decide) rfl rfl hrow hrv (by simp only [List.length_cons, List.length_nil]; omega) (by simp only [List.length_cons, List.length_nil, maxLen]; omega) hbase) rfl ?_
  rintro nv w10 ⟨hrow', hT, _⟩
  replace hW := hW.own hT (fun b hb => .inr (hrow.ob_le b hb).1)
  clear hT
  have hnv := hrow'.slv0
  have hnl : ([a, [120], []] ++ RW).length ≤ 200 := by simp only [List.length_append, List.length_cons, List.length_nil]; omega
  generalize [a, [120], []] ++ RW = NM at *
  replace hky := hky.up hW
  replace hkz := hkz.up hW
  replace e7 := e7.up hW
  replace e8 := e8.up hW
  replace hS := hS.trans hW
  clear hW hrow hrow' hrv hbase hbase0
  refine W ?_
  refine WC_loop (σ := Nat) (fun q => [(7, .pointer (some ⟨b7, 0, none⟩)), (8, .pointer (some ⟨b8, 0, none⟩)), (9, nv), (10, .int .i64 (q : Int))]) (fun q w' => q ≤ NM.length ∧ Stp [] w10 w') (fun q => NM.length - q) 0 ⟨rfl, rfl, rfl, rfl, trivial⟩ ⟨Nat.zero_le _, Stp.refl _ _⟩ ?_
  rintro j w11 ⟨hj, hW⟩
  replace hky := hky.up hW
  replace hkz := hkz.up hW
  replace e7 := e7.up hW
  replace e8 := e8.up hW
  replace hnv := hnv.up hW
  replace hS := hS.trans hW
  by_cases hlt : j < NM.length
  · repeat' (first | refine W1 ?_ | (exfalso; omega) | refine WL_split rfl rfl (fun hg => ?_) (fun hg => ?_) | refine WL_splitB rfl rfl (fun hg => ?_) (fun hg => ?_) | refine WC_cond rfl (fun hc => ?_) (fun hc => ?_) | refine WC_condB rfl (fun hc => ?_) (fun hc => ?_))
    refine WL_eff (OE_call rfl (evs1 rfl) (Field_any NM[j] _ (hF.up hS))) rfl ?_
    rintro _ w12 ⟨rfl, hT⟩
    replace hnv := hnv.up hT
    replace hW := hW.trans hT
    clear hT
    refine W ?_
    refine WL_eff (OE_call rfl (evs1 rfl) (Field14_any NM[j] _)) rfl ?_
    rintro _ w13 ⟨rfl, hT⟩
    replace hW := hW.trans hT
    clear hT
    generalize fieldF NM[j] = ff at *
    obtain ⟨f1, f2, f3⟩ := ff
    repeat' (first | refine W1 ?_ | (exfalso; omega) | refine WL_split rfl rfl (fun hg => ?_) (fun hg => ?_) | refine WL_splitB rfl rfl (fun hg => ?_) (fun hg => ?_) | refine WC_cond rfl (fun hc => ?_) (fun hc => ?_) | refine WC_condB rfl (fun hc => ?_) (fun hc => ?_))
    all_goals try (exact absurd rfl (by assumption))
    exact WQ_loop (j + 1) ⟨rfl, rfl, rfl, rfl, trivial⟩ ⟨hlt, hW⟩ (by omega)
  · repeat' (first | refine W1 ?_ | (exfalso; omega) | refine WL_split rfl rfl (fun hg => ?_) (fun hg => ?_) | refine WL_splitB rfl rfl (fun hg => ?_) (fun hg => ?_) | refine WC_cond rfl (fun hc => ?_) (fun hc => ?_) | refine WC_condB rfl (fun hc => ?_) (fun hc => ?_))
    refine WC_drawn 16 [] [] [(0, 1), (2, 1), (1, 2), (3, 2), (4, 2), (5, 0), (6, 1), (8, 1), (7, 2), (9, 2), (10, 2), (11, 0), (12, 0), (13, 2), (14, 0), (15, 0)] rfl mixed (by kernel_rfl) (by kernel_rfl) (by kernel_rfl) (fun w1 hS1 => ?_)
    replace hky := hky.up hS1
    replace hkz := hkz.up hS1
    replace e7 := e7.up hS1
    replace e8 := e8.up hS1
    replace hS := hS.trans hS1
    clear hS1
    refine D ?_
    refine WD_eff rfl trivial (OE_call rfl (evs1 rfl) (Uses_any y _ _ (okN_of_size y (by omega)) ⟨_, rfl, hky⟩ (hF.up hS))) (fun _ _ h => h.2) rfl ?_
    rintro u1 w12 ⟨hu1, hT⟩
    replace hky := hky.up hT
    replace hkz := hkz.up hT
    replace e7 := e7.up hT
    replace e8 := e8.up hT
    replace hS := hS.trans hT
    clear hT
    replace hu1 := hu1.slv0.up (Stp.refl [] _)
    refine D ?_
    refine WD_eff rfl trivial (OE_call rfl (evs1 rfl) (Uses14_any _ y _ (okN_of_size y (by omega)) ⟨_, rfl, hky⟩)) (fun _ _ h => h.2) rfl ?_
    rintro u2 w13 ⟨hu2, hT⟩
    replace hky := hky.up hT
    replace hkz := hkz.up hT
    replace e7 := e7.up hT
    replace e8 := e8.up hT
    replace hu1 := hu1.up hT
    replace hS := hS.trans hT
    clear hT
    refine D ?_
    refine WD_eff rfl trivial (OE_call rfl (evs2 rfl rfl) (SameIntsL_any _ _ _ _ _ hu1 hu2)) (fun _ _ h => h.2) rfl ?_
    rintro _ w14 ⟨rfl, hT⟩
    replace hky := hky.up hT
    replace hkz := hkz.up hT
    replace e7 := e7.up hT
    replace e8 := e8.up hT
    replace hS := hS.trans hT
    clear hT
    rw [decide_eq_true (rfl : usesF y = usesF y)]
    refine D ?_
    refine WD_eff rfl rfl (OE_call rfl (evs1 rfl) (Uses_any z _ _ (okN_of_size z (by omega)) ⟨_, rfl, hkz⟩ (hF.up hS))) (fun _ _ h => h.2) rfl ?_
    rintro u3 w15 ⟨hu3, hT⟩
    replace hky := hky.up hT
    replace hkz := hkz.up hT
    replace e7 := e7.up hT
    replace e8 := e8.up hT
    replace hS := hS.trans hT
    clear hT
    replace hu3 := hu3.slv0
    refine D ?_
    refine WD_eff rfl rfl (OE_call rfl (evs1 rfl) (Uses14_any _ z _ (okN_of_size z (by omega)) ⟨_, rfl, hkz⟩)) (fun _ _ h => h.2) rfl ?_
    rintro u4 w16 ⟨hu4, hT⟩
    replace hky := hky.up hT
    replace hkz := hkz.up hT
    replace e7 := e7.up hT
    replace e8 := e8.up hT
    replace hu3 := hu3.up hT
    replace hS := hS.trans hT
    clear hT
    refine D ?_
    refine WD_eff rfl rfl (OE_call rfl (evs2 rfl rfl) (SameIntsL_any _ _ _ _ _ hu3 hu4)) (fun _ _ h => h.2) rfl ?_
    rintro _ w17 ⟨rfl, hT⟩
    replace hky := hky.up hT
    replace hkz := hkz.up hT
    replace e7 := e7.up hT
    replace e8 := e8.up hT
    replace hS := hS.trans hT
    clear hT
    rw [decide_eq_true (rfl : usesF z = usesF z)]
    refine D ?_
    refine WD_eff rfl rfl (OE_call rfl (evs0) (lives14_any m _ (hF.up hS) (hS.cell (by simp) hm))) (fun _ _ h => h.2) rfl ?_
    rintro _ w18 ⟨rfl, hT⟩
    replace hky := hky.up hT
    replace hkz := hkz.up hT
    replace e7 := e7.up hT
    replace e8 := e8.up hT
    replace hS := hS.trans hT
    clear hT
    refine D ?_
    refine W ?_
    first | refine WQ_ret1 rfl rfl ?_ | refine WQ_ret2 rfl rfl rfl ?_ | refine WQ_ret3 rfl rfl rfl rfl ?_ | refine WQ_ret0 rfl ?_ | refine WQ_end0 rfl ?_
    exact .mk ⟨rfl, hS⟩
end Go.Proofs.YtfjmlobgjdmecaaDoor
namespace Go.Eng
open Go Go.RowKit
theorem Row.drop {α : Type} [GoRep α] {X : List Nat} {w : World} {base T : Nat} {v : Value} {xs : List α} (h : Row X w base T v xs) : SlV [] w v xs :=
  (h.ext (S := []) (X' := []) (Stp.refl [] w) (by simp) (by simp)).slv (by simp)
end Go.Eng
namespace Go.Proofs.YtfjmlobgjdmecaaDoor
open Go Go.Eng Go.RowKit
set_option linter.unusedVariables false
theorem buildN012 (k n : Int) (s : Str) (w : World) : (Instr.build 24 #[(0, .int .i64 k), (1, .int .i64 n), (2, str s)]).run Tryd.prog w = .ok (.agg #[.int .i64 k, .int .i64 n, str s, .slice none 0 0]) w := by kernel_rfl
theorem OfL14_any (v : Value) (x : Nd) (t e : Int) (w : World) (hok : okN x = true) (hn : nestN x ≤ 1000000) (hx : NdV [] w v x) (h1 : (if nestN x ≤ 12 then typeT x else 0) = t) (h2 : (if nestN x ≤ 12 then (if typeT x = 0 then 21 else 0) else 2) = e) :
    Calls Tryd.prog 37 #[v] w (Ret fun r w' => r = .tuple #[.int .i64 t, .int .i64 e] ∧ Stp [] w w') := by
  have := Of14_any [] v x w hok hn hx
  rw [h1, h2] at this
  exact this
set_option maxHeartbeats 1000000 in
theorem leavesLaw (kd n zc m : Int) (s : Str) (lv : Value) (l : List Int) (w : World) (hF : SlV [] w flds fieldNames) (hm : w.cell? ⟨1, 0, none⟩ = some (.int .i64 m)) (hkd : I64 kd) (hzc : I64 zc) (hs : SlV [] w lv l) (hl : ∀ a ∈ l, I64 a) :
    Calls Tryd.prog 10 #[.int .i64 kd, .int .i64 n, str s, lv, .int .i64 zc] w (Ret fun r w' => r = .bool true ∧ Stp [] w w') := by
  refine calls_of_WC5 (n := 96) Tryd.func10 rfl rfl rfl ?_
  refine W ?_
  apply WL_build (vs := [(0, .int .i64 kd), (1, .int .i64 n), (2, str s)]) rfl (buildN012 _ _ _) rfl
  refine WL_eff OE_alloc rfl ?_
  rintro _ w1 ⟨b11, rfl, hb11, e0, hT⟩
  refine WL_eff0 (OE_storeA (us := ndC (.mk kd n s []) nilS) rfl rfl rfl rfl (ndC_one (x := .mk kd n s []) (nilSlv (α := Nd) [] w)) e0 rfl) ?_
  rintro _ w2 ⟨hT2, e11⟩
  have hS := hT.own hT2 (fun b hb => .inr (by simp at hb; omega))
  clear hT hT2 e0
  refine W ?_
  refine WL_eff (OE_call rfl (evs2 rfl rfl) (Around01_any kd 10 _ (by decide) hkd)) rfl ?_
  rintro _ w3 ⟨rfl, hT⟩
  have hr := around_range (if kd < 0 then -(kd + 1) else kd) 10 (by decide)
  generalize (if kd < 0 then -(kd + 1) else kd) % 10 = k0 at *
  replace e11 := e11.up hT
  replace hS := hS.trans hT
  clear hT
  refine W ?_
  apply WL_build (vs := [(0, .int .i64 (1 + k0)), (2, str s)]) rfl (buildN02 _ _) rfl
  refine WL_eff OE_alloc rfl ?_
  rintro _ w4 ⟨b12, rfl, hb12, e0, hT⟩
  have n12 : b11 ≠ b12 := by have := e11.lt; omega
  have hb12w : w.heap.size ≤ b12 := Nat.le_trans hS.size hb12
  refine WL_eff0 (OE_storeA (us := ndC (.mk (1 + k0) 0 s []) nilS) rfl rfl rfl rfl (ndC_one (x := .mk (1 + k0) 0 s []) (nilSlv (α := Nd) [] w)) e0 rfl) ?_
  rintro _ w5 ⟨hT2, e12⟩
  replace hT := hT.own hT2 (fun b hb => .inr (by simp at hb; omega))
  clear hT2 e0 hb12
  replace e11 := e11.up hT
  replace hS := hS.trans hT
  clear hT
  have l11 := e11.lt
  have l12 := e12.lt
  refine W ?_
  refine WC_loop (σ := Nat × Value × Value × List Nd) (fun q => [(3, lv), (4, .int .i64 zc), (11, .pointer (some ⟨b11, 0, none⟩)), (12, .pointer (some ⟨b12, 0, none⟩)), (13, .int .i64 (q.1 : Int))])
    (fun q w' => q.1 ≤ 3 ∧ q.2.2.2.length = q.1 ∧ (∀ y ∈ q.2.2.2, sizeN y ≤ 400) ∧ Row (ob q.2.2.1 ++ [b11, b12]) w' w5.heap.size 24 q.2.1 q.2.2.2 ∧ Row (ob q.2.1 ++ [b11, b12]) w' w5.heap.size 24 q.2.2.1 q.2.2.2 ∧ (∀ b ∈ ob q.2.1, b ∉ ob q.2.2.1) ∧ Blk w' b11 24 (ndC (.mk kd n s q.2.2.2) q.2.1) ∧ Blk w' b12 24 (ndC (.mk (1 + k0) 0 s q.2.2.2) q.2.2.1) ∧ Stp [b11, b12] w5 w')
    (fun q => 3 - q.1) (0, nilS, nilS, []) ⟨rfl, rfl, rfl, rfl, rfl, trivial⟩ ⟨Nat.zero_le _, rfl, by simp, Row.nil, Row.nil, by simp [ob], e11, e12, Stp.refl _ _⟩ ?_
  clear e11 e12
  rintro ⟨j, u1, u2, L⟩ w6 ⟨hj, hL, hLs, hr1, hr2, hd, e11, e12, hW⟩
  dsimp only at hj hL hLs hr1 hr2 hd e11 e12 ⊢
  have hSw : Stp [] w w6 := hS.own hW (fun b hb => .inr (by simp at hb; omega))
  refine W ?_
  refine WL_eff (OE_call rfl (evs2 rfl rfl) (Around01_any zc 4 _ (by decide) hzc)) rfl ?_
  rintro _ w7 ⟨rfl, hT⟩
  have hq := around_range (if zc < 0 then -(zc + 1) else zc) 4 (by decide)
  generalize (if zc < 0 then -(zc + 1) else zc) % 4 = kz at *
  replace hr1 := hr1.up hT
  replace hr2 := hr2.up hT
  replace e11 := e11.up hT
  replace e12 := e12.up hT
  replace hW := hW.trans (hT.mono (by simp))
  replace hSw := hSw.trans hT
  clear hT
  by_cases hlt : (j : Int) < kz
  · repeat' (first | refine W1 ?_ | (exfalso; omega) | refine WL_split rfl rfl (fun hg => ?_) (fun hg => ?_) | refine WL_splitB rfl rfl (fun hg => ?_) (fun hg => ?_) | refine WC_cond rfl (fun hc => ?_) (fun hc => ?_) | refine WC_condB rfl (fun hc => ?_) (fun hc => ?_))
    refine WL_eff (OE_call rfl (evs3 rfl rfl rfl) (Pick01_any [] _ l j 3 _ (by decide) (by unfold I64; omega) (hs.up hSw) hl)) rfl ?_
    rintro _ w8 ⟨q, rfl, hq3, hT⟩
    replace hr1 := hr1.up hT
    replace hr2 := hr2.up hT
    replace e11 := e11.up hT
    replace e12 := e12.up hT
    replace hW := hW.trans (hT.mono (by simp))
    replace hSw := hSw.trans hT
    clear hT
    refine W ?_
    have hXX : ∀ b ∈ ob u1 ++ (ob u2 ++ [b11, b12]), b < w8.heap.size := fun b hb => by
      simp only [List.mem_append, List.mem_cons, List.not_mem_nil, or_false] at hb
      rcases hb with h | h | h | h
      · exact (hr1.ob_le b h).2
      · exact (hr2.ob_le b h).2
      · rw [h]; exact e11.lt
      · rw [h]; exact e12.lt
    refine WL_eff (OE_call rfl (evs3 rfl rfl rfl) (Expr_any (ob u1 ++ (ob u2 ++ [b11, b12])) lv l (q : Int) 2 2 _ (by decide) (by decide) rfl (by unfold I64; omega) (hs.up hSw) hl hXX)) rfl ?_
    rintro _ w9 ⟨y, ⟨ky, rfl, hy⟩, hsy, -, hT⟩
    have hT0 := hT.size
    replace hr1 := hr1.up hT
    replace hr2 := hr2.up hT
    replace e11 := e11.up hT
    replace e12 := e12.up hT
    replace hW := hW.trans (hT.mono (by simp))
    replace hSw := hSw.trans hT
    clear hT
    replace hXX := fun b hb => Nat.lt_of_lt_of_le (hXX b hb) hT0
    refine WL_eff OE_alloc rfl ?_
    rintro _ w10 ⟨b14, rfl, hb14, e0, hT⟩
    refine WL_eff0 (OE_storeA (us := ndC y ky) rfl rfl rfl rfl (ndC_one hy) e0 rfl) ?_
    rintro _ w11 ⟨hT2, e14⟩
    replace hT := hT.own hT2 (fun b hb => .inr (by simp at hb; omega))
    have n14 : ∀ b ∈ ob u1 ++ (ob u2 ++ [b11, b12]), b < b14 := fun b hb => Nat.lt_of_lt_of_le (hXX b hb) hb14
    clear hT2 e0 hb14
    have hT0 := hT.size
    replace hy := hy.up hT
    replace hr1 := hr1.up hT
    replace hr2 := hr2.up hT
    replace e11 := e11.up hT
    replace e12 := e12.up hT
    replace hW := hW.trans (hT.mono (by simp))
    replace hSw := hSw.trans hT
    clear hT
    replace hXX := fun b hb => Nat.lt_of_lt_of_le (hXX b hb) hT0
    clear hT0
    obtain ⟨p0, c0, rfl, -⟩ := id hy
    refine W ?_
    refine W ?_
    refine WL_eff (OE_buildSlice (vs := [(0, .agg (ndC y (.slice p0 y.kids.length c0)).toArray)]) rfl (buildSN1 _ _ _ _ _ _)) rfl ?_
    rintro bv w12 hN
    have hbv : SlV (ob u1 ++ (ob u2 ++ [b11, b12])) w12 bv [y] := hN.slvG (css := [ndC y _]) hXX rfl rfl rfl (reps1 hy) (by simp [maxLen])
    have hT := NewSl.stp hN
    clear hN
    have hT0 := hT.size
    replace hXX := fun b hb => Nat.lt_of_lt_of_le (hXX b hb) hT0
    clear hT0
    replace hy := hy.up hT
    replace e14 := e14.up hT
    replace hr1 := hr1.up hT
    replace hr2 := hr2.up hT
    replace e11 := e11.up hT
    replace e12 := e12.up hT
    replace hW := hW.trans (hT.mono (by simp))
    replace hSw := hSw.trans hT
    clear hT
    have hbase := hW.size
    have hbase2 := hS.size
    refine WL_eff (OE_append (X := ob u2 ++ [b11, b12]) (base := w5.heap.size) rfl (by decide) rfl rfl hr1 hbv (by simp only [List.length_cons, List.length_nil]; omega) (by simp only [List.length_cons, List.length_nil, maxLen]; omega) hbase) rfl ?_
    rintro x1 w13 ⟨hrv, hT, hown⟩
    have ho1 := hr1.ob_le
    have ho2 := hr2.ob_le
    have hov := hrv.ob_le
    clear hr1
    replace hr2 := hr2.ext (X' := ob x1 ++ [b11, b12]) hT (fun b hb => ⟨by simp [hb], hd b hb⟩) (fun b hb => by
      simp only [List.mem_append] at hb ⊢
      rcases hb with h | h
      · rcases hown b h with h' | h'
        · exact .inl (.inl h')
        · exact .inr h'
      · exact .inl (.inr h))
    have hd' : ∀ b ∈ ob x1, b ∉ ob u2 := fun b hb h2 => by
      rcases hown b hb with h | h
      · exact hd b h h2
      · have := (ho2 b h2).2; omega
    replace hy := hy.ext (X' := ob u2 ++ (ob x1 ++ [b11, b12])) hT (fun b hb => by simp [hb]) (fun b hb => by
      simp only [List.mem_append] at hb ⊢
      rcases hb with h | h | h
      · exact .inl (.inr (.inl h))
      · rcases hown b h with h' | h'
        · exact .inl (.inl h')
        · exact .inr h'
      · exact .inl (.inr (.inr h)))
    replace e11 := e11.ext hT (fun h => by have := (ho1 _ h).1; omega)
    replace e12 := e12.ext hT (fun h => by have := (ho1 _ h).1; omega)
    replace e14 := e14.ext hT (fun h => by have := n14 b14 (by simp [h]); omega)
    replace hW := hW.own hT (fun b hb => .inr (ho1 b hb).1)
    replace hSw := hSw.own hT (fun b hb => .inr (by have := (ho1 b hb).1; omega))
    have hXX : ∀ b ∈ ob u2 ++ (ob x1 ++ [b11, b12]), b < w13.heap.size := fun b hb => by
      simp only [List.mem_append, List.mem_cons, List.not_mem_nil, or_false] at hb
      rcases hb with h | h | h | h
      · exact (hr2.ob_le b h).2
      · exact (hov b h).2
      · rw [h]; exact e11.lt
      · rw [h]; exact e12.lt
    clear hT hbv
    have hcv : x1.cells.toList = [x1] := by
      obtain ⟨p, c, h, -⟩ := id hrv.drop
      rw [h]; rfl
    refine W ?_
    refine WL_eff0 (OE_store1 (o := 3) (u := x1) rfl rfl hcv hrv.drop.one e11 (by simp)) ?_
    rintro _ w14 ⟨hT, e11⟩
    replace e11 : Blk w14 b11 24 (ndC (.mk kd n s (L ++ [y])) x1) := e11
    replace hXX := fun b hb => Nat.lt_of_lt_of_le (hXX b hb) hT.size
    replace hrv := hrv.ext (X' := ob u2 ++ [b11, b12]) hT (fun b hb => ⟨by simp at hb; simp [hb], fun h => by have := (hov _ h).1; simp at hb; omega⟩) (fun b hb => .inl hb)
    replace hr2 := hr2.ext (X' := ob x1 ++ [b11, b12]) hT (fun b hb => ⟨by simp at hb; simp [hb], fun h => by have := (ho2 _ h).1; simp at hb; omega⟩) (fun b hb => .inl hb)
    replace hy := hy.ext hT (fun b hb => by simp at hb; simp [hb]) (fun _ h => .inl h)
    replace e12 := e12.ext hT (by simp; omega)
    replace e14 := e14.ext hT (by have := n14 b11 (by simp); simp; omega)
    replace hW := hW.trans (hT.mono (by simp))
    replace hSw := hSw.own hT (fun b hb => .inr (by simp at hb; omega))
    clear hT hown hbase hbase2 ho1 ho2 hov hcv
    have hr1 := hrv
    replace hd := hd'
    clear hrv hd'
    refine W ?_
    refine WL_eff (OE_buildSlice (vs := [(0, .agg (ndC y (.slice p0 y.kids.length c0)).toArray)]) rfl (buildSN1 _ _ _ _ _ _)) rfl ?_
    rintro bv w12 hN
    have hbv : SlV (ob u2 ++ (ob x1 ++ [b11, b12])) w12 bv [y] := hN.slvG (css := [ndC y _]) hXX rfl rfl rfl (reps1 hy) (by simp [maxLen])
    have hT := NewSl.stp hN
    clear hN
    have hT0 := hT.size
    replace hXX := fun b hb => Nat.lt_of_lt_of_le (hXX b hb) hT0
    clear hT0
    replace hy := hy.up hT
    replace e14 := e14.up hT
    replace hr1 := hr1.up hT
    replace hr2 := hr2.up hT
    replace e11 := e11.up hT
    replace e12 := e12.up hT
    replace hW := hW.trans (hT.mono (by simp))
    replace hSw := hSw.trans hT
    clear hT
    have hbase := hW.size
    have hbase2 := hS.size
    refine WL_eff (OE_append (X := ob x1 ++ [b11, b12]) (base := w5.heap.size) rfl (by decide) rfl rfl hr2 hbv (by simp only [List.length_cons, List.length_nil]; omega) (by simp only [List.length_cons, List.length_nil, maxLen]; omega) hbase) rfl ?_
    rintro x2 w13 ⟨hrv, hT, hown⟩
    have ho1 := hr2.ob_le
    have ho2 := hr1.ob_le
    have hov := hrv.ob_le
    clear hr2
    replace hr1 := hr1.ext (X' := ob x2 ++ [b11, b12]) hT (fun b hb => ⟨by simp [hb], fun h => hd b h hb⟩) (fun b hb => by
      simp only [List.mem_append] at hb ⊢
      rcases hb with h | h
      · rcases hown b h with h' | h'
        · exact .inl (.inl h')
        · exact .inr h'
      · exact .inl (.inr h))
    have hd' : ∀ b ∈ ob x2, b ∉ ob x1 := fun b hb h2 => by
      rcases hown b hb with h | h
      · exact hd b h2 h
      · have := (ho2 b h2).2; omega
    replace hy := hy.ext (X' := ob x1 ++ (ob x2 ++ [b11, b12])) hT (fun b hb => by simp [hb]) (fun b hb => by
      simp only [List.mem_append] at hb ⊢
      rcases hb with h | h | h
      · exact .inl (.inr (.inl h))
      · rcases hown b h with h' | h'
        · exact .inl (.inl h')
        · exact .inr h'
      · exact .inl (.inr (.inr h)))
    replace e11 := e11.ext hT (fun h => by have := (ho1 _ h).1; omega)
    replace e12 := e12.ext hT (fun h => by have := (ho1 _ h).1; omega)
    replace e14 := e14.ext hT (fun h => by have := n14 b14 (by simp [h]); omega)
    replace hW := hW.own hT (fun b hb => .inr (ho1 b hb).1)
    replace hSw := hSw.own hT (fun b hb => .inr (by have := (ho1 b hb).1; omega))
    have hXX : ∀ b ∈ ob x1 ++ (ob x2 ++ [b11, b12]), b < w13.heap.size := fun b hb => by
      simp only [List.mem_append, List.mem_cons, List.not_mem_nil, or_false] at hb
      rcases hb with h | h | h | h
      · exact (hr1.ob_le b h).2
      · exact (hov b h).2
      · rw [h]; exact e11.lt
      · rw [h]; exact e12.lt
    clear hT hbv
    have hcv : x2.cells.toList = [x2] := by
      obtain ⟨p, c, h, -⟩ := id hrv.drop
      rw [h]; rfl
    refine W ?_
    refine WL_eff0 (OE_store1 (o := 3) (u := x2) rfl rfl hcv hrv.drop.one e12 (by simp)) ?_
    rintro _ w14 ⟨hT, e12⟩
    replace e12 : Blk w14 b12 24 (ndC (.mk (1 + k0) 0 s (L ++ [y])) x2) := e12
    replace hXX := fun b hb => Nat.lt_of_lt_of_le (hXX b hb) hT.size
    replace hrv := hrv.ext (X' := ob x1 ++ [b11, b12]) hT (fun b hb => ⟨by simp at hb; simp [hb], fun h => by have := (hov _ h).1; simp at hb; omega⟩) (fun b hb => .inl hb)
    replace hr1 := hr1.ext (X' := ob x2 ++ [b11, b12]) hT (fun b hb => ⟨by simp at hb; simp [hb], fun h => by have := (ho2 _ h).1; simp at hb; omega⟩) (fun b hb => .inl hb)
    replace hy := hy.ext hT (fun b hb => by simp at hb; simp [hb]) (fun _ h => .inl h)
    replace e11 := e11.ext hT (by simp; omega)
    replace e14 := e14.ext hT (by have := n14 b12 (by simp); simp; omega)
    replace hW := hW.trans (hT.mono (by simp))
    replace hSw := hSw.own hT (fun b hb => .inr (by simp at hb; omega))
    clear hT hown hbase hbase2 ho1 ho2 hov hcv
    refine W ?_
    exact WQ_loop (j + 1, x1, x2, L ++ [y]) ⟨rfl, rfl, rfl, rfl, rfl, trivial⟩ ⟨by dsimp only; omega, by simp [hL], fun z hz => by
      rcases List.mem_append.1 hz with h | h
      · exact hLs z h
      · rw [List.mem_singleton.1 h]; exact hsy, hr1, hrv, fun b hb h => hd' b h hb, e11, e12, hW⟩ (by dsimp only; omega)
  · have d1 := hr1.drop
    have d2 := hr2.drop
    have hok : ∀ k n s, okN (.mk k n s L) = true := fun k n s => (okN_iff _).2 ⟨by show L.length ≤ 1000; omega, fun y hy => okN_of_size y (by have := hLs y hy; omega)⟩
    have hn : ∀ k n s, nestN (.mk k n s L) ≤ 1000000 := fun k n s => by
      rw [nestN_eq]
      have : ((Nd.mk k n s L).kids.map nestN).foldl max 0 ≤ 400 := (foldl_max_le _ _ _).2 ⟨by omega, fun x hx => by
        obtain ⟨y, hy, rfl⟩ := List.mem_map.1 hx
        exact Nat.le_trans (nest_le_size y) (hLs y hy)⟩
      omega
    obtain ⟨T1, hT1⟩ : ∃ t, (if nestN (.mk kd n s L) ≤ 12 then typeT (.mk kd n s L) else 0) = t := ⟨_, rfl⟩
    obtain ⟨E1, hE1⟩ : ∃ t, (if nestN (.mk kd n s L) ≤ 12 then (if typeT (.mk kd n s L) = 0 then (21 : Int) else 0) else 2) = t := ⟨_, rfl⟩
    obtain ⟨T2, hT2⟩ : ∃ t, (if nestN (.mk (1 + k0) 0 s L) ≤ 12 then typeT (.mk (1 + k0) 0 s L) else 0) = t := ⟨_, rfl⟩
    obtain ⟨E2, hE2⟩ : ∃ t, (if nestN (.mk (1 + k0) 0 s L) ≤ 12 then (if typeT (.mk (1 + k0) 0 s L) = 0 then (21 : Int) else 0) else 2) = t := ⟨_, rfl⟩
    repeat' (first | refine W1 ?_ | (exfalso; omega) | refine WL_split rfl rfl (fun hg => ?_) (fun hg => ?_) | refine WL_splitB rfl rfl (fun hg => ?_) (fun hg => ?_) | refine WC_cond rfl (fun hc => ?_) (fun hc => ?_) | refine WC_condB rfl (fun hc => ?_) (fun hc => ?_))
    refine WL_eff (OE_call rfl (evs1 rfl) (OfL_any _ (.mk kd n s L) T1 E1 _ ⟨u1, rfl, d1⟩ (hF.up hSw) hT1 hE1)) rfl ?_
    rintro _ w8 ⟨rfl, hT⟩
    replace d1 := d1.up hT
    replace d2 := d2.up hT
    replace e11 := e11.up hT
    replace e12 := e12.up hT
    replace hSw := hSw.trans hT
    clear hT
    repeat' (first | refine W1 ?_ | (exfalso; omega) | refine WL_split rfl rfl (fun hg => ?_) (fun hg => ?_) | refine WL_splitB rfl rfl (fun hg => ?_) (fun hg => ?_) | refine WC_cond rfl (fun hc => ?_) (fun hc => ?_) | refine WC_condB rfl (fun hc => ?_) (fun hc => ?_))
    all_goals try (exact absurd rfl (by assumption))
    refine WL_eff (OE_call rfl (evs1 rfl) (OfL14_any _ (.mk kd n s L) T1 E1 _ (hok _ _ _) (hn _ _ _) ⟨u1, rfl, d1⟩ hT1 hE1)) rfl ?_
    rintro _ w8 ⟨rfl, hT⟩
    replace d1 := d1.up hT
    replace d2 := d2.up hT
    replace e11 := e11.up hT
    replace e12 := e12.up hT
    replace hSw := hSw.trans hT
    clear hT
    repeat' (first | refine W1 ?_ | (exfalso; omega) | refine WL_split rfl rfl (fun hg => ?_) (fun hg => ?_) | refine WL_splitB rfl rfl (fun hg => ?_) (fun hg => ?_) | refine WC_cond rfl (fun hc => ?_) (fun hc => ?_) | refine WC_condB rfl (fun hc => ?_) (fun hc => ?_))
    all_goals try (exact absurd rfl (by assumption))
    refine WL_eff (OE_call rfl (evs1 rfl) (OfL_any _ (.mk (1 + k0) 0 s L) T2 E2 _ ⟨u2, rfl, d2⟩ (hF.up hSw) hT2 hE2)) rfl ?_
    rintro _ w8 ⟨rfl, hT⟩
    replace d1 := d1.up hT
    replace d2 := d2.up hT
    replace e11 := e11.up hT
    replace e12 := e12.up hT
    replace hSw := hSw.trans hT
    clear hT
    repeat' (first | refine W1 ?_ | (exfalso; omega) | refine WL_split rfl rfl (fun hg => ?_) (fun hg => ?_) | refine WL_splitB rfl rfl (fun hg => ?_) (fun hg => ?_) | refine WC_cond rfl (fun hc => ?_) (fun hc => ?_) | refine WC_condB rfl (fun hc => ?_) (fun hc => ?_))
    all_goals try (exact absurd rfl (by assumption))
    refine WL_eff (OE_call rfl (evs1 rfl) (OfL14_any _ (.mk (1 + k0) 0 s L) T2 E2 _ (hok _ _ _) (hn _ _ _) ⟨u2, rfl, d2⟩ hT2 hE2)) rfl ?_
    rintro _ w8 ⟨rfl, hT⟩
    replace d1 := d1.up hT
    replace d2 := d2.up hT
    replace e11 := e11.up hT
    replace e12 := e12.up hT
    replace hSw := hSw.trans hT
    clear hT
    repeat' (first | refine W1 ?_ | (exfalso; omega) | refine WL_split rfl rfl (fun hg => ?_) (fun hg => ?_) | refine WL_splitB rfl rfl (fun hg => ?_) (fun hg => ?_) | refine WC_cond rfl (fun hc => ?_) (fun hc => ?_) | refine WC_condB rfl (fun hc => ?_) (fun hc => ?_))
    all_goals try (exact absurd rfl (by assumption))
    refine WL_eff (OE_call rfl evs0 (lives14_any m _ (hF.up hSw) (hSw.cell (by simp) hm))) rfl ?_
    rintro _ w9 ⟨rfl, hT⟩
    refine W ?_
    first | refine WQ_ret1 rfl rfl ?_ | refine WQ_ret2 rfl rfl rfl ?_ | refine WQ_ret3 rfl rfl rfl rfl ?_ | refine WQ_ret0 rfl ?_ | refine WQ_end0 rfl ?_
    exact .mk ⟨rfl, hSw.trans hT⟩
end Go.Proofs.YtfjmlobgjdmecaaDoor
namespace Go.Proofs.YtfjmlobgjdmecaaDoor
open Go Go.Eng Go.RowKit
set_option linter.unusedVariables false
abbrev rlN (s : Str) : Rul := ⟨s, 0, s, .mk 2 0 [] [], .mk 3 0 [] [], [], []⟩
theorem ckN (s : Str) : decide (checkT (rlN s) = 0) = namedT s := by
  have m1 : mustF (.mk 2 0 [] []) 2 = 0 := by
    unfold mustF
    rw [show nestN (.mk 2 0 [] []) = 1 by simp only [nestN_eq, Nd.kids, List.map_nil]; rfl, show typeT (.mk 2 0 [] []) = 2 by simp only [typeT_eq, Nd.kids, Nd.kind, Nd.num, Nd.word, List.map_nil]; rfl]
    decide
  have m2 : mustF (.mk 3 0 [] []) 3 = 0 := by
    unfold mustF
    rw [show nestN (.mk 3 0 [] []) = 1 by simp only [nestN_eq, Nd.kids, List.map_nil]; rfl, show typeT (.mk 3 0 [] []) = 3 by simp only [typeT_eq, Nd.kids, Nd.kind, Nd.num, Nd.word, List.map_nil]; rfl]
    decide
  have hn : namesT (rlN s) = namedT s := by simp [namesT]
  unfold checkT
  rw [hn, m1, m2]
  cases namedT s <;> simp
theorem buildN0k (k : Int) (w : World) : (Instr.build 24 #[(0, .int .i64 k)]).run Tryd.prog w = .ok (.agg #[.int .i64 k, .int .i64 0, str [], .slice none 0 0]) w := by kernel_rfl
theorem CNamed_any (s : Str) (m : Int) (w : World) (hF : SlV [] w flds fieldNames) (hm : w.cell? ⟨1, 0, none⟩ = some (.int .i64 m)) :
    Calls Tryd.prog 69 #[str s] w (Ret fun r w' => r = .bool (namedT s) ∧ Stp [] w w') := by
  refine calls_of_WC1 (n := 12) Tryd.func69 rfl rfl rfl ?_
  refine W ?_
  apply WL_build (vs := [(0, .int .i64 2)]) rfl (buildN0k _) rfl
  apply WL_build (vs := [(0, .int .i64 3)]) rfl (buildN0k _) rfl
  apply WL_build (vs := [(0, str s), (2, str s), (3, .agg #[.int .i64 2, .int .i64 0, str [], .slice none 0 0]), (4, .agg #[.int .i64 3, .int .i64 0, str [], .slice none 0 0])]) rfl (buildRlL _ _ _ _ _ _ _ _ _ _ _ _ _ _) rfl
  refine WL_eff OE_alloc rfl ?_
  rintro _ w1 ⟨b, rfl, hb, e0, hT⟩
  refine WL_eff0 (OE_storeA (us := rlC (rlN s) nilS nilS) rfl rfl rfl rfl (rlC_one (rlN s) (nilSlv (α := Nd) [] w) (nilSlv (α := Nd) [] w)) e0 rfl) ?_
  rintro _ w2 ⟨hT2, e1⟩
  have hS := hT.own hT2 (fun b hb => .inr (by simp at hb; omega))
  clear hT hT2 e0
  refine W ?_
  refine WL_eff (OE_call rfl (evs1 rfl) (Check14_any _ (rlN s) m _ ⟨nilS, nilS, rfl, nilSlv _ _, nilSlv _ _⟩ (hF.up hS) (hS.cell (by simp) hm))) rfl ?_
  rintro _ w3 ⟨rfl, hT⟩
  replace hS := hS.trans hT
  refine W ?_
  first | refine WQ_ret1 rfl rfl ?_ | refine WQ_ret2 rfl rfl rfl ?_ | refine WQ_ret3 rfl rfl rfl rfl ?_ | refine WQ_ret0 rfl ?_ | refine WQ_end0 rfl ?_
  exact .mk ⟨by rw [← ckN s], hS⟩
/-- a compiled rule that is not valid -/
def badC (q : Cr) : Bool := decide ((verM q.cnd).2 ≠ 0) || decide ((verM q.due).2 ≠ 0) || decide ((verM q.cnd).1 ≠ 2) || decide ((verM q.due).1 ≠ 3) || decide (q.frm < 0) || decide (q.frm > 3652058) || !namedT q.name || !namedT q.on || (decide (q.unl ≠ []) && !namedT q.unl) || (decide (q.els ≠ []) && !namedT q.els)
def chkC (q : Cr) : Int := if badC q then 22 else 0
theorem CheckC_any (v : Value) (q : Cr) (w : World) (m : Int) (hF : SlV [] w flds fieldNames) (hm : w.cell? ⟨1, 0, none⟩ = some (.int .i64 m)) (hv : CrV [] w v q) :
    Calls Tryd.prog 30 #[v] w (Ret fun r w' => r = .int .i64 (chkC q) ∧ Stp [] w w') := by
  obtain ⟨kc, kd, rfl, hc1, hd1⟩ := hv
  refine calls_of_WC1 (n := 60) Tryd.func30 rfl rfl rfl ?_
  refine W ?_
  refine WL_eff (OE_box rfl) rfl ?_
  rintro _ w1 ⟨b, rfl, hb, e1, hS⟩
  replace e1 : Blk w1 b 53 (crC q kc kd) := e1
  replace hc1 := hc1.up hS
  replace hd1 := hd1.up hS
  clear hb
  refine W ?_
  refine WL_eff (OE_call rfl (evs1 rfl) (Verify_any _ q.cnd _ hc1)) rfl ?_
  rintro _ w2 ⟨rfl, hT⟩
  replace e1 := e1.up hT
  replace hc1 := hc1.up hT
  replace hd1 := hd1.up hT
  replace hS := hS.trans hT
  clear hT
  refine W ?_
  refine WL_eff (OE_call rfl (evs1 rfl) (Verify_any _ q.due _ hd1)) rfl ?_
  rintro _ w2 ⟨rfl, hT⟩
  replace e1 := e1.up hT
  replace hc1 := hc1.up hT
  replace hd1 := hd1.up hT
  replace hS := hS.trans hT
  clear hT
  refine W ?_
  refine WC_cutQ (σ := Bool) (fun u => [(1, .pointer (some ⟨b, 0, none⟩)), (2, .int .i64 0), (19, .bool u)]) (fun u w' => Blk w' b 53 (crC q kc kd) ∧ Stp [] w w' ∧ u = badC q) ?_ ?_
  · repeat' (first | refine W1 ?_ | (exfalso; omega) | refine WL_split rfl rfl (fun hg => ?_) (fun hg => ?_) | refine WL_splitB rfl rfl (fun hg => ?_) (fun hg => ?_) | refine WC_cond rfl (fun hc => ?_) (fun hc => ?_) | refine WC_condB rfl (fun hc => ?_) (fun hc => ?_))
    all_goals try (first | exact WQ_cut true ⟨rfl, rfl, rfl, trivial⟩ ⟨e1, hS, by simp [badC, *]⟩ | exact WQ_cut false ⟨rfl, rfl, rfl, trivial⟩ ⟨e1, hS, by simp [badC, *]⟩ | exact WQ_cut _ ⟨rfl, rfl, rfl, trivial⟩ ⟨e1, hS, by simp [badC, *]⟩)
    refine W ?_
    refine WL_eff (OE_call rfl (evs1 rfl) (CNamed_any q.name m _ (hF.up hS) (hS.cell (by simp) hm))) rfl ?_
    rintro _ w3 ⟨rfl, hT⟩
    replace e1 := e1.up hT
    replace hc1 := hc1.up hT
    replace hd1 := hd1.up hT
    replace hS := hS.trans hT
    clear hT
    cases hn_name : namedT q.name with
    | false =>
      repeat' (first | refine W1 ?_ | (exfalso; omega) | refine WL_split rfl rfl (fun hg => ?_) (fun hg => ?_) | refine WL_splitB rfl rfl (fun hg => ?_) (fun hg => ?_) | refine WC_cond rfl (fun hc => ?_) (fun hc => ?_) | refine WC_condB rfl (fun hc => ?_) (fun hc => ?_))
      all_goals (first | exact WQ_cut true ⟨rfl, rfl, rfl, trivial⟩ ⟨e1, hS, by simp [badC, *]⟩ | exact WQ_cut false ⟨rfl, rfl, rfl, trivial⟩ ⟨e1, hS, by simp [badC, *]⟩ | exact WQ_cut _ ⟨rfl, rfl, rfl, trivial⟩ ⟨e1, hS, by simp [badC, *]⟩)
    | true =>
      repeat' (first | refine W1 ?_ | (exfalso; omega) | refine WL_split rfl rfl (fun hg => ?_) (fun hg => ?_) | refine WL_splitB rfl rfl (fun hg => ?_) (fun hg => ?_) | refine WC_cond rfl (fun hc => ?_) (fun hc => ?_) | refine WC_condB rfl (fun hc => ?_) (fun hc => ?_))
      refine W ?_
      refine WL_eff (OE_call rfl (evs1 rfl) (CNamed_any q.on m _ (hF.up hS) (hS.cell (by simp) hm))) rfl ?_
      rintro _ w3 ⟨rfl, hT⟩
      replace e1 := e1.up hT
      replace hc1 := hc1.up hT
      replace hd1 := hd1.up hT
      replace hS := hS.trans hT
      clear hT
      cases hn_on : namedT q.on with
      | false =>
        repeat' (first | refine W1 ?_ | (exfalso; omega) | refine WL_split rfl rfl (fun hg => ?_) (fun hg => ?_) | refine WL_splitB rfl rfl (fun hg => ?_) (fun hg => ?_) | refine WC_cond rfl (fun hc => ?_) (fun hc => ?_) | refine WC_condB rfl (fun hc => ?_) (fun hc => ?_))
        all_goals (first | exact WQ_cut true ⟨rfl, rfl, rfl, trivial⟩ ⟨e1, hS, by simp [badC, *]⟩ | exact WQ_cut false ⟨rfl, rfl, rfl, trivial⟩ ⟨e1, hS, by simp [badC, *]⟩ | exact WQ_cut _ ⟨rfl, rfl, rfl, trivial⟩ ⟨e1, hS, by simp [badC, *]⟩)
      | true =>
        repeat' (first | refine W1 ?_ | (exfalso; omega) | refine WL_split rfl rfl (fun hg => ?_) (fun hg => ?_) | refine WL_splitB rfl rfl (fun hg => ?_) (fun hg => ?_) | refine WC_cond rfl (fun hc => ?_) (fun hc => ?_) | refine WC_condB rfl (fun hc => ?_) (fun hc => ?_))
        · refine W ?_
          refine WL_eff (OE_call rfl (evs1 rfl) (CNamed_any q.unl m _ (hF.up hS) (hS.cell (by simp) hm))) rfl ?_
          rintro _ w3 ⟨rfl, hT⟩
          replace e1 := e1.up hT
          replace hc1 := hc1.up hT
          replace hd1 := hd1.up hT
          replace hS := hS.trans hT
          clear hT
          cases hn_unl : namedT q.unl with
          | false =>
            repeat' (first | refine W1 ?_ | (exfalso; omega) | refine WL_split rfl rfl (fun hg => ?_) (fun hg => ?_) | refine WL_splitB rfl rfl (fun hg => ?_) (fun hg => ?_) | refine WC_cond rfl (fun hc => ?_) (fun hc => ?_) | refine WC_condB rfl (fun hc => ?_) (fun hc => ?_))
            all_goals (first | exact WQ_cut true ⟨rfl, rfl, rfl, trivial⟩ ⟨e1, hS, by simp [badC, *]⟩ | exact WQ_cut false ⟨rfl, rfl, rfl, trivial⟩ ⟨e1, hS, by simp [badC, *]⟩ | exact WQ_cut _ ⟨rfl, rfl, rfl, trivial⟩ ⟨e1, hS, by simp [badC, *]⟩)
          | true =>
            repeat' (first | refine W1 ?_ | (exfalso; omega) | refine WL_split rfl rfl (fun hg => ?_) (fun hg => ?_) | refine WL_splitB rfl rfl (fun hg => ?_) (fun hg => ?_) | refine WC_cond rfl (fun hc => ?_) (fun hc => ?_) | refine WC_condB rfl (fun hc => ?_) (fun hc => ?_))
            · refine W ?_
              refine WL_eff (OE_call rfl (evs1 rfl) (CNamed_any q.els m _ (hF.up hS) (hS.cell (by simp) hm))) rfl ?_
              rintro _ w3 ⟨rfl, hT⟩
              replace e1 := e1.up hT
              replace hc1 := hc1.up hT
              replace hd1 := hd1.up hT
              replace hS := hS.trans hT
              clear hT
              cases hn_els : namedT q.els with
              | false =>
                repeat' (first | refine W1 ?_ | (exfalso; omega) | refine WL_split rfl rfl (fun hg => ?_) (fun hg => ?_) | refine WL_splitB rfl rfl (fun hg => ?_) (fun hg => ?_) | refine WC_cond rfl (fun hc => ?_) (fun hc => ?_) | refine WC_condB rfl (fun hc => ?_) (fun hc => ?_))
                all_goals (first | exact WQ_cut true ⟨rfl, rfl, rfl, trivial⟩ ⟨e1, hS, by simp [badC, *]⟩ | exact WQ_cut false ⟨rfl, rfl, rfl, trivial⟩ ⟨e1, hS, by simp [badC, *]⟩ | exact WQ_cut _ ⟨rfl, rfl, rfl, trivial⟩ ⟨e1, hS, by simp [badC, *]⟩)
              | true =>
                repeat' (first | refine W1 ?_ | (exfalso; omega) | refine WL_split rfl rfl (fun hg => ?_) (fun hg => ?_) | refine WL_splitB rfl rfl (fun hg => ?_) (fun hg => ?_) | refine WC_cond rfl (fun hc => ?_) (fun hc => ?_) | refine WC_condB rfl (fun hc => ?_) (fun hc => ?_))
                all_goals (first | exact WQ_cut true ⟨rfl, rfl, rfl, trivial⟩ ⟨e1, hS, by simp [badC, *]⟩ | exact WQ_cut false ⟨rfl, rfl, rfl, trivial⟩ ⟨e1, hS, by simp [badC, *]⟩ | exact WQ_cut _ ⟨rfl, rfl, rfl, trivial⟩ ⟨e1, hS, by simp [badC, *]⟩)
            all_goals (first | exact WQ_cut true ⟨rfl, rfl, rfl, trivial⟩ ⟨e1, hS, by simp [badC, *]⟩ | exact WQ_cut false ⟨rfl, rfl, rfl, trivial⟩ ⟨e1, hS, by simp [badC, *]⟩ | exact WQ_cut _ ⟨rfl, rfl, rfl, trivial⟩ ⟨e1, hS, by simp [badC, *]⟩)
        · refine W ?_
          refine WL_eff (OE_call rfl (evs1 rfl) (CNamed_any q.els m _ (hF.up hS) (hS.cell (by simp) hm))) rfl ?_
          rintro _ w3 ⟨rfl, hT⟩
          replace e1 := e1.up hT
          replace hc1 := hc1.up hT
          replace hd1 := hd1.up hT
          replace hS := hS.trans hT
          clear hT
          cases hn_els : namedT q.els with
          | false =>
            repeat' (first | refine W1 ?_ | (exfalso; omega) | refine WL_split rfl rfl (fun hg => ?_) (fun hg => ?_) | refine WL_splitB rfl rfl (fun hg => ?_) (fun hg => ?_) | refine WC_cond rfl (fun hc => ?_) (fun hc => ?_) | refine WC_condB rfl (fun hc => ?_) (fun hc => ?_))
            all_goals (first | exact WQ_cut true ⟨rfl, rfl, rfl, trivial⟩ ⟨e1, hS, by simp [badC, *]⟩ | exact WQ_cut false ⟨rfl, rfl, rfl, trivial⟩ ⟨e1, hS, by simp [badC, *]⟩ | exact WQ_cut _ ⟨rfl, rfl, rfl, trivial⟩ ⟨e1, hS, by simp [badC, *]⟩)
          | true =>
            repeat' (first | refine W1 ?_ | (exfalso; omega) | refine WL_split rfl rfl (fun hg => ?_) (fun hg => ?_) | refine WL_splitB rfl rfl (fun hg => ?_) (fun hg => ?_) | refine WC_cond rfl (fun hc => ?_) (fun hc => ?_) | refine WC_condB rfl (fun hc => ?_) (fun hc => ?_))
            all_goals (first | exact WQ_cut true ⟨rfl, rfl, rfl, trivial⟩ ⟨e1, hS, by simp [badC, *]⟩ | exact WQ_cut false ⟨rfl, rfl, rfl, trivial⟩ ⟨e1, hS, by simp [badC, *]⟩ | exact WQ_cut _ ⟨rfl, rfl, rfl, trivial⟩ ⟨e1, hS, by simp [badC, *]⟩)
        all_goals (first | exact WQ_cut true ⟨rfl, rfl, rfl, trivial⟩ ⟨e1, hS, by simp [badC, *]⟩ | exact WQ_cut false ⟨rfl, rfl, rfl, trivial⟩ ⟨e1, hS, by simp [badC, *]⟩ | exact WQ_cut _ ⟨rfl, rfl, rfl, trivial⟩ ⟨e1, hS, by simp [badC, *]⟩)
  rintro u w4 ⟨e1, hS, hu⟩
  try dsimp only at hu ⊢
  unfold chkC
  rw [← hu]
  cases u with
  | true =>
    repeat' (first | refine W1 ?_ | (exfalso; omega) | refine WL_split rfl rfl (fun hg => ?_) (fun hg => ?_) | refine WL_splitB rfl rfl (fun hg => ?_) (fun hg => ?_) | refine WC_cond rfl (fun hc => ?_) (fun hc => ?_) | refine WC_condB rfl (fun hc => ?_) (fun hc => ?_))
    first | refine WQ_ret1 rfl rfl ?_ | refine WQ_ret2 rfl rfl rfl ?_ | refine WQ_ret3 rfl rfl rfl rfl ?_ | refine WQ_ret0 rfl ?_ | refine WQ_end0 rfl ?_
    exact .mk ⟨rfl, hS⟩
  | false =>
    repeat' (first | refine W1 ?_ | (exfalso; omega) | refine WL_split rfl rfl (fun hg => ?_) (fun hg => ?_) | refine WL_splitB rfl rfl (fun hg => ?_) (fun hg => ?_) | refine WC_cond rfl (fun hc => ?_) (fun hc => ?_) | refine WC_condB rfl (fun hc => ?_) (fun hc => ?_))
    first | refine WQ_ret1 rfl rfl ?_ | refine WQ_ret2 rfl rfl rfl ?_ | refine WQ_ret3 rfl rfl rfl rfl ?_ | refine WQ_ret0 rfl ?_ | refine WQ_end0 rfl ?_
    exact .mk ⟨rfl, hS⟩
def okC (q : Cr) : Bool := namedT q.name && namedT q.on && (decide (q.unl = []) || namedT q.unl) && (decide (q.els = []) || namedT q.els)
theorem badC_eq (q : Cr) : badC q = (!okC q || decide (q.frm < 0) || decide (q.frm > 3652058) || decide ((verM q.cnd).2 ≠ 0) || decide ((verM q.due).2 ≠ 0) || decide ((verM q.cnd).1 ≠ 2) || decide ((verM q.due).1 ≠ 3)) := by
  unfold badC okC
  generalize decide ((verM q.cnd).2 ≠ 0) = a1
  generalize decide ((verM q.due).2 ≠ 0) = a2
  generalize decide ((verM q.cnd).1 ≠ 2) = a3
  generalize decide ((verM q.due).1 ≠ 3) = a4
  generalize decide (q.frm < 0) = a5
  generalize decide (q.frm > 3652058) = a6
  generalize namedT q.name = a7
  generalize namedT q.on = a8
  generalize namedT q.unl = a9
  generalize namedT q.els = b1
  have h1 : decide (q.unl ≠ []) = !decide (q.unl = []) := by simp
  have h2 : decide (q.els ≠ []) = !decide (q.els = []) := by simp
  rw [h1, h2]
  generalize decide (q.unl = []) = b2
  generalize decide (q.els = []) = b3
  simp only [Bool.not_and, Bool.not_or]
  ac_rfl
theorem CheckCR_any (v : Value) (q : Cr) (w : World) (hv : CrV [] w v q) :
    Calls Tryd.prog 31 #[v] w (Ret fun r w' => r = .int .i64 (chkC q) ∧ Stp [] w w') := by
  obtain ⟨kc, kd, rfl, hc1, hd1⟩ := hv
  refine calls_of_WC1 (n := 76) Tryd.func31 rfl rfl rfl ?_
  refine W ?_
  refine WL_eff (OE_box rfl) rfl ?_
  rintro _ w1 ⟨b, rfl, hb, e1, hS⟩
  replace e1 : Blk w1 b 53 (crC q kc kd) := e1
  replace hc1 := hc1.up hS
  replace hd1 := hd1.up hS
  clear hb
  refine W ?_
  refine WL_eff (OE_call rfl (evs1 rfl) (VerifyR_any _ q.cnd _ hc1)) rfl ?_
  rintro _ w2 ⟨rfl, hT⟩
  replace e1 := e1.up hT
  replace hc1 := hc1.up hT
  replace hd1 := hd1.up hT
  replace hS := hS.trans hT
  clear hT
  refine W ?_
  refine WL_eff (OE_call rfl (evs1 rfl) (VerifyR_any _ q.due _ hd1)) rfl ?_
  rintro _ w2 ⟨rfl, hT⟩
  replace e1 := e1.up hT
  replace hc1 := hc1.up hT
  replace hd1 := hd1.up hT
  replace hS := hS.trans hT
  clear hT
  refine W ?_
  refine WL_cutQ (σ := Bool) (fun u => [(1, .pointer (some ⟨b, 0, none⟩)), (2, .int .i64 0), (3, .int .i64 (verM q.cnd).1), (4, .int .i64 (verM q.cnd).2), (5, .int .i64 (verM q.due).1), (6, .int .i64 (verM q.due).2), (7, .bool u)]) (fun u w' => Blk w' b 53 (crC q kc kd) ∧ Stp [] w w' ∧ u = okC q) ?_ ?_
  · refine W ?_
    refine WL_eff (OE_call rfl (evs1 rfl) (Named14_any q.name _)) rfl ?_
    rintro _ w3 ⟨rfl, hT⟩
    replace e1 := e1.up hT
    replace hc1 := hc1.up hT
    replace hd1 := hd1.up hT
    replace hS := hS.trans hT
    clear hT
    cases hn_name : namedT q.name with
    | false =>
      repeat' (first | refine W1 ?_ | (exfalso; omega) | refine WL_split rfl rfl (fun hg => ?_) (fun hg => ?_) | refine WL_splitB rfl rfl (fun hg => ?_) (fun hg => ?_) | refine WC_cond rfl (fun hc => ?_) (fun hc => ?_) | refine WC_condB rfl (fun hc => ?_) (fun hc => ?_))
      all_goals (first | exact WQ_cut true ⟨rfl, rfl, rfl, rfl, rfl, rfl, rfl, trivial⟩ ⟨e1, hS, by simp [okC, *]⟩ | exact WQ_cut false ⟨rfl, rfl, rfl, rfl, rfl, rfl, rfl, trivial⟩ ⟨e1, hS, by simp [okC, *]⟩ | exact WQ_cut _ ⟨rfl, rfl, rfl, rfl, rfl, rfl, rfl, trivial⟩ ⟨e1, hS, by simp [okC, *]⟩)
    | true =>
      refine W ?_
      refine WL_eff (OE_call rfl (evs1 rfl) (Named14_any q.on _)) rfl ?_
      rintro _ w3 ⟨rfl, hT⟩
      replace e1 := e1.up hT
      replace hc1 := hc1.up hT
      replace hd1 := hd1.up hT
      replace hS := hS.trans hT
      clear hT
      cases hn_on : namedT q.on with
      | false =>
        repeat' (first | refine W1 ?_ | (exfalso; omega) | refine WL_split rfl rfl (fun hg => ?_) (fun hg => ?_) | refine WL_splitB rfl rfl (fun hg => ?_) (fun hg => ?_) | refine WC_cond rfl (fun hc => ?_) (fun hc => ?_) | refine WC_condB rfl (fun hc => ?_) (fun hc => ?_))
        all_goals (first | exact WQ_cut true ⟨rfl, rfl, rfl, rfl, rfl, rfl, rfl, trivial⟩ ⟨e1, hS, by simp [okC, *]⟩ | exact WQ_cut false ⟨rfl, rfl, rfl, rfl, rfl, rfl, rfl, trivial⟩ ⟨e1, hS, by simp [okC, *]⟩ | exact WQ_cut _ ⟨rfl, rfl, rfl, rfl, rfl, rfl, rfl, trivial⟩ ⟨e1, hS, by simp [okC, *]⟩)
      | true =>
        by_cases hu : q.unl = []
        · repeat' (first | refine W1 ?_ | (exfalso; omega) | refine WL_split rfl rfl (fun hg => ?_) (fun hg => ?_) | refine WL_splitB rfl rfl (fun hg => ?_) (fun hg => ?_) | refine WC_cond rfl (fun hc => ?_) (fun hc => ?_) | refine WC_condB rfl (fun hc => ?_) (fun hc => ?_))
          all_goals try contradiction
          all_goals try (first | exact WQ_cut true ⟨rfl, rfl, rfl, rfl, rfl, rfl, rfl, trivial⟩ ⟨e1, hS, by simp [okC, *]⟩ | exact WQ_cut false ⟨rfl, rfl, rfl, rfl, rfl, rfl, rfl, trivial⟩ ⟨e1, hS, by simp [okC, *]⟩ | exact WQ_cut _ ⟨rfl, rfl, rfl, rfl, rfl, rfl, rfl, trivial⟩ ⟨e1, hS, by simp [okC, *]⟩)
          by_cases he : q.els = []
          · repeat' (first | refine W1 ?_ | (exfalso; omega) | refine WL_split rfl rfl (fun hg => ?_) (fun hg => ?_) | refine WL_splitB rfl rfl (fun hg => ?_) (fun hg => ?_) | refine WC_cond rfl (fun hc => ?_) (fun hc => ?_) | refine WC_condB rfl (fun hc => ?_) (fun hc => ?_))
            all_goals try contradiction
            all_goals (first | exact WQ_cut true ⟨rfl, rfl, rfl, rfl, rfl, rfl, rfl, trivial⟩ ⟨e1, hS, by simp [okC, *]⟩ | exact WQ_cut false ⟨rfl, rfl, rfl, rfl, rfl, rfl, rfl, trivial⟩ ⟨e1, hS, by simp [okC, *]⟩ | exact WQ_cut _ ⟨rfl, rfl, rfl, rfl, rfl, rfl, rfl, trivial⟩ ⟨e1, hS, by simp [okC, *]⟩)
          repeat' (first | refine W1 ?_ | (exfalso; omega) | refine WL_split rfl rfl (fun hg => ?_) (fun hg => ?_) | refine WL_splitB rfl rfl (fun hg => ?_) (fun hg => ?_) | refine WC_cond rfl (fun hc => ?_) (fun hc => ?_) | refine WC_condB rfl (fun hc => ?_) (fun hc => ?_))
          all_goals try contradiction
          all_goals try (first | exact WQ_cut true ⟨rfl, rfl, rfl, rfl, rfl, rfl, rfl, trivial⟩ ⟨e1, hS, by simp [okC, *]⟩ | exact WQ_cut false ⟨rfl, rfl, rfl, rfl, rfl, rfl, rfl, trivial⟩ ⟨e1, hS, by simp [okC, *]⟩ | exact WQ_cut _ ⟨rfl, rfl, rfl, rfl, rfl, rfl, rfl, trivial⟩ ⟨e1, hS, by simp [okC, *]⟩)
          refine W ?_
          refine WL_eff (OE_call rfl (evs1 rfl) (Named14_any q.els _)) rfl ?_
          rintro _ w3 ⟨rfl, hT⟩
          replace e1 := e1.up hT
          replace hc1 := hc1.up hT
          replace hd1 := hd1.up hT
          replace hS := hS.trans hT
          clear hT
          cases hn_els : namedT q.els with
          | false =>
            repeat' (first | refine W1 ?_ | (exfalso; omega) | refine WL_split rfl rfl (fun hg => ?_) (fun hg => ?_) | refine WL_splitB rfl rfl (fun hg => ?_) (fun hg => ?_) | refine WC_cond rfl (fun hc => ?_) (fun hc => ?_) | refine WC_condB rfl (fun hc => ?_) (fun hc => ?_))
            all_goals (first | exact WQ_cut true ⟨rfl, rfl, rfl, rfl, rfl, rfl, rfl, trivial⟩ ⟨e1, hS, by simp [okC, *]⟩ | exact WQ_cut false ⟨rfl, rfl, rfl, rfl, rfl, rfl, rfl, trivial⟩ ⟨e1, hS, by simp [okC, *]⟩ | exact WQ_cut _ ⟨rfl, rfl, rfl, rfl, rfl, rfl, rfl, trivial⟩ ⟨e1, hS, by simp [okC, *]⟩)
          | true =>
            repeat' (first | refine W1 ?_ | (exfalso; omega) | refine WL_split rfl rfl (fun hg => ?_) (fun hg => ?_) | refine WL_splitB rfl rfl (fun hg => ?_) (fun hg => ?_) | refine WC_cond rfl (fun hc => ?_) (fun hc => ?_) | refine WC_condB rfl (fun hc => ?_) (fun hc => ?_))
            all_goals (first | exact WQ_cut true ⟨rfl, rfl, rfl, rfl, rfl, rfl, rfl, trivial⟩ ⟨e1, hS, by simp [okC, *]⟩ | exact WQ_cut false ⟨rfl, rfl, rfl, rfl, rfl, rfl, rfl, trivial⟩ ⟨e1, hS, by simp [okC, *]⟩ | exact WQ_cut _ ⟨rfl, rfl, rfl, rfl, rfl, rfl, rfl, trivial⟩ ⟨e1, hS, by simp [okC, *]⟩)
        repeat' (first | refine W1 ?_ | (exfalso; omega) | refine WL_split rfl rfl (fun hg => ?_) (fun hg => ?_) | refine WL_splitB rfl rfl (fun hg => ?_) (fun hg => ?_) | refine WC_cond rfl (fun hc => ?_) (fun hc => ?_) | refine WC_condB rfl (fun hc => ?_) (fun hc => ?_))
        all_goals try contradiction
        all_goals try (first | exact WQ_cut true ⟨rfl, rfl, rfl, rfl, rfl, rfl, rfl, trivial⟩ ⟨e1, hS, by simp [okC, *]⟩ | exact WQ_cut false ⟨rfl, rfl, rfl, rfl, rfl, rfl, rfl, trivial⟩ ⟨e1, hS, by simp [okC, *]⟩ | exact WQ_cut _ ⟨rfl, rfl, rfl, rfl, rfl, rfl, rfl, trivial⟩ ⟨e1, hS, by simp [okC, *]⟩)
        refine W ?_
        refine WL_eff (OE_call rfl (evs1 rfl) (Named14_any q.unl _)) rfl ?_
        rintro _ w3 ⟨rfl, hT⟩
        replace e1 := e1.up hT
        replace hc1 := hc1.up hT
        replace hd1 := hd1.up hT
        replace hS := hS.trans hT
        clear hT
        cases hn_unl : namedT q.unl with
        | false =>
          repeat' (first | refine W1 ?_ | (exfalso; omega) | refine WL_split rfl rfl (fun hg => ?_) (fun hg => ?_) | refine WL_splitB rfl rfl (fun hg => ?_) (fun hg => ?_) | refine WC_cond rfl (fun hc => ?_) (fun hc => ?_) | refine WC_condB rfl (fun hc => ?_) (fun hc => ?_))
          all_goals (first | exact WQ_cut true ⟨rfl, rfl, rfl, rfl, rfl, rfl, rfl, trivial⟩ ⟨e1, hS, by simp [okC, *]⟩ | exact WQ_cut false ⟨rfl, rfl, rfl, rfl, rfl, rfl, rfl, trivial⟩ ⟨e1, hS, by simp [okC, *]⟩ | exact WQ_cut _ ⟨rfl, rfl, rfl, rfl, rfl, rfl, rfl, trivial⟩ ⟨e1, hS, by simp [okC, *]⟩)
        | true =>
          by_cases he : q.els = []
          · repeat' (first | refine W1 ?_ | (exfalso; omega) | refine WL_split rfl rfl (fun hg => ?_) (fun hg => ?_) | refine WL_splitB rfl rfl (fun hg => ?_) (fun hg => ?_) | refine WC_cond rfl (fun hc => ?_) (fun hc => ?_) | refine WC_condB rfl (fun hc => ?_) (fun hc => ?_))
            all_goals try contradiction
            all_goals (first | exact WQ_cut true ⟨rfl, rfl, rfl, rfl, rfl, rfl, rfl, trivial⟩ ⟨e1, hS, by simp [okC, *]⟩ | exact WQ_cut false ⟨rfl, rfl, rfl, rfl, rfl, rfl, rfl, trivial⟩ ⟨e1, hS, by simp [okC, *]⟩ | exact WQ_cut _ ⟨rfl, rfl, rfl, rfl, rfl, rfl, rfl, trivial⟩ ⟨e1, hS, by simp [okC, *]⟩)
          repeat' (first | refine W1 ?_ | (exfalso; omega) | refine WL_split rfl rfl (fun hg => ?_) (fun hg => ?_) | refine WL_splitB rfl rfl (fun hg => ?_) (fun hg => ?_) | refine WC_cond rfl (fun hc => ?_) (fun hc => ?_) | refine WC_condB rfl (fun hc => ?_) (fun hc => ?_))
          all_goals try contradiction
          all_goals try (first | exact WQ_cut true ⟨rfl, rfl, rfl, rfl, rfl, rfl, rfl, trivial⟩ ⟨e1, hS, by simp [okC, *]⟩ | exact WQ_cut false ⟨rfl, rfl, rfl, rfl, rfl, rfl, rfl, trivial⟩ ⟨e1, hS, by simp [okC, *]⟩ | exact WQ_cut _ ⟨rfl, rfl, rfl, rfl, rfl, rfl, rfl, trivial⟩ ⟨e1, hS, by simp [okC, *]⟩)
          refine W ?_
          refine WL_eff (OE_call rfl (evs1 rfl) (Named14_any q.els _)) rfl ?_
          rintro _ w3 ⟨rfl, hT⟩
          replace e1 := e1.up hT
          replace hc1 := hc1.up hT
          replace hd1 := hd1.up hT
          replace hS := hS.trans hT
          clear hT
          cases hn_els : namedT q.els with
          | false =>
            repeat' (first | refine W1 ?_ | (exfalso; omega) | refine WL_split rfl rfl (fun hg => ?_) (fun hg => ?_) | refine WL_splitB rfl rfl (fun hg => ?_) (fun hg => ?_) | refine WC_cond rfl (fun hc => ?_) (fun hc => ?_) | refine WC_condB rfl (fun hc => ?_) (fun hc => ?_))
            all_goals (first | exact WQ_cut true ⟨rfl, rfl, rfl, rfl, rfl, rfl, rfl, trivial⟩ ⟨e1, hS, by simp [okC, *]⟩ | exact WQ_cut false ⟨rfl, rfl, rfl, rfl, rfl, rfl, rfl, trivial⟩ ⟨e1, hS, by simp [okC, *]⟩ | exact WQ_cut _ ⟨rfl, rfl, rfl, rfl, rfl, rfl, rfl, trivial⟩ ⟨e1, hS, by simp [okC, *]⟩)
          | true =>
            repeat' (first | refine W1 ?_ | (exfalso; omega) | refine WL_split rfl rfl (fun hg => ?_) (fun hg => ?_) | refine WL_splitB rfl rfl (fun hg => ?_) (fun hg => ?_) | refine WC_cond rfl (fun hc => ?_) (fun hc => ?_) | refine WC_condB rfl (fun hc => ?_) (fun hc => ?_))
            all_goals (first | exact WQ_cut true ⟨rfl, rfl, rfl, rfl, rfl, rfl, rfl, trivial⟩ ⟨e1, hS, by simp [okC, *]⟩ | exact WQ_cut false ⟨rfl, rfl, rfl, rfl, rfl, rfl, rfl, trivial⟩ ⟨e1, hS, by simp [okC, *]⟩ | exact WQ_cut _ ⟨rfl, rfl, rfl, rfl, rfl, rfl, rfl, trivial⟩ ⟨e1, hS, by simp [okC, *]⟩)
  rintro u w4 ⟨e1, hS, hu⟩
  try dsimp only at hu ⊢
  have hb := badC_eq q
  rw [← hu] at hb
  unfold chkC
  rw [hb]
  clear hu hb
  cases u with
  | false =>
    repeat' (first | refine W1 ?_ | (exfalso; omega) | refine WL_split rfl rfl (fun hg => ?_) (fun hg => ?_) | refine WL_splitB rfl rfl (fun hg => ?_) (fun hg => ?_) | refine WC_cond rfl (fun hc => ?_) (fun hc => ?_) | refine WC_condB rfl (fun hc => ?_) (fun hc => ?_))
    first | refine WQ_ret1 rfl rfl ?_ | refine WQ_ret2 rfl rfl rfl ?_ | refine WQ_ret3 rfl rfl rfl rfl ?_ | refine WQ_ret0 rfl ?_ | refine WQ_end0 rfl ?_
    exact .mk ⟨by simp, hS⟩
  | true =>
    repeat' (first | refine W1 ?_ | (exfalso; omega) | refine WL_split rfl rfl (fun hg => ?_) (fun hg => ?_) | refine WL_splitB rfl rfl (fun hg => ?_) (fun hg => ?_) | refine WC_cond rfl (fun hc => ?_) (fun hc => ?_) | refine WC_condB rfl (fun hc => ?_) (fun hc => ?_))
    all_goals
      first | refine WQ_ret1 rfl rfl ?_ | refine WQ_ret2 rfl rfl rfl ?_ | refine WQ_ret3 rfl rfl rfl rfl ?_ | refine WQ_ret0 rfl ?_ | refine WQ_end0 rfl ?_
      exact .mk ⟨by simp [*], hS⟩
end Go.Proofs.YtfjmlobgjdmecaaDoor
namespace Go.Proofs.YtfjmlobgjdmecaaDoor
open Go Go.Eng Go.RowKit
set_option linter.unusedVariables false
/-- a code as numbers -/
def flatF (l : List Ins) : List Int := l.flatMap fun x => [x.op, x.n]
theorem flatF_len (l : List Ins) : (flatF l).length = 2 * l.length := by
  unfold flatF
  induction l with
  | nil => rfl
  | cons a l ih => simp only [List.flatMap_cons, List.length_append, List.length_cons, List.length_nil, ih]; omega
theorem flatF_succ (l : List Ins) (j : Nat) (h : j < l.length) : flatF (l.take (j + 1)) = flatF (l.take j) ++ [l[j].op, l[j].n] := by
  unfold flatF
  rw [List.take_succ_eq_append_getElem h, List.flatMap_append]
  simp
theorem Flat_any (v : Value) (l : List Ins) (w : World) (hlen : l.length ≤ 100000) (hs : SlV [] w v l) :
    Calls Tryd.prog 74 #[v] w (Ret fun r w' => Row [] w' w.heap.size 3 r (flatF l) ∧ Stp [] w w') := by
  have hmax := hs.max
  refine calls_of_WC1 (n := 21) Tryd.func74 rfl rfl rfl ?_
  refine W ?_
  have hs0 := hs
  refine WC_loop (σ := Nat × Value) (fun q => [(3, q.2), (6, v), (7, .int .i64 (l.length : Int)), (8, .int .i64 (q.1 : Int))]) (fun q w' => q.1 ≤ l.length ∧ Row [] w' w.heap.size 3 q.2 (flatF (l.take q.1)) ∧ Stp [] w w') (fun q => l.length - q.1) (0, .slice none 0 0) ⟨rfl, rfl, rfl, rfl, trivial⟩ ⟨Nat.zero_le _, Row.nil, Stp.refl _ _⟩ ?_
  clear hs
  rintro ⟨j, u⟩ w2 ⟨hj, hrow, hS⟩
  dsimp only at hj hrow ⊢
  have hs := hs0.up hS
  by_cases hlt : j < l.length
  · repeat' (first | refine W1 ?_ | (exfalso; omega) | refine WL_split rfl rfl (fun hg => ?_) (fun hg => ?_) | refine WL_splitB rfl rfl (fun hg => ?_) (fun hg => ?_) | refine WC_cond rfl (fun hc => ?_) (fun hc => ?_) | refine WC_condB rfl (fun hc => ?_) (fun hc => ?_))
    refine WL_eff OE_alloc rfl ?_
    rintro _ w3 ⟨b5, rfl, hb5, e0, hT⟩
    refine WL_eff0 (OE_storeA (us := Flat.enc l[j]) rfl rfl rfl rfl (Flat.one _) e0 rfl) ?_
    rintro _ w4 ⟨hT2, e5⟩
    replace hT := hT.own hT2 (fun b hb => .inr (by simp at hb; omega))
    clear hT2 e0 hb5
    replace hrow := hrow.up hT
    replace hS := hS.trans hT
    clear hT
    refine W ?_
    refine WL_eff (OE_buildSlice (vs := [(0, .int .i64 l[j].op), (1, .int .i64 l[j].n)]) rfl (buildSI2 _ _)) rfl ?_
    rintro bv w5 hN
    have hbv : SlV (ob u ++ []) w5 bv [l[j].op, l[j].n] := hN.slv (fun b hb => (hrow.ob_le b (by simpa using hb)).2) rfl rfl (by simp [maxLen])
    have hT := NewSl.stp hN
    clear hN
    replace hrow := hrow.up hT
    replace hS := hS.trans hT
    clear hT
    have hbase := hS.size
    have hfl := flatF_len (l.take j)
    rw [List.length_take, Nat.min_eq_left hj] at hfl
    refine WL_eff (OE_append (X := []) (base := w.heap.size) rfl (by decide) rfl rfl hrow hbv (by simp only [List.length_cons, List.length_nil]; omega) (by simp only [List.length_cons, List.length_nil, maxLen]; omega) hbase) rfl ?_
    rintro u' w6 ⟨hrow', hT, _⟩
    have hown : ∀ b ∈ ob u, b ∈ ([] : List Nat) ∨ w.heap.size ≤ b := fun c hc => .inr (hrow.ob_le c hc).1
    refine W ?_
    exact WQ_loop (j + 1, u') ⟨rfl, rfl, rfl, rfl, trivial⟩ ⟨hlt, by dsimp only; rw [flatF_succ l j hlt]; exact hrow', hS.own hT hown⟩ (by dsimp only; omega)
  · have hje : j = l.length := by omega
    subst hje
    rw [List.take_length] at hrow
    repeat' (first | refine W1 ?_ | (exfalso; omega) | refine WL_split rfl rfl (fun hg => ?_) (fun hg => ?_) | refine WL_splitB rfl rfl (fun hg => ?_) (fun hg => ?_) | refine WC_cond rfl (fun hc => ?_) (fun hc => ?_) | refine WC_condB rfl (fun hc => ?_) (fun hc => ?_))
    first | refine WQ_ret1 rfl rfl ?_ | refine WQ_ret2 rfl rfl rfl ?_ | refine WQ_ret3 rfl rfl rfl rfl ?_ | refine WQ_ret0 rfl ?_ | refine WQ_end0 rfl ?_
    exact .mk ⟨hrow, hS⟩
end Go.Proofs.YtfjmlobgjdmecaaDoor
namespace Go.Proofs.YtfjmlobgjdmecaaDoor
open Go Go.Eng Go.RowKit
set_option linter.unusedVariables false
theorem FlatR_any (v : Value) (l : List Ins) (w : World) (hlen : l.length ≤ 100000) (hs : SlV [] w v l) :
    Calls Tryd.prog 79 #[v] w (Ret fun r w' => Row [] w' w.heap.size 3 r (flatF l) ∧ Stp [] w w') := by
  have hmax := hs.max
  refine calls_of_WC1 (n := 25) Tryd.func79 rfl rfl rfl ?_
  refine W ?_
  have hs0 := hs
  refine WC_loop (σ := Nat × Value) (fun q => [(0, v), (3, q.2), (4, .int .i64 (q.1 : Int))]) (fun q w' => q.1 ≤ l.length ∧ Row [] w' w.heap.size 3 q.2 (flatF (l.take q.1)) ∧ Stp [] w w') (fun q => l.length - q.1) (0, .slice none 0 0) ⟨rfl, rfl, rfl, trivial⟩ ⟨Nat.zero_le _, Row.nil, Stp.refl _ _⟩ ?_
  clear hs
  rintro ⟨j, u⟩ w2 ⟨hj, hrow, hS⟩
  dsimp only at hj hrow ⊢
  have hs := hs0.up hS
  by_cases hlt : j < l.length
  · repeat' (first | refine W1 ?_ | (exfalso; omega) | refine WL_split rfl rfl (fun hg => ?_) (fun hg => ?_) | refine WL_splitB rfl rfl (fun hg => ?_) (fun hg => ?_) | refine WC_cond rfl (fun hc => ?_) (fun hc => ?_) | refine WC_condB rfl (fun hc => ?_) (fun hc => ?_))
    replace hs : SlV (ob u) w2 v l := hs0.ext hS (by simp) (fun b hb => .inr (hrow.ob_le b hb).1)
    refine WC_drawn 14 (ob u) [] [(0, 0), (1, 0), (2, 0), (3, 0), (4, 0), (5, 1), (6, 0), (7, 0), (8, 0), (9, 0), (10, 1), (11, 2), (12, 2), (13, 0)] rfl mixed (by kernel_rfl) (by kernel_rfl) (by kernel_rfl) (fun w1 hS1 => ?_)
    have hlew := hS1.size
    replace hrow := hrow.up (hS1.mono (by simp))
    replace hs := hs.up hS1
    replace hS := hS.trans hS1
    clear hS1
    refine D ?_
    refine WD_eff rfl trivial (OE_buildSlice (vs := [(0, .int .i64 l[j].op), (1, .int .i64 l[j].n)]) rfl (buildSI2 _ _)) (fun _ _ h => (NewSl.stp h).mono (by simp)) rfl ?_
    rintro bv w5 hN
    have hbv : SlV (ob u ++ []) w5 bv [l[j].op, l[j].n] := hN.slv (fun b hb => (hrow.ob_le b (by simpa using hb)).2) rfl rfl (by simp [maxLen])
    have hT := NewSl.stp hN
    clear hN
    replace hrow := hrow.up hT
    replace hS := hS.trans hT
    clear hT
    refine D ?_
    have hbase := hS.size
    have hfl := flatF_len (l.take j)
    rw [List.length_take, Nat.min_eq_left hj] at hfl
    refine WD_eff rfl trivial (OE_append (X := []) (base := w.heap.size) rfl (by decide) rfl rfl hrow hbv (by simp only [List.length_cons, List.length_nil]; omega) (by simp only [List.length_cons, List.length_nil, maxLen]; omega) hbase) (fun _ _ h => h.2.1) rfl ?_
    rintro u' w6 ⟨hrow', hT, _⟩
    have hown : ∀ b ∈ ob u, b ∈ ([] : List Nat) ∨ w.heap.size ≤ b := fun c hc => .inr (hrow.ob_le c hc).1
    refine D ?_
    refine W ?_
    exact WQ_loop (j + 1, u') ⟨rfl, rfl, rfl, trivial⟩ ⟨hlt, by dsimp only; rw [flatF_succ l j hlt]; exact hrow', hS.own hT hown⟩ (by dsimp only; omega)
  · have hje : j = l.length := by omega
    subst hje
    rw [List.take_length] at hrow
    repeat' (first | refine W1 ?_ | (exfalso; omega) | refine WL_split rfl rfl (fun hg => ?_) (fun hg => ?_) | refine WL_splitB rfl rfl (fun hg => ?_) (fun hg => ?_) | refine WC_cond rfl (fun hc => ?_) (fun hc => ?_) | refine WC_condB rfl (fun hc => ?_) (fun hc => ?_))
    first | refine WQ_ret1 rfl rfl ?_ | refine WQ_ret2 rfl rfl rfl ?_ | refine WQ_ret3 rfl rfl rfl rfl ?_ | refine WQ_ret0 rfl ?_ | refine WQ_end0 rfl ?_
    exact .mk ⟨hrow, hS⟩
end Go.Proofs.YtfjmlobgjdmecaaDoor
/-
The walk engine, part 18: numbers of other kinds: conversions, bits, shifts; strings out of bytes; append of a string to bytes.
-/
namespace Go.Eng
open Go Go.RowKit Go.Proofs
set_option linter.unusedVariables false
section
variable {P : Program} {n : Nat} {e : Env} {w : World} {d : Option Nat} {ty : TypeId} {pos : String} {af : Array Edge} {g : Option (Nat × Bool)}
theorem PR_conv {src dst : TypeId} {k k' : IntKind} {x : Operand} {a : Int} {D : TypeDesc} [hs : Und P src D] [hd : Und P dst (.int k)] (hx : ev e x = some (.int k' a)) :
    PR P n ⟨d, .convert src dst x, ty, pos, af, g⟩ e w (.int k (k.wrap a)) :=
  ⟨fun c ha => by
    have hk : P.intKind dst = k := by simp [Program.intKind, hd.h]
    have := run_convert_int (P := P) w src dst k' a (by rw [hs.h]; rfl) (by rw [hk]; exact hd.h)
    simp [execOp, ha.ev hx, this, hk]⟩
theorem PR_convTo {src dst : TypeId} {k k' : IntKind} {x : Operand} {a b : Int} {D : TypeDesc} [hs : Und P src D] [hd : Und P dst (.int k)] (hx : ev e x = some (.int k' a)) (hb : k.wrap a = b) :
    PR P n ⟨d, .convert src dst x, ty, pos, af, g⟩ e w (.int k b) := hb ▸ PR_conv hx
section
variable {x y : Operand} {t u : TypeId} {k : IntKind} {a b : Int}
theorem PR_and (hx : ev e x = some (.int k a)) (hy : ev e y = some (.int k b)) {r : Int} (hr : Go.bits .and k a b = r) : PR P n ⟨d, .binOp .and t x y u, ty, pos, af, g⟩ e w (.int k r) :=
  ⟨fun c ha => by simp only [execOp, ha.ev hx, ha.ev hy]; simp [go_sem, hr]⟩
theorem PR_or (hx : ev e x = some (.int k a)) (hy : ev e y = some (.int k b)) {r : Int} (hr : Go.bits .or k a b = r) : PR P n ⟨d, .binOp .or t x y u, ty, pos, af, g⟩ e w (.int k r) :=
  ⟨fun c ha => by simp only [execOp, ha.ev hx, ha.ev hy]; simp [go_sem, hr]⟩
theorem PR_xor (hx : ev e x = some (.int k a)) (hy : ev e y = some (.int k b)) {r : Int} (hr : Go.bits .xor k a b = r) : PR P n ⟨d, .binOp .xor t x y u, ty, pos, af, g⟩ e w (.int k r) :=
  ⟨fun c ha => by simp only [execOp, ha.ev hx, ha.ev hy]; simp [go_sem, hr]⟩
theorem PR_shl {yk : IntKind} {s : Nat} (hx : ev e x = some (.int k a)) (hy : ev e y = some (.int yk (s : Int))) (hs : s ≤ k.bits) {r : Int} (hr : k.wrap (a * 2 ^ s) = r) : PR P n ⟨d, .binOp .shl t x y u, ty, pos, af, g⟩ e w (.int k r) :=
  ⟨fun c ha => by
    have h := shift_shl k yk a (s : Int) (by omega) (by omega)
    rw [Int.toNat_natCast, hr] at h
    simp only [execOp, ha.ev hx, ha.ev hy]
    simp [go_sem, binOp, h]⟩
theorem PR_shr {yk : IntKind} {s : Nat} (hx : ev e x = some (.int k a)) (hy : ev e y = some (.int yk (s : Int))) (hs : s ≤ k.bits) {r : Int} (hr : a / 2 ^ s = r) : PR P n ⟨d, .binOp .shr t x y u, ty, pos, af, g⟩ e w (.int k r) :=
  ⟨fun c ha => by
    have h := shift_shr k yk a (s : Int) (by omega) (by omega)
    rw [Int.toNat_natCast, hr] at h
    simp only [execOp, ha.ev hx, ha.ev hy]
    simp [go_sem, binOp, h]⟩
theorem PR_addK (hx : ev e x = some (.int k a)) (hy : ev e y = some (.int k b)) {r : Int} (hr : k.wrap (a + b) = r) : PR P n ⟨d, .binOp .add t x y u, ty, pos, af, g⟩ e w (.int k r) :=
  ⟨fun c ha => by simp only [execOp, ha.ev hx, ha.ev hy]; simp [go_sem, Op.intArith, hr]⟩
theorem PR_subK (hx : ev e x = some (.int k a)) (hy : ev e y = some (.int k b)) {r : Int} (hr : k.wrap (a - b) = r) : PR P n ⟨d, .binOp .sub t x y u, ty, pos, af, g⟩ e w (.int k r) :=
  ⟨fun c ha => by simp only [execOp, ha.ev hx, ha.ev hy]; simp [go_sem, Op.intArith, hr]⟩
theorem PR_mulK (hx : ev e x = some (.int k a)) (hy : ev e y = some (.int k b)) {r : Int} (hr : k.wrap (a * b) = r) : PR P n ⟨d, .binOp .mul t x y u, ty, pos, af, g⟩ e w (.int k r) :=
  ⟨fun c ha => by simp only [execOp, ha.ev hx, ha.ev hy]; simp [go_sem, Op.intArith, hr]⟩
theorem PR_remK (hx : ev e x = some (.int k a)) (hy : ev e y = some (.int k b)) (hb : b ≠ 0) {r : Int} (hr : a.tmod b = r) : PR P n ⟨d, .binOp .rem t x y u, ty, pos, af, g⟩ e w (.int k r) :=
  ⟨fun c ha => by simp only [execOp, ha.ev hx, ha.ev hy]; simp [go_sem, Op.intDiv, hb]; try rw [hr]⟩
theorem PR_quoK (hx : ev e x = some (.int k a)) (hy : ev e y = some (.int k b)) (hb : b ≠ 0) {r : Int} (hr : k.wrap (a.tdiv b) = r) : PR P n ⟨d, .binOp .quo t x y u, ty, pos, af, g⟩ e w (.int k r) :=
  ⟨fun c ha => by simp only [execOp, ha.ev hx, ha.ev hy]; simp [go_sem, Op.intDiv, hb]; try rw [hr]⟩
end
/-- bytes as the cells of a string -/
theorem strCells_enc (s : Str) : Lib.strCells ⟨s.toArray⟩ = s.flatMap Flat.enc := by
  show s.map _ = _
  induction s with
  | nil => rfl
  | cons b s ih => rw [List.map_cons, ih, List.flatMap_cons]; rfl

theorem append_blockT {t tu T base : Nat} {i : TypeInfo} (ht : P.underlying t = some (.slice T)) (hu : P.underlying tu = some .string) (hi : P.info? T = some i) (hz : i.zero = some (.int .u8 0))
    (hsize : i.size = 1) (hby : i.bytes = 1) {v : Value} {m : Nat} {xs : List Value} (hown : w.ownsRow base T 1 v m xs) (s : ByteArray) (hlen : m + s.size ≤ 140737488355328) {v' : Value} {w' : World}
    (hr : (Builtin.append_ #[t, tu] ty #[v, .string s]).run P w = .ok v' w') : ∀ b ∈ ob v', b ∈ ob v ∨ w.heap.size ≤ b := by
  have hxl : xs.length = m := by simpa using hown.1
  rcases hown.2 with ⟨rfl, rfl⟩ | ⟨g, cap, cur, rfl, hbg, hg, hnc, hcm, hcs, htake⟩
  · by_cases hm : s.size = 0
    · have hf := Lib.run_firstCells_string (P := P) w 1 s
      rw [hm] at hf
      have : (Builtin.append_ #[t, tu] ty #[.slice none 0 0, .string s]).run P w = .ok (.slice none 0 0) w := by
        simp [Builtin.append_, run_underlying ht, run_underlying hu, sizeOf, typeInfo, hi, hsize, Builtin.lenOf, hm, hf]
      rw [this] at hr
      cases hr
      simp [ob]
    · have h := run_append_nil_string (P := P) w t tu ty T i (.int .u8 0) ht hu hi hz s (by omega) (by omega) (by rw [hby]; omega)
      rw [h] at hr
      cases hr
      simp [ob]
  · by_cases hroom : m + s.size ≤ cap
    · have hcs' : cur.size = cap := by simpa using hcs
      have h := Lib.run_append_room_string (P := P) w t tu ty T i ht hu hi hsize g m cap cur hg s hroom (by omega)
      rw [h] at hr
      cases hr
      simp [ob]
    · have holds : ∀ j u, xs[j]? = some u → w.cell? ((⟨g, 0, none⟩ : Addr).add j) = some u := hown.cells (g := g) rfl
      have h := Lib.run_append_grow_string (P := P) w t tu ty T i (.int .u8 0) ht hu hi hz ⟨g, 0, none⟩ m cap xs (by rw [hsize]; simpa using hxl) holds s (by omega) (by omega) (by rw [hby]; exact growslice_fits (by omega) (by omega))
      rw [h] at hr
      cases hr
      simp [ob]
/-- append of a string to a row of bytes -/
theorem OE_appendT {t tu T base : Nat} {X : List Nat} {x y : Operand} {v : Value} {xs : List UInt8} {s : Str} [ht : Und P t (.slice T)] [hu : Und P tu .string] [hk : Siz P T 1] [hb : Byt P T 1] [hz : Zer P T (.int .u8 0)]
    (hx : ev e x = some v) (hy : ev e y = some (str s)) (hrow : Row X w base T v xs) (hlen : xs.length + s.length ≤ 140737488355328) (hbase : base ≤ w.heap.size) :
    OE P n ⟨d, .call { callee := .builtin .append, args := #[x, y], argTypes := #[t, tu] }, ty, pos, af, g⟩ e w (fun v' w' => Row X w' base T v' (xs ++ s) ∧ Stp (ob v) w w' ∧ ∀ b ∈ ob v', b ∈ ob v ∨ w.heap.size ≤ b) := by
  obtain ⟨i, hi, hi1, hi2, hi3⟩ : ∃ i, P.info? T = some i ∧ i.size = 1 ∧ i.bytes = 1 ∧ i.zero = some (.int .u8 0) := by
    have a1 := hk.h
    have a2 := hb.h
    have a3 := hz.h
    cases hi : P.info? T with
    | none => simp [hi] at a1
    | some i => exact ⟨i, rfl, by simpa [hi] using a1, by simpa [hi] using a2, by simpa [hi] using a3⟩
  obtain ⟨css, hl, hr, ho⟩ := hrow
  have hcss : css = xs.map Flat.enc := by
    apply List.ext_getElem (by simp [hl])
    intro i h1 h2
    have : css[i] = Flat.enc xs[i] := hr i (by omega) h1
    simpa using this
  subst hcss
  have hsz : (⟨s.toArray⟩ : ByteArray).size = s.length := str_size s
  obtain ⟨v', w', hrun, h1, h2, h3⟩ := Lib.run_append_own_string (P := P) w base t tu ty T i ht.h hu.h hi hi3 hi1 hi2 v xs.length _ ho ⟨s.toArray⟩ (by rw [hsz]; unfold maxLen; omega) (by rw [hsz]; omega) hbase
  rw [hsz, strCells_enc] at h1
  have hblk := append_blockT (P := P) ht.h hu.h hi hi3 hi1 hi2 ho ⟨s.toArray⟩ (by rw [hsz]; exact hlen) hrun
  have hS : Stp (ob v) w w' := by rw [← ob_own]; exact Stp.of_grown h2
  refine OE_value (v := v') (w' := w') (fun a ha => ?_) ⟨⟨(xs ++ s).map Flat.enc, by simp, fun i hi hi' => (List.getElem_map _ : ((xs ++ s).map Flat.enc)[i] = Flat.enc (xs ++ s)[i]), ?_⟩, hS, hblk⟩
  · simp [execOp, resolve, invoke, builtin, ha.ev hx, ha.ev hy, hrun]
  · have e1 : ((xs ++ s).map Flat.enc).flatten = (xs.map Flat.enc).flatten ++ s.flatMap Flat.enc := by rw [List.map_append, List.flatten_append, List.flatMap_def]
    rw [e1, List.length_append]
    exact h1

theorem PR_eqlNil {t u el : TypeId} {x y : Operand} {p : Option Addr} {l c : Nat} [hu : Und P t (.slice el)] (hx : ev e x = some (.slice p l c)) (hy : ev e y = some (.slice none 0 0)) :
    PR P n ⟨d, .binOp .eql t x y u, ty, pos, af, g⟩ e w (.bool p.isNone) :=
  ⟨fun a ha => by
    have h := run_equal_slice_nil (P := P) w t el p l c hu.h
    simp only [execOp, ha.ev hx, ha.ev hy]
    simp [go_sem, binOp, h]⟩
theorem PR_neqNil {t u el : TypeId} {x y : Operand} {p : Option Addr} {l c : Nat} [hu : Und P t (.slice el)] (hx : ev e x = some (.slice p l c)) (hy : ev e y = some (.slice none 0 0)) :
    PR P n ⟨d, .binOp .neq t x y u, ty, pos, af, g⟩ e w (.bool (!p.isNone)) :=
  ⟨fun a ha => by
    have h := run_equal_slice_nil (P := P) w t el p l c hu.h
    simp only [execOp, ha.ev hx, ha.ev hy]
    simp [go_sem, binOp, h]⟩
/-- a string of bytes -/
theorem PR_convB {src dst el : TypeId} {x : Operand} {v : Value} {X : List Nat} {xs : List UInt8} [hs : Und P src (.slice el)] [hd : Und P dst .string] [he : Und P el (.int .u8)] (hx : ev e x = some v) (hv : SlV X w v xs) :
    PR P n ⟨d, .convert src dst x, ty, pos, af, g⟩ e w (str xs) := by
  obtain ⟨p, c, rfl, hl, hm, hn, hc⟩ := hv
  refine ⟨fun a ha => ?_⟩
  have key : (convert src dst (.slice p xs.length c)).run P w = .ok (str xs) w := by
    cases p with
    | none =>
      have hx0 : xs = [] := by
        cases xs with
        | nil => rfl
        | cons b r =>
          obtain ⟨_, _, _, h, _⟩ := hc 0 (by simp)
          cases h
      subst hx0
      have := run_convert_bytes_nil (P := P) w src el hs.h he.h 0 c dst hd.h
      rw [List.length_nil, this]
      rfl
    | some a =>
      by_cases hx0 : xs = []
      · subst hx0
        have hl0 : (loadCells a 0).run P w = .ok ((([] : List Int).map (Value.int .u8)).toArray) w := by simp [loadCells, loadCellsFrom]
        have h2 := run_bytesToString (P := P) w a 0 c [] hl0
        rw [List.length_nil, run_convert_bytes_string w src dst el _ 0 c hs.h he.h hd.h, h2]
        rfl
      · have h0 : 0 < xs.length := List.length_pos_iff.2 hx0
        obtain ⟨b, o, cs, hp, _⟩ := hc 0 h0
        simp only [Option.some.injEq] at hp
        subst hp
        have h2 := run_convert_bytes_arg (P := P) w src el hs.h he.h b o xs.length c (xs.map fun x => (x.toNat : Int)) (by simp) (fun i hi => by
          obtain ⟨b', o', cs', hp', _, _, hr, hcell⟩ := hc i hi
          simp only [Option.some.injEq, Addr.mk.injEq, and_true] at hp'
          obtain ⟨rfl, rfl⟩ := hp'
          have hr' : cs' = Flat.enc xs[i] := hr
          subst hr'
          have := hcell 0 (.int .u8 (xs[i].toNat : Int)) rfl
          rw [show o + i * GoRep.k UInt8 + 0 = o + i by show o + i * 1 + 0 = o + i; omega] at this
          rw [this]
          simp [List.getD, List.getElem?_eq_getElem hi]) dst hd.h
        rw [h2]
        congr 2
        simp only [strOfNums, List.map_map]
        congr 2
        conv => rhs; rw [← List.map_id xs]
        apply List.map_congr_left
        intro x _
        simp
  simp [execOp, ha.ev hx, key]
end
end Go.Eng
/-
The bytes of an encoding: plain Lean.
-/
namespace Go.Eng
open Go
/-- the encoding of an unsigned number: seven bits to a byte -/
def uintB (n : Nat) : List UInt8 := if n < 128 then [UInt8.ofNat n] else UInt8.ofNat (128 + n % 128) :: uintB (n / 128)
termination_by n
decreasing_by omega
theorem uintB_lo {n : Nat} (h : n < 128) : uintB n = [UInt8.ofNat n] := by rw [uintB, if_pos h]
theorem uintB_hi {n : Nat} (h : 128 ≤ n) : uintB n = UInt8.ofNat (128 + n % 128) :: uintB (n / 128) := by rw [uintB, if_neg (by omega)]
theorem uintB_pos (n : Nat) : 1 ≤ (uintB n).length := by
  rw [uintB]
  split <;> simp
theorem uintB_len (k : Nat) : ∀ n, n < 128 ^ (k + 1) → (uintB n).length ≤ k + 1 := by
  induction k with
  | zero => intro n h; rw [uintB_lo (by simpa using h)]; simp
  | succ k ih =>
    intro n h
    by_cases hn : n < 128
    · rw [uintB_lo hn]; simp
    · rw [uintB_hi (by omega)]
      have := ih (n / 128) (by rw [Nat.pow_succ] at h; exact Nat.div_lt_of_lt_mul (by rw [Nat.mul_comm]; exact h))
      simp only [List.length_cons]
      omega
theorem uintB_len10 {n : Nat} (h : n < 18446744073709551616) : (uintB n).length ≤ 10 := uintB_len 9 n (by omega)
/-- the unsigned number of a number -/
def zigN (z : Int) : Nat := if z < 0 then 2 * (-(z + 1)).toNat + 1 else 2 * z.toNat
theorem zigN_lt {z : Int} (h : I64 z) : zigN z < 18446744073709551616 := by
  unfold I64 at h
  unfold zigN
  split <;> omega
def intB (z : Int) : List UInt8 := uintB (zigN z)
def textB (s : Str) : List UInt8 := uintB s.length ++ s
def intsB (l : List Int) : List UInt8 := uintB l.length ++ l.flatMap intB
theorem intB_len {z : Int} (h : I64 z) : (intB z).length ≤ 10 := uintB_len10 (zigN_lt h)
theorem flatMap_intB_len (l : List Int) (h : ∀ z ∈ l, I64 z) : (l.flatMap intB).length ≤ 10 * l.length := by
  induction l with
  | nil => simp
  | cons z l ih =>
    have h1 := intB_len (h z (by simp))
    have h2 := ih (fun z hz => h z (by simp [hz]))
    simp only [List.flatMap_cons, List.length_append, List.length_cons]
    omega
theorem or128 : ∀ c : Fin 256, (c.val ||| 128) = 128 + c.val % 128 := by decide +kernel
theorem or_u8 (n : Nat) : Go.bits .or .u8 ((n : Int) % 256) 128 = ((UInt8.ofNat (128 + n % 128)).toNat : Int) := by
  have h1 : ((n : Int) % 256) = ((n % 256 : Nat) : Int) := by omega
  rw [h1, show (128 : Int) = ((128 : Nat) : Int) from rfl, u8_or_nat _ _ (by omega) (by omega)]
  have h2 := or128 ⟨n % 256, by omega⟩
  simp only at h2
  rw [h2]
  simp only [UInt8.toNat_ofNat']
  omega
theorem byte_wrap (n : Nat) : IntKind.u8.wrap (n : Int) = (n : Int) % 256 := IntKind.wrap_u8' _
theorem wrap_u64_of {z : Int} (h0 : 0 ≤ z) (h : z < 18446744073709551616) : IntKind.u64.wrap z = z := by
  rw [IntKind.wrap_u64]
  omega
theorem byte_nat (n : Nat) (h : n < 256) : ((UInt8.ofNat n).toNat : Int) = (n : Int) := by
  rw [UInt8.toNat_ofNat']
  omega
theorem xor_ones (a : Nat) (ha : a < 18446744073709551616) : Go.bits .xor .u64 (a : Int) 18446744073709551615 = ((18446744073709551615 - a : Nat) : Int) := by
  have h1 : (BitVec.ofInt 64 (a : Int)).toNat = a := by
    rw [BitVec.ofInt_natCast, BitVec.toNat_ofNat]; exact Nat.mod_eq_of_lt (by omega)
  have h2 : BitVec.ofInt 64 (18446744073709551615 : Int) = BitVec.allOnes 64 := by decide
  show IntKind.u64.wrap ((BitVec.ofInt 64 (a : Int) ^^^ BitVec.ofInt 64 (18446744073709551615 : Int)).toNat : Int) = _
  rw [h2, BitVec.xor_allOnes, BitVec.toNat_not, h1, IntKind.wrap_u64]
  omega
/-- (n << 1) ^ (n >> 63) -/
theorem zig_bits {z : Int} (h : I64 z) : Go.bits .xor .u64 (IntKind.u64.wrap (IntKind.u64.wrap z * 2 ^ 1)) (IntKind.u64.wrap (z / 2 ^ 63)) = ((zigN z : Nat) : Int) := by
  unfold I64 at h
  simp only [IntKind.wrap_u64]
  by_cases hz : z < 0
  · have e1 : z % 18446744073709551616 = z + 18446744073709551616 := by omega
    have e2 : (z + 18446744073709551616) * 2 ^ 1 % 18446744073709551616 = ((2 * z + 18446744073709551616).toNat : Int) := by omega
    have e3 : z / 2 ^ 63 % 18446744073709551616 = 18446744073709551615 := by omega
    rw [e1, e2, e3, xor_ones _ (by omega)]
    unfold zigN
    rw [if_pos hz]
    omega
  · have e1 : z % 18446744073709551616 = z := by omega
    have e2 : z * 2 ^ 1 % 18446744073709551616 = ((2 * z.toNat : Nat) : Int) := by omega
    have e3 : z / 2 ^ 63 % 18446744073709551616 = ((0 : Nat) : Int) := by omega
    rw [e1, e2, e3, bits_xor_u64_nat _ _ (by omega) (by omega)]
    unfold zigN
    rw [if_neg hz]
    simp
end Go.Eng
namespace Go.Proofs.YtfjmlobgjdmecaaDoor
open Go Go.Eng Go.RowKit
set_option linter.unusedVariables false
/-- a writer: its block, its row of bytes -/
structure Wr (w : World) (bc base : Nat) (v : Value) (xs : List UInt8) : Prop where
  blk : Blk w bc 106 [v]
  row : Row [] w base 5 v xs
  apart : bc ∉ ob v
  low : bc < base
  top : base ≤ w.heap.size
/-- what a method of the writer leaves -/
def Wrs (w : World) (bc base : Nat) (v : Value) (ys : List UInt8) (w' : World) : Prop :=
  ∃ v', Wr w' bc base v' ys ∧ Stp (bc :: ob v) w w' ∧ ∀ b ∈ ob v', b ∈ ob v ∨ w.heap.size ≤ b
theorem Wr.up {w w' : World} {bc base : Nat} {v : Value} {xs : List UInt8} (h : Wr w bc base v xs) (hS : Stp [] w w') : Wr w' bc base v xs :=
  ⟨h.blk.up hS, h.row.up hS, h.apart, h.low, Nat.le_trans h.top hS.size⟩
theorem Wrs.pre {w0 w w' : World} {bc base : Nat} {v : Value} {ys : List UInt8} (hS : Stp [] w0 w) (h : Wrs w bc base v ys w') : Wrs w0 bc base v ys w' := by
  obtain ⟨v', h1, h2, h3⟩ := h
  exact ⟨v', h1, (hS.mono (by simp)).trans h2, fun b hb => (h3 b hb).imp id (fun h => Nat.le_trans hS.size h)⟩
theorem Wrs.post {w w1 w' : World} {bc base : Nat} {v : Value} {ys : List UInt8} (h : Wrs w bc base v ys w1) (hS : Stp [] w1 w') : Wrs w bc base v ys w' := by
  obtain ⟨v', h1, h2, h3⟩ := h
  exact ⟨v', h1.up hS, h2.trans (hS.mono (by simp)), h3⟩
/-- one after another -/
theorem Wrs.next {w w1 w2 : World} {bc base : Nat} {v v1 : Value} {zs : List UInt8} (hS : Stp (bc :: ob v) w w1) (hb : ∀ b ∈ ob v1, b ∈ ob v ∨ w.heap.size ≤ b) (h : Wrs w1 bc base v1 zs w2) : Wrs w bc base v zs w2 := by
  obtain ⟨v', h1, h2, h3⟩ := h
  refine ⟨v', h1, ?_, fun b hb' => ?_⟩
  · exact hS.own h2 (fun b hb' => by
      rcases List.mem_cons.1 hb' with rfl | h
      · exact .inl (by simp)
      · exact (hb b h).imp (fun h => List.mem_cons_of_mem _ h) id)
  · rcases h3 b hb' with h | h
    · exact hb b h
    · exact .inr (Nat.le_trans hS.size h)
theorem buildB1 (b : UInt8) (w : World) : (Instr.buildSlice 61 1 #[(0, .int .u8 (b.toNat : Int))]).run Tryd.prog w = .ok (.slice (some ⟨w.heap.size, 0, none⟩) 1 1) (w.alloc (.cells (Flat.enc b).toArray 5)) := by kernel_rfl
/-- the step of every method: the byte is appended, the row is stored -/
theorem Wr.stored {w w1 w2 : World} {bc base : Nat} {v v' : Value} {xs ys : List UInt8} (h : Wr w bc base v xs) (hrow : Row [] w1 base 5 v' ys) (hS : Stp (ob v) w w1) (hb : ∀ b ∈ ob v', b ∈ ob v ∨ w.heap.size ≤ b)
    (hS2 : Stp [bc] w1 w2) (hblk : Blk w2 bc 106 [v']) : Wrs w bc base v ys w2 := by
  have hap : bc ∉ ob v' := fun hx => by
    rcases hb bc hx with h1 | h1
    · exact h.apart h1
    · have := h.blk.lt; omega
  refine ⟨v', ⟨hblk, hrow.keep hS2 (by simpa using hap), hap, h.low, Nat.le_trans h.top (Nat.le_trans hS.size hS2.size)⟩, ?_, hb⟩
  exact (hS.mono (fun x hx => List.mem_cons_of_mem _ hx)).trans (hS2.mono (by simp))
theorem Uint_any (bc base : Nat) (v : Value) (xs : List UInt8) (n : Nat) (w : World) (hn : n < 18446744073709551616) (hc : Wr w bc base v xs) (hl : xs.length ≤ 70368744177664) :
    Calls Tryd.prog 106 #[.pointer (some ⟨bc, 0, none⟩), .int .u64 (n : Int)] w (Ret fun r w' => r = .tuple #[] ∧ Wrs w bc base v (xs ++ uintB n) w') := by
  have hub := uintB_len10 hn
  refine calls_of_WC2 (n := 35) Tryd.func106 rfl rfl rfl ?_
  refine W ?_
  refine WC_loop (σ := Nat × Value × List UInt8) (fun q => [(0, .pointer (some ⟨bc, 0, none⟩)), (1, .int .u64 (q.1 : Int))]) (fun q w' => q.1 < 18446744073709551616 ∧ q.2.2 ++ uintB q.1 = xs ++ uintB n ∧ Wr w' bc base q.2.1 q.2.2 ∧ Stp (bc :: ob v) w w' ∧ ∀ b ∈ ob q.2.1, b ∈ ob v ∨ w.heap.size ≤ b) (fun q => q.1) (n, v, xs) ⟨rfl, rfl, trivial⟩ ⟨hn, rfl, hc, Stp.refl _ _, fun b hb => .inl hb⟩ ?_
  rintro ⟨m, u, ys⟩ w2 ⟨hm, heq, hW, hS, hob⟩
  dsimp only at hm heq hW hS hob ⊢
  have hlen := congrArg List.length heq
  simp only [List.length_append] at hlen
  have hup := uintB_pos m
  have hblk := hW.blk
  by_cases hlt : 128 ≤ m
  · repeat' (first | refine W1 ?_ | (exfalso; omega) | refine WL_split rfl rfl (fun hg => ?_) (fun hg => ?_) | refine WL_splitB rfl rfl (fun hg => ?_) (fun hg => ?_) | refine WC_cond rfl (fun hc => ?_) (fun hc => ?_) | refine WC_condB rfl (fun hc => ?_) (fun hc => ?_))
    refine WL_pure (PR_conv rfl) rfl ?_
    rw [byte_wrap m]
    refine WL_pure (PR_or rfl rfl (or_u8 m)) rfl ?_
    refine WL_eff (OE_buildSlice (vs := [(0, .int .u8 ((UInt8.ofNat (128 + m % 128)).toNat : Int))]) rfl (buildB1 _)) rfl ?_
    rintro bv w3 hN
    have hbv : SlV (ob u ++ []) w3 bv [(UInt8.ofNat (128 + m % 128))] := hN.slv (fun b hb => (hW.row.ob_le b (by simpa using hb)).2) rfl rfl (by simp [maxLen])
    have hT := NewSl.stp hN
    clear hN
    have hW3 := hW.up hT
    have hblk3 := hW3.blk
    refine WL_eff (OE_append (X := []) (base := base) rfl (by decide) rfl rfl hW3.row hbv (by simp only [List.length_cons, List.length_nil]; omega) (by simp only [List.length_cons, List.length_nil, maxLen]; omega) hW3.top) rfl ?_
    rintro u' w4 ⟨hrow4, hT4, hob4⟩
    have hblk4 := hblk3.ext hT4 hW3.apart
    refine W ?_
    refine WL_eff0 (OE_store1 (u := u') rfl rfl hrow4.slv0.cells hrow4.slv0.one hblk4 (by simp)) ?_
    rintro _ w5 ⟨hT5, hblk5⟩
    have hst := (hW3.stored hrow4 hT4 hob4 hT5 hblk5).pre hT
    clear hblk4 hblk3 hblk
    refine W ?_
    refine WL_pure (PR_shr (s := 7) (r := ((m / 128 : Nat) : Int)) rfl rfl (by decide) (by omega)) rfl ?_
    refine W ?_
    obtain ⟨v', k1, k2, k3⟩ := hst.next hS hob
    exact WQ_loop (m / 128, v', ys ++ [UInt8.ofNat (128 + m % 128)]) ⟨rfl, rfl, trivial⟩ ⟨by dsimp only; omega, by dsimp only; rw [← heq, uintB_hi hlt, List.append_assoc]; rfl, k1, k2, k3⟩ (by dsimp only; omega)
  · repeat' (first | refine W1 ?_ | (exfalso; omega) | refine WL_split rfl rfl (fun hg => ?_) (fun hg => ?_) | refine WL_splitB rfl rfl (fun hg => ?_) (fun hg => ?_) | refine WC_cond rfl (fun hc => ?_) (fun hc => ?_) | refine WC_condB rfl (fun hc => ?_) (fun hc => ?_))
    refine WL_pure (PR_convTo (b := ((UInt8.ofNat m).toNat : Int)) rfl (by rw [byte_wrap m, byte_nat m (by omega)]; omega)) rfl ?_
    refine WL_eff (OE_buildSlice (vs := [(0, .int .u8 ((UInt8.ofNat m).toNat : Int))]) rfl (buildB1 _)) rfl ?_
    rintro bv w3 hN
    have hbv : SlV (ob u ++ []) w3 bv [(UInt8.ofNat m)] := hN.slv (fun b hb => (hW.row.ob_le b (by simpa using hb)).2) rfl rfl (by simp [maxLen])
    have hT := NewSl.stp hN
    clear hN
    have hW3 := hW.up hT
    have hblk3 := hW3.blk
    refine WL_eff (OE_append (X := []) (base := base) rfl (by decide) rfl rfl hW3.row hbv (by simp only [List.length_cons, List.length_nil]; omega) (by simp only [List.length_cons, List.length_nil, maxLen]; omega) hW3.top) rfl ?_
    rintro u' w4 ⟨hrow4, hT4, hob4⟩
    have hblk4 := hblk3.ext hT4 hW3.apart
    refine W ?_
    refine WL_eff0 (OE_store1 (u := u') rfl rfl hrow4.slv0.cells hrow4.slv0.one hblk4 (by simp)) ?_
    rintro _ w5 ⟨hT5, hblk5⟩
    have hst := (hW3.stored hrow4 hT4 hob4 hT5 hblk5).pre hT
    clear hblk4 hblk3 hblk
    refine W ?_
    first | refine WQ_ret1 rfl rfl ?_ | refine WQ_ret2 rfl rfl rfl ?_ | refine WQ_ret3 rfl rfl rfl rfl ?_ | refine WQ_ret0 rfl ?_ | refine WQ_end0 rfl ?_
    refine .mk ⟨rfl, ?_⟩
    have h := hst.next hS hob
    rwa [← uintB_lo (by omega), heq] at h
end Go.Proofs.YtfjmlobgjdmecaaDoor
namespace Go.Proofs.YtfjmlobgjdmecaaDoor
open Go Go.Eng Go.RowKit
set_option linter.unusedVariables false
theorem Int_any (bc base : Nat) (v : Value) (xs : List UInt8) (z : Int) (w : World) (hz : I64 z) (hc : Wr w bc base v xs) (hl : xs.length ≤ 70368744177664) :
    Calls Tryd.prog 72 #[.pointer (some ⟨bc, 0, none⟩), .int .i64 z] w (Ret fun r w' => r = .tuple #[] ∧ Wrs w bc base v (xs ++ intB z) w') := by
  refine calls_of_WC2 (n := 13) Tryd.func72 rfl rfl rfl ?_
  refine W ?_
  refine WL_pure (PR_conv rfl) rfl ?_
  refine WL_pure (PR_shl (s := 1) rfl rfl (by decide) rfl) rfl ?_
  refine W ?_
  refine WL_pure (PR_shr (s := 63) rfl rfl (by decide) rfl) rfl ?_
  refine WL_pure (PR_conv rfl) rfl ?_
  refine WL_pure (PR_xor rfl rfl (zig_bits hz)) rfl ?_
  refine WL_eff (OE_call rfl (evs2 rfl rfl) (Uint_any bc base v xs (zigN z) w (zigN_lt hz) hc hl)) rfl ?_
  rintro _ w1 ⟨rfl, h⟩
  refine W ?_
  first | refine WQ_ret1 rfl rfl ?_ | refine WQ_ret2 rfl rfl rfl ?_ | refine WQ_ret3 rfl rfl rfl rfl ?_ | refine WQ_ret0 rfl ?_ | refine WQ_end0 rfl ?_
  exact .mk ⟨rfl, h⟩
theorem Text_any (bc base : Nat) (v : Value) (xs : List UInt8) (s : Str) (w : World) (hs : s.length ≤ 70368744177664) (hc : Wr w bc base v xs) (hl : xs.length ≤ 35184372088832) :
    Calls Tryd.prog 71 #[.pointer (some ⟨bc, 0, none⟩), str s] w (Ret fun r w' => r = .tuple #[] ∧ Wrs w bc base v (xs ++ textB s) w') := by
  have hub := uintB_len10 (n := s.length) (by omega)
  refine calls_of_WC2 (n := 20) Tryd.func71 rfl rfl rfl ?_
  refine W ?_
  refine WL_pure (PR_convTo (b := ((s.length : Nat) : Int)) rfl (wrap_u64_of (by omega) (by omega))) rfl ?_
  refine WL_eff (OE_call rfl (evs2 rfl rfl) (Uint_any bc base v xs s.length w (by omega) hc (by omega))) rfl ?_
  rintro _ w1 ⟨rfl, u, hW, hS, hob⟩
  have hblk := hW.blk
  refine W ?_
  refine WL_eff (OE_appendT (X := []) (base := base) rfl rfl hW.row (by simp only [List.length_append]; omega) hW.top) rfl ?_
  rintro u' w4 ⟨hrow4, hT4, hob4⟩
  have hblk4 := hblk.ext hT4 hW.apart
  refine W ?_
  refine WL_eff0 (OE_store1 (u := u') rfl rfl hrow4.slv0.cells hrow4.slv0.one hblk4 (by simp)) ?_
  rintro _ w5 ⟨hT5, hblk5⟩
  have hst := hW.stored hrow4 hT4 hob4 hT5 hblk5
  clear hblk4 hblk
  refine W ?_
  first | refine WQ_ret1 rfl rfl ?_ | refine WQ_ret2 rfl rfl rfl ?_ | refine WQ_ret3 rfl rfl rfl rfl ?_ | refine WQ_ret0 rfl ?_ | refine WQ_end0 rfl ?_
  have h := hst.next hS hob
  rw [List.append_assoc] at h
  exact .mk ⟨rfl, h⟩
theorem Ints_any (bc base : Nat) (v vl : Value) (xs : List UInt8) (l : List Int) (w : World) (hI : ∀ z ∈ l, I64 z) (hll : l.length ≤ 1000000) (hv : SlV (bc :: ob v) w vl l) (hc : Wr w bc base v xs) (hl : xs.length ≤ 35184372088832) :
    Calls Tryd.prog 73 #[.pointer (some ⟨bc, 0, none⟩), vl] w (Ret fun r w' => r = .tuple #[] ∧ Wrs w bc base v (xs ++ intsB l) w') := by
  have hub := uintB_len10 (n := l.length) (by omega)
  refine calls_of_WC2 (n := 21) Tryd.func73 rfl rfl rfl ?_
  refine W ?_
  refine WL_pure (PR_convTo (b := ((l.length : Nat) : Int)) rfl (wrap_u64_of (by omega) (by omega))) rfl ?_
  refine WL_eff (OE_call rfl (evs2 rfl rfl) (Uint_any bc base v xs l.length w (by omega) hc (by omega))) rfl ?_
  rintro _ w1 ⟨rfl, u, hW, hS, hob⟩
  replace hv : SlV (bc :: ob u) w1 vl l := hv.ext hS (fun _ h => h) (fun b hb => by
    rcases List.mem_cons.1 hb with rfl | h
    · exact .inl (by simp)
    · exact (hob b h).imp (fun h => List.mem_cons_of_mem _ h) id)
  refine W ?_
  refine WC_loop (σ := Nat × Value) (fun q => [(0, .pointer (some ⟨bc, 0, none⟩)), (11, vl), (12, .int .i64 (l.length : Int)), (13, .int .i64 (q.1 : Int))]) (fun q w' => q.1 ≤ l.length ∧ SlV (bc :: ob q.2) w' vl l ∧ Wr w' bc base q.2 (xs ++ uintB l.length ++ (l.take q.1).flatMap intB) ∧ Stp (bc :: ob v) w w' ∧ ∀ b ∈ ob q.2, b ∈ ob v ∨ w.heap.size ≤ b) (fun q => l.length - q.1) (0, u) ⟨rfl, rfl, rfl, rfl, trivial⟩ ⟨Nat.zero_le _, hv, by simpa using hW, hS, hob⟩ ?_
  clear hv hW hS hob
  rintro ⟨j, u2⟩ w2 ⟨hj, hv, hW, hS, hob⟩
  dsimp only at hj hv hW hS hob ⊢
  by_cases hlt : j < l.length
  · repeat' (first | refine W1 ?_ | (exfalso; omega) | refine WL_split rfl rfl (fun hg => ?_) (fun hg => ?_) | refine WL_splitB rfl rfl (fun hg => ?_) (fun hg => ?_) | refine WC_cond rfl (fun hc => ?_) (fun hc => ?_) | refine WC_condB rfl (fun hc => ?_) (fun hc => ?_))
    have hfl := flatMap_intB_len (l.take j) (fun z hz => hI z (List.mem_of_mem_take hz))
    rw [List.length_take] at hfl
    refine WL_eff (OE_call rfl (evs2 rfl rfl) (Int_any bc base u2 _ l[j] w2 (hI _ (List.getElem_mem hlt)) hW (by simp only [List.length_append]; omega))) rfl ?_
    rintro _ w3 ⟨rfl, u3, hW3, hS3, hob3⟩
    have hv3 : SlV (bc :: ob u3) w3 vl l := hv.ext hS3 (fun _ h => h) (fun b hb => by
      rcases List.mem_cons.1 hb with rfl | h
      · exact .inl (by simp)
      · exact (hob3 b h).imp (fun h => List.mem_cons_of_mem _ h) id)
    obtain ⟨u4, k1, k2, k3⟩ := (show Wrs w2 bc base u2 _ w3 from ⟨u3, hW3, hS3, hob3⟩).next hS hob
    refine W ?_
    refine WQ_loop (j + 1, u3) ⟨rfl, rfl, rfl, rfl, trivial⟩ ⟨hlt, hv3, ?_, ?_, ?_⟩ (by dsimp only; omega)
    · dsimp only
      rw [List.take_succ_eq_append_getElem hlt, List.flatMap_append]
      simpa using hW3
    · exact hS.own hS3 (fun b hb => by
        rcases List.mem_cons.1 hb with rfl | h
        · exact .inl (by simp)
        · exact (hob b h).imp (fun h => List.mem_cons_of_mem _ h) id)
    · intro b hb
      rcases hob3 b hb with h | h
      · exact hob b h
      · exact .inr (Nat.le_trans hS.size h)
  · have hje : j = l.length := by omega
    subst hje
    repeat' (first | refine W1 ?_ | (exfalso; omega) | refine WL_split rfl rfl (fun hg => ?_) (fun hg => ?_) | refine WL_splitB rfl rfl (fun hg => ?_) (fun hg => ?_) | refine WC_cond rfl (fun hc => ?_) (fun hc => ?_) | refine WC_condB rfl (fun hc => ?_) (fun hc => ?_))
    first | refine WQ_ret1 rfl rfl ?_ | refine WQ_ret2 rfl rfl rfl ?_ | refine WQ_ret3 rfl rfl rfl rfl ?_ | refine WQ_ret0 rfl ?_ | refine WQ_end0 rfl ?_
    rw [List.take_length, List.append_assoc] at hW
    exact .mk ⟨rfl, u2, hW, hS, hob⟩
end Go.Proofs.YtfjmlobgjdmecaaDoor
namespace Go.Proofs.YtfjmlobgjdmecaaDoor
open Go Go.Eng Go.RowKit
set_option linter.unusedVariables false
theorem buildB0 (w : World) : (Instr.buildSlice 61 0 #[]).run Tryd.prog w = .ok (.slice (some ⟨w.heap.size, 0, none⟩) 0 0) (w.alloc (.cells #[] 5)) := by kernel_rfl
theorem Clone_any (v : Value) (xs : List UInt8) (w : World) (hs : SlV [] w v xs) (hl : xs.length ≤ 140737488355328) :
    Calls Tryd.prog 107 #[v] w (Ret fun r w' => Row [] w' w.heap.size 5 r xs ∧ Stp [] w w') := by
  have hs0 := hs
  obtain ⟨p, c, rfl, hlc, hm, hn, hc⟩ := hs
  refine calls_of_WC1 (n := 8) Tryd.func107 rfl rfl rfl ?_
  refine W ?_
  refine WL_pure (PR_eqlNil rfl rfl) rfl ?_
  cases p with
  | none =>
    have hx0 : xs = [] := by
      have := hn rfl
      exact List.eq_nil_of_length_eq_zero (by omega)
    subst hx0
    repeat' (first | refine W1 ?_ | (exfalso; omega) | refine WL_split rfl rfl (fun hg => ?_) (fun hg => ?_) | refine WL_splitB rfl rfl (fun hg => ?_) (fun hg => ?_) | refine WC_cond rfl (fun hc => ?_) (fun hc => ?_) | refine WC_condB rfl (fun hc => ?_) (fun hc => ?_))
    first | refine WQ_ret1 rfl rfl ?_ | refine WQ_ret2 rfl rfl rfl ?_ | refine WQ_ret3 rfl rfl rfl rfl ?_ | refine WQ_ret0 rfl ?_ | refine WQ_end0 rfl ?_
    exact .mk ⟨Row.nil, Stp.refl _ _⟩
  | some a =>
    repeat' (first | refine W1 ?_ | (exfalso; omega) | refine WL_split rfl rfl (fun hg => ?_) (fun hg => ?_) | refine WL_splitB rfl rfl (fun hg => ?_) (fun hg => ?_) | refine WC_cond rfl (fun hc => ?_) (fun hc => ?_) | refine WC_condB rfl (fun hc => ?_) (fun hc => ?_))
    refine WL_eff (OE_buildSlice (vs := []) rfl (buildB0)) rfl ?_
    rintro bv w1 hN
    have hrow : Row [] w1 w.heap.size 5 bv ([] : List UInt8) := hN.row (Nat.le_refl _) rfl rfl (by simp)
    have hT := NewSl.stp hN
    have hv : SlV (ob bv ++ []) w1 (.slice (some a) xs.length c) xs := hs0.ext hT (by simp) (fun b hb => .inr (hrow.ob_le b (by simpa using hb)).1)
    clear hN
    refine W ?_
    refine WL_eff (OE_append (X := []) (base := w.heap.size) rfl (by decide) rfl rfl hrow hv (by simp only [List.length_nil]; omega) (by simp only [List.length_nil, maxLen]; omega) hT.size) rfl ?_
    rintro r w2 ⟨hrow2, hT2, _⟩
    refine W ?_
    first | refine WQ_ret1 rfl rfl ?_ | refine WQ_ret2 rfl rfl rfl ?_ | refine WQ_ret3 rfl rfl rfl rfl ?_ | refine WQ_ret0 rfl ?_ | refine WQ_end0 rfl ?_
    exact .mk ⟨hrow2, hT.own hT2 (fun b hb => .inr (hrow.ob_le b hb).1)⟩
theorem Done_any (bc base : Nat) (v : Value) (xs : List UInt8) (w : World) (hc : Wr w bc base v xs) (hl : xs.length ≤ 140737488355328) :
    Calls Tryd.prog 75 #[.pointer (some ⟨bc, 0, none⟩)] w (Ret fun r w' => Row [] w' w.heap.size 5 r xs ∧ Stp [] w w') := by
  have hblk := hc.blk
  have hs := hc.row.slv0
  refine calls_of_WC1 (n := 8) Tryd.func75 rfl rfl rfl ?_
  refine W ?_
  refine WL_eff (OE_call rfl (evs1 rfl) (Clone_any v xs w hs hl)) rfl ?_
  rintro r w1 h
  refine W ?_
  first | refine WQ_ret1 rfl rfl ?_ | refine WQ_ret2 rfl rfl rfl ?_ | refine WQ_ret3 rfl rfl rfl rfl ?_ | refine WQ_ret0 rfl ?_ | refine WQ_end0 rfl ?_
  exact .mk h
/-! ### the reference -/
theorem UintR_any (n : Nat) (w : World) (hn : n < 18446744073709551616) :
    Calls Tryd.prog 108 #[.int .u64 (n : Int)] w (Ret fun r w' => Row [] w' w.heap.size 5 r (uintB n) ∧ Stp [] w w') := by
  have hub := uintB_len10 hn
  refine calls_of_WC1 (n := 20) Tryd.func108 rfl rfl rfl ?_
  refine W ?_
  refine WC_loop (σ := Nat × Value × List UInt8) (fun q => [(0, .int .u64 (q.1 : Int)), (3, q.2.1)]) (fun q w' => q.1 < 18446744073709551616 ∧ q.2.2 ++ uintB q.1 = uintB n ∧ Row [] w' w.heap.size 5 q.2.1 q.2.2 ∧ Stp [] w w') (fun q => q.1) (n, .slice none 0 0, []) ⟨rfl, rfl, trivial⟩ ⟨hn, rfl, Row.nil, Stp.refl _ _⟩ ?_
  rintro ⟨m, u, ys⟩ w2 ⟨hm, heq, hrow, hS⟩
  dsimp only at hm heq hrow hS ⊢
  have hlen := congrArg List.length heq
  simp only [List.length_append] at hlen
  have hup := uintB_pos m
  by_cases hlt : 128 ≤ m
  · repeat' (first | refine W1 ?_ | (exfalso; omega) | refine WL_split rfl rfl (fun hg => ?_) (fun hg => ?_) | refine WL_splitB rfl rfl (fun hg => ?_) (fun hg => ?_) | refine WC_cond rfl (fun hc => ?_) (fun hc => ?_) | refine WC_condB rfl (fun hc => ?_) (fun hc => ?_))
    refine WL_pure (PR_remK (r := ((m % 128 : Nat) : Int)) rfl rfl (by decide) (by rw [Int.tmod_eq_emod_of_nonneg (by omega)]; omega)) rfl ?_
    refine WL_pure (PR_addK (r := ((128 + m % 128 : Nat) : Int)) rfl rfl (by rw [wrap_u64_of (by omega) (by omega)]; omega)) rfl ?_
    refine WL_pure (PR_convTo (b := ((UInt8.ofNat (128 + m % 128)).toNat : Int)) rfl (by rw [byte_wrap, byte_nat _ (by omega)]; omega)) rfl ?_
    refine WL_eff (OE_buildSlice (vs := [(0, .int .u8 ((UInt8.ofNat (128 + m % 128)).toNat : Int))]) rfl (buildB1 _)) rfl ?_
    rintro bv w3 hN
    have hbv : SlV (ob u ++ []) w3 bv [UInt8.ofNat (128 + m % 128)] := hN.slv (fun b hb => (hrow.ob_le b (by simpa using hb)).2) rfl rfl (by simp [maxLen])
    have hT := NewSl.stp hN
    clear hN
    replace hrow := hrow.up hT
    replace hS := hS.trans hT
    refine WL_eff (OE_append (X := []) (base := w.heap.size) rfl (by decide) rfl rfl hrow hbv (by simp only [List.length_cons, List.length_nil]; omega) (by simp only [List.length_cons, List.length_nil, maxLen]; omega) hS.size) rfl ?_
    rintro u' w4 ⟨hrow4, hT4, _⟩
    refine W ?_
    refine WL_pure (PR_quoK (r := ((m / 128 : Nat) : Int)) rfl rfl (by decide) (by rw [Int.tdiv_eq_ediv_of_nonneg (by omega), wrap_u64_of (by omega) (by omega)]; omega)) rfl ?_
    refine W ?_
    exact WQ_loop (m / 128, u', ys ++ [UInt8.ofNat (128 + m % 128)]) ⟨rfl, rfl, trivial⟩ ⟨by dsimp only; omega, by dsimp only; rw [← heq, uintB_hi hlt, List.append_assoc]; rfl, hrow4, hS.own hT4 (fun b hb => .inr (hrow.ob_le b hb).1)⟩ (by dsimp only; omega)
  · repeat' (first | refine W1 ?_ | (exfalso; omega) | refine WL_split rfl rfl (fun hg => ?_) (fun hg => ?_) | refine WL_splitB rfl rfl (fun hg => ?_) (fun hg => ?_) | refine WC_cond rfl (fun hc => ?_) (fun hc => ?_) | refine WC_condB rfl (fun hc => ?_) (fun hc => ?_))
    refine WL_pure (PR_convTo (b := ((UInt8.ofNat m).toNat : Int)) rfl (by rw [byte_wrap m, byte_nat m (by omega)]; omega)) rfl ?_
    refine WL_eff (OE_buildSlice (vs := [(0, .int .u8 ((UInt8.ofNat m).toNat : Int))]) rfl (buildB1 _)) rfl ?_
    rintro bv w3 hN
    have hbv : SlV (ob u ++ []) w3 bv [UInt8.ofNat m] := hN.slv (fun b hb => (hrow.ob_le b (by simpa using hb)).2) rfl rfl (by simp [maxLen])
    have hT := NewSl.stp hN
    clear hN
    replace hrow := hrow.up hT
    replace hS := hS.trans hT
    refine WL_eff (OE_append (X := []) (base := w.heap.size) rfl (by decide) rfl rfl hrow hbv (by simp only [List.length_cons, List.length_nil]; omega) (by simp only [List.length_cons, List.length_nil, maxLen]; omega) hS.size) rfl ?_
    rintro u' w4 ⟨hrow4, hT4, _⟩
    refine W ?_
    first | refine WQ_ret1 rfl rfl ?_ | refine WQ_ret2 rfl rfl rfl ?_ | refine WQ_ret3 rfl rfl rfl rfl ?_ | refine WQ_ret0 rfl ?_ | refine WQ_end0 rfl ?_
    rw [← uintB_lo (by omega), heq] at hrow4
    exact .mk ⟨hrow4, hS.own hT4 (fun b hb => .inr (hrow.ob_le b hb).1)⟩
theorem ZigR_any (z : Int) (w : World) (hz : I64 z) :
    Calls Tryd.prog 109 #[.int .i64 z] w (Ret fun r w' => r = .int .u64 ((zigN z : Nat) : Int) ∧ w' = w) := by
  have hz' := hz
  unfold I64 at hz'
  refine calls_of_WC1 (n := 14) Tryd.func109 rfl rfl rfl ?_
  refine W ?_
  by_cases h : z < 0
  · repeat' (first | refine W1 ?_ | (exfalso; omega) | refine WL_split rfl rfl (fun hg => ?_) (fun hg => ?_) | refine WL_splitB rfl rfl (fun hg => ?_) (fun hg => ?_) | refine WC_cond rfl (fun hc => ?_) (fun hc => ?_) | refine WC_condB rfl (fun hc => ?_) (fun hc => ?_))
    refine WL_pure (PR_convTo (b := ((-(z + 1)).toNat : Int)) rfl (by rw [wrap_u64_of (by omega) (by omega)]; omega)) rfl ?_
    refine WL_pure (PR_mulK (r := ((2 * (-(z + 1)).toNat : Nat) : Int)) rfl rfl (by rw [wrap_u64_of (by omega) (by omega)]; omega)) rfl ?_
    refine WL_pure (PR_addK (r := ((zigN z : Nat) : Int)) rfl rfl (by unfold zigN; rw [if_pos h, wrap_u64_of (by omega) (by omega)]; omega)) rfl ?_
    refine W ?_
    first | refine WQ_ret1 rfl rfl ?_ | refine WQ_ret2 rfl rfl rfl ?_ | refine WQ_ret3 rfl rfl rfl rfl ?_ | refine WQ_ret0 rfl ?_ | refine WQ_end0 rfl ?_
    exact .mk ⟨rfl, rfl⟩
  · repeat' (first | refine W1 ?_ | (exfalso; omega) | refine WL_split rfl rfl (fun hg => ?_) (fun hg => ?_) | refine WL_splitB rfl rfl (fun hg => ?_) (fun hg => ?_) | refine WC_cond rfl (fun hc => ?_) (fun hc => ?_) | refine WC_condB rfl (fun hc => ?_) (fun hc => ?_))
    refine WL_pure (PR_convTo (b := ((z.toNat : Nat) : Int)) rfl (by rw [wrap_u64_of (by omega) (by omega)]; omega)) rfl ?_
    refine WL_pure (PR_mulK (r := ((zigN z : Nat) : Int)) rfl rfl (by unfold zigN; rw [if_neg h, wrap_u64_of (by omega) (by omega)]; omega)) rfl ?_
    refine W ?_
    first | refine WQ_ret1 rfl rfl ?_ | refine WQ_ret2 rfl rfl rfl ?_ | refine WQ_ret3 rfl rfl rfl rfl ?_ | refine WQ_ret0 rfl ?_ | refine WQ_end0 rfl ?_
    exact .mk ⟨rfl, rfl⟩
theorem IntR_any (z : Int) (w : World) (hz : I64 z) :
    Calls Tryd.prog 77 #[.int .i64 z] w (Ret fun r w' => Row [] w' w.heap.size 5 r (intB z) ∧ Stp [] w w') := by
  refine calls_of_WC1 (n := 6) Tryd.func77 rfl rfl rfl ?_
  refine W ?_
  refine WL_eff (OE_call rfl (evs1 rfl) (ZigR_any z w hz)) rfl ?_
  rintro _ _ ⟨rfl, rfl⟩
  refine WL_eff (OE_call rfl (evs1 rfl) (UintR_any _ _ (zigN_lt hz))) rfl ?_
  rintro r w1 h
  refine W ?_
  first | refine WQ_ret1 rfl rfl ?_ | refine WQ_ret2 rfl rfl rfl ?_ | refine WQ_ret3 rfl rfl rfl rfl ?_ | refine WQ_ret0 rfl ?_ | refine WQ_end0 rfl ?_
  exact .mk h
theorem TextR_any (s : Str) (w : World) (hs : s.length ≤ 70368744177664) :
    Calls Tryd.prog 76 #[str s] w (Ret fun r w' => Row [] w' w.heap.size 5 r (textB s) ∧ Stp [] w w') := by
  have hub := uintB_len10 (n := s.length) (by omega)
  refine calls_of_WC1 (n := 9) Tryd.func76 rfl rfl rfl ?_
  refine W ?_
  refine WL_pure (PR_convTo (b := ((s.length : Nat) : Int)) rfl (wrap_u64_of (by omega) (by omega))) rfl ?_
  refine WL_eff (OE_call rfl (evs1 rfl) (UintR_any s.length w (by omega))) rfl ?_
  rintro u w1 ⟨hrow, hS⟩
  refine W ?_
  refine WL_eff (OE_appendT (X := []) (base := w.heap.size) rfl rfl hrow (by omega) hS.size) rfl ?_
  rintro r w2 ⟨hrow2, hT, _⟩
  refine W ?_
  first | refine WQ_ret1 rfl rfl ?_ | refine WQ_ret2 rfl rfl rfl ?_ | refine WQ_ret3 rfl rfl rfl rfl ?_ | refine WQ_ret0 rfl ?_ | refine WQ_end0 rfl ?_
  exact .mk ⟨hrow2, hS.own hT (fun b hb => .inr (hrow.ob_le b hb).1)⟩
theorem IntsR_any (vl : Value) (l : List Int) (w : World) (hI : ∀ z ∈ l, I64 z) (hll : l.length ≤ 1000000) (hv : SlV [] w vl l) :
    Calls Tryd.prog 78 #[vl] w (Ret fun r w' => Row [] w' w.heap.size 5 r (intsB l) ∧ Stp [] w w') := by
  have hub := uintB_len10 (n := l.length) (by omega)
  have hv0 := hv
  refine calls_of_WC1 (n := 23) Tryd.func78 rfl rfl rfl ?_
  refine W ?_
  refine WL_pure (PR_convTo (b := ((l.length : Nat) : Int)) rfl (wrap_u64_of (by omega) (by omega))) rfl ?_
  refine WL_eff (OE_call rfl (evs1 rfl) (UintR_any l.length w (by omega))) rfl ?_
  rintro u w1 ⟨hrow, hS⟩
  refine W ?_
  clear hv
  refine WC_loop (σ := Nat × Value) (fun q => [(0, vl), (3, q.2), (4, .int .i64 (q.1 : Int))]) (fun q w' => q.1 ≤ l.length ∧ Row [] w' w.heap.size 5 q.2 (uintB l.length ++ (l.take q.1).flatMap intB) ∧ Stp [] w w') (fun q => l.length - q.1) (0, u) ⟨rfl, rfl, rfl, trivial⟩ ⟨Nat.zero_le _, by simpa using hrow, hS⟩ ?_
  clear hrow hS
  rintro ⟨j, u2⟩ w2 ⟨hj, hrow, hS⟩
  dsimp only at hj hrow hS ⊢
  have hv := hv0.up hS
  by_cases hlt : j < l.length
  · repeat' (first | refine W1 ?_ | (exfalso; omega) | refine WL_split rfl rfl (fun hg => ?_) (fun hg => ?_) | refine WL_splitB rfl rfl (fun hg => ?_) (fun hg => ?_) | refine WC_cond rfl (fun hc => ?_) (fun hc => ?_) | refine WC_condB rfl (fun hc => ?_) (fun hc => ?_))
    have hfl := flatMap_intB_len (l.take j) (fun z hz => hI z (List.mem_of_mem_take hz))
    rw [List.length_take] at hfl
    have hil := intB_len (hI _ (List.getElem_mem hlt))
    refine WL_eff (OE_call rfl (evs1 rfl) (IntR_any l[j] w2 (hI _ (List.getElem_mem hlt)))) rfl ?_
    rintro b3 w3 ⟨hrow3, hT⟩
    have hle := hrow.ob_le
    replace hrow := hrow.up hT
    replace hS := hS.trans hT
    refine W ?_
    refine WL_eff (OE_append (X := []) (base := w.heap.size) rfl (by decide) rfl rfl hrow (hrow3.slv (X := ob u2 ++ []) (fun b hb => (hle b (by simpa using hb)).2)) (by simp only [List.length_append]; omega) (by simp only [List.length_append, maxLen]; omega) hS.size) rfl ?_
    rintro u4 w4 ⟨hrow4, hT4, _⟩
    refine W ?_
    refine WQ_loop (j + 1, u4) ⟨rfl, rfl, rfl, trivial⟩ ⟨hlt, ?_, hS.own hT4 (fun b hb => .inr (hrow.ob_le b hb).1)⟩ (by dsimp only; omega)
    dsimp only
    rw [List.take_succ_eq_append_getElem hlt, List.flatMap_append]
    simpa using hrow4
  · have hje : j = l.length := by omega
    subst hje
    repeat' (first | refine W1 ?_ | (exfalso; omega) | refine WL_split rfl rfl (fun hg => ?_) (fun hg => ?_) | refine WL_splitB rfl rfl (fun hg => ?_) (fun hg => ?_) | refine WC_cond rfl (fun hc => ?_) (fun hc => ?_) | refine WC_condB rfl (fun hc => ?_) (fun hc => ?_))
    first | refine WQ_ret1 rfl rfl ?_ | refine WQ_ret2 rfl rfl rfl ?_ | refine WQ_ret3 rfl rfl rfl rfl ?_ | refine WQ_ret0 rfl ?_ | refine WQ_end0 rfl ?_
    rw [List.take_length] at hrow
    exact .mk ⟨hrow, hS⟩
theorem SameBytes_any (v u : Value) (xs ys : List UInt8) (w : World) (hv : SlV [] w v xs) (hu : SlV [] w u ys) :
    Calls Tryd.prog 32 #[v, u] w (Ret fun r w' => r = .bool (decide (xs = ys)) ∧ w' = w) := by
  refine calls_of_WC2 (n := 10) Tryd.func32 rfl rfl rfl ?_
  refine W ?_
  refine WL_pure (PR_convB rfl hv) rfl ?_
  refine W ?_
  refine WL_pure (PR_convB rfl hu) rfl ?_
  refine W ?_
  first | refine WQ_ret1 rfl rfl ?_ | refine WQ_ret2 rfl rfl rfl ?_ | refine WQ_ret3 rfl rfl rfl rfl ?_ | refine WQ_ret0 rfl ?_ | refine WQ_end0 rfl ?_
  exact .mk ⟨rfl, rfl⟩
end Go.Proofs.YtfjmlobgjdmecaaDoor
namespace Go.Proofs.YtfjmlobgjdmecaaDoor
open Go Go.Eng Go.RowKit
set_option linter.unusedVariables false
set_option linter.unusedSimpArgs false
/-- the encoding of a compiled rule -/
def encC (q : Cr) : List UInt8 := textB q.name ++ intB q.frm ++ textB q.on ++ intsB (flatF q.cnd) ++ intsB (flatF q.due) ++ textB q.unl ++ textB q.els
/-- what the encoders ask: numbers are numbers of 64 bits, no part is immense -/
structure CrOk (q : Cr) : Prop where
  frm : I64 q.frm
  cnd : ∀ x ∈ q.cnd, I64 x.op ∧ I64 x.n
  due : ∀ x ∈ q.due, I64 x.op ∧ I64 x.n
  lcnd : q.cnd.length ≤ 100000
  ldue : q.due.length ≤ 100000
  lname : q.name.length ≤ 1048576
  lon : q.on.length ≤ 1048576
  lunl : q.unl.length ≤ 1048576
  lels : q.els.length ≤ 1048576
theorem flatF_I64 {l : List Ins} (h : ∀ x ∈ l, I64 x.op ∧ I64 x.n) : ∀ z ∈ flatF l, I64 z := by
  intro z hz
  simp only [flatF, List.mem_flatMap, List.mem_cons, List.not_mem_nil, or_false] at hz
  obtain ⟨x, hx, rfl | rfl⟩ := hz
  · exact (h x hx).1
  · exact (h x hx).2
theorem textB_len {s : Str} (h : s.length ≤ 1048576) : (textB s).length ≤ 1048586 := by
  have := uintB_len10 (n := s.length) (by omega)
  simp only [textB, List.length_append]
  omega
theorem intsB_len {l : List Ins} (h : ∀ x ∈ l, I64 x.op ∧ I64 x.n) (hl : l.length ≤ 100000) : (intsB (flatF l)).length ≤ 2000010 := by
  have h1 := flatF_len l
  have h2 := uintB_len10 (n := (flatF l).length) (by omega)
  have h3 := flatMap_intB_len _ (flatF_I64 h)
  simp only [intsB, List.length_append]
  omega
/-- a method of a writer that was made by the call itself -/
theorem Wrs.flat {w w1 w2 : World} {bc base : Nat} {v : Value} {xs ys : List UInt8} (hS : Stp [] w w1) (hW : Wr w1 bc base v xs) (hbc : w.heap.size ≤ bc) (h : Wrs w1 bc base v ys w2) : ∃ v', Wr w2 bc base v' ys ∧ Stp [] w w2 := by
  obtain ⟨v', h1, h2, _⟩ := h
  refine ⟨v', h1, hS.own h2 (fun b hb => ?_)⟩
  rcases List.mem_cons.1 hb with rfl | hb
  · exact .inr hbc
  · exact .inr (Nat.le_trans hbc (Nat.le_trans (Nat.le_of_lt hW.low) (hW.row.ob_le b hb).1))
theorem Encode_any (v : Value) (q : Cr) (w : World) (hq : CrOk q) (hv : CrV [] w v q) :
    Calls Tryd.prog 33 #[v] w (Ret fun r w' => Row [] w' w.heap.size 5 r (encC q) ∧ Stp [] w w') := by
  obtain ⟨kc, kd, rfl, hc1, hd1⟩ := hv
  have l1 := textB_len hq.lname
  have l2 := intB_len hq.frm
  have l3 := textB_len hq.lon
  have l4 := intsB_len hq.cnd hq.lcnd
  have l5 := intsB_len hq.due hq.ldue
  have l6 := textB_len hq.lunl
  have l7 := textB_len hq.lels
  have f1 := flatF_len q.cnd
  have f2 := flatF_len q.due
  have g1 := hq.lcnd
  have g2 := hq.ldue
  have g3 := hq.lname
  have g4 := hq.lon
  have g5 := hq.lunl
  have g6 := hq.lels
  refine calls_of_WC1 (n := 29) Tryd.func33 rfl rfl rfl ?_
  refine W ?_
  refine WL_eff (OE_box rfl) rfl ?_
  rintro _ wb ⟨b, rfl, hb, e0, hSb⟩
  replace e0 : Blk wb b 53 (crC q kc kd) := e0
  replace hc1 := hc1.up hSb
  replace hd1 := hd1.up hSb
  refine W ?_
  refine WL_eff OE_alloc rfl ?_
  rintro _ w1 ⟨bc, rfl, hbc, eW, hS⟩
  have hW : Wr w1 bc (bc + 1) (.slice none 0 0) [] := ⟨eW, Row.nil, by simp [ob], by omega, eW.lt⟩
  clear eW
  have e1 := e0.up hS
  refine W ?_
  refine WL_eff (OE_call rfl (evs2 rfl rfl) (Text_any bc (bc + 1) _ _ q.name _ (by omega) hW (by simp only [List.length_append, List.length_nil]; omega))) rfl ?_
  rintro _ w2 ⟨rfl, h⟩
  obtain ⟨u, hW2, hS2⟩ := h.flat hS hW hbc
  clear h hW hS e1
  have hW := hW2
  have hS := hS2
  clear hW2 hS2
  have e1 := e0.up hS
  refine W ?_
  refine WL_eff (OE_call rfl (evs2 rfl rfl) (Int_any bc (bc + 1) _ _ q.frm _ hq.frm hW (by simp only [List.length_append, List.length_nil]; omega))) rfl ?_
  rintro _ w2 ⟨rfl, h⟩
  obtain ⟨u, hW2, hS2⟩ := h.flat hS hW hbc
  clear h hW hS e1
  have hW := hW2
  have hS := hS2
  clear hW2 hS2
  have e1 := e0.up hS
  refine W ?_
  refine WL_eff (OE_call rfl (evs2 rfl rfl) (Text_any bc (bc + 1) _ _ q.on _ (by omega) hW (by simp only [List.length_append, List.length_nil]; omega))) rfl ?_
  rintro _ w2 ⟨rfl, h⟩
  obtain ⟨u, hW2, hS2⟩ := h.flat hS hW hbc
  clear h hW hS e1
  have hW := hW2
  have hS := hS2
  clear hW2 hS2
  have e1 := e0.up hS
  refine W ?_
  refine WL_eff (OE_call rfl (evs1 rfl) (Flat_any _ q.cnd _ (by omega) (hc1.up hS))) rfl ?_
  rintro vf w2 ⟨hrf, hT⟩
  have hle := hW.blk.lt
  have hvf : SlV (bc :: ob u) w2 vf (flatF q.cnd) := hrf.slv (X := bc :: ob u) (fun x hx => by
    rcases List.mem_cons.1 hx with rfl | hx
    · exact hle
    · exact (hW.row.ob_le x hx).2)
  replace hW := hW.up hT
  replace hS := hS.trans hT
  refine WL_eff (OE_call rfl (evs2 rfl rfl) (Ints_any bc (bc + 1) _ _ _ (flatF q.cnd) _ (flatF_I64 hq.cnd) (by omega) hvf hW (by simp only [List.length_append, List.length_nil]; omega))) rfl ?_
  rintro _ w3 ⟨rfl, h⟩
  obtain ⟨u, hW2, hS2⟩ := h.flat hS hW hbc
  clear h hW hS e1 hrf hvf hT
  have hW := hW2
  have hS := hS2
  clear hW2 hS2
  have e1 := e0.up hS
  refine W ?_
  refine WL_eff (OE_call rfl (evs1 rfl) (Flat_any _ q.due _ (by omega) (hd1.up hS))) rfl ?_
  rintro vf w2 ⟨hrf, hT⟩
  have hle := hW.blk.lt
  have hvf : SlV (bc :: ob u) w2 vf (flatF q.due) := hrf.slv (X := bc :: ob u) (fun x hx => by
    rcases List.mem_cons.1 hx with rfl | hx
    · exact hle
    · exact (hW.row.ob_le x hx).2)
  replace hW := hW.up hT
  replace hS := hS.trans hT
  refine WL_eff (OE_call rfl (evs2 rfl rfl) (Ints_any bc (bc + 1) _ _ _ (flatF q.due) _ (flatF_I64 hq.due) (by omega) hvf hW (by simp only [List.length_append, List.length_nil]; omega))) rfl ?_
  rintro _ w3 ⟨rfl, h⟩
  obtain ⟨u, hW2, hS2⟩ := h.flat hS hW hbc
  clear h hW hS e1 hrf hvf hT
  have hW := hW2
  have hS := hS2
  clear hW2 hS2
  have e1 := e0.up hS
  refine W ?_
  refine WL_eff (OE_call rfl (evs2 rfl rfl) (Text_any bc (bc + 1) _ _ q.unl _ (by omega) hW (by simp only [List.length_append, List.length_nil]; omega))) rfl ?_
  rintro _ w2 ⟨rfl, h⟩
  obtain ⟨u, hW2, hS2⟩ := h.flat hS hW hbc
  clear h hW hS e1
  have hW := hW2
  have hS := hS2
  clear hW2 hS2
  have e1 := e0.up hS
  refine W ?_
  refine WL_eff (OE_call rfl (evs2 rfl rfl) (Text_any bc (bc + 1) _ _ q.els _ (by omega) hW (by simp only [List.length_append, List.length_nil]; omega))) rfl ?_
  rintro _ w2 ⟨rfl, h⟩
  obtain ⟨u, hW2, hS2⟩ := h.flat hS hW hbc
  clear h hW hS e1
  have hW := hW2
  have hS := hS2
  clear hW2 hS2
  have e1 := e0.up hS
  refine W ?_
  refine WL_eff (OE_call rfl (evs1 rfl) (Done_any bc (bc + 1) _ _ _ hW (by simp only [List.length_append, List.length_nil]; omega))) rfl ?_
  rintro r w2 ⟨hr, hT⟩
  refine W ?_
  first | refine WQ_ret1 rfl rfl ?_ | refine WQ_ret2 rfl rfl rfl ?_ | refine WQ_ret3 rfl rfl rfl rfl ?_ | refine WQ_ret0 rfl ?_ | refine WQ_end0 rfl ?_
  have hSS := (hSb.trans hS).trans hT
  exact .mk ⟨by simpa [encC, List.append_assoc] using hr.lower (Nat.le_trans hSb.size hS.size), hSS⟩
theorem EncodeR_any (v : Value) (q : Cr) (w : World) (hq : CrOk q) (hv : CrV [] w v q) :
    Calls Tryd.prog 34 #[v] w (Ret fun r w' => Row [] w' w.heap.size 5 r (encC q) ∧ Stp [] w w') := by
  obtain ⟨kc, kd, rfl, hc1, hd1⟩ := hv
  have l1 := textB_len hq.lname
  have l2 := intB_len hq.frm
  have l3 := textB_len hq.lon
  have l4 := intsB_len hq.cnd hq.lcnd
  have l5 := intsB_len hq.due hq.ldue
  have l6 := textB_len hq.lunl
  have l7 := textB_len hq.lels
  have f1 := flatF_len q.cnd
  have f2 := flatF_len q.due
  have g1 := hq.lcnd
  have g2 := hq.ldue
  have g3 := hq.lname
  have g4 := hq.lon
  have g5 := hq.lunl
  have g6 := hq.lels
  refine calls_of_WC1 (n := 41) Tryd.func34 rfl rfl rfl ?_
  refine W ?_
  refine WL_eff (OE_box rfl) rfl ?_
  rintro _ wb ⟨b, rfl, hb, e0, hSb⟩
  replace e0 : Blk wb b 53 (crC q kc kd) := e0
  replace hc1 := hc1.up hSb
  replace hd1 := hd1.up hSb
  have hrow : Row [] wb wb.heap.size 5 (.slice none 0 0) ([] : List UInt8) := Row.nil
  have hS : Stp [] wb wb := Stp.refl _ _
  have e1 := e0
  refine W ?_
  refine WL_eff (OE_call rfl (evs1 rfl) (TextR_any q.name _ (by omega))) rfl ?_
  rintro x w2 ⟨hr, hT⟩
  have hle := hrow.ob_le
  replace hrow := hrow.up hT
  replace hS := hS.trans hT
  clear e1
  have e1 := e0.up hS
  refine W ?_
  refine WL_eff (OE_append (X := []) (base := wb.heap.size) rfl (by decide) rfl rfl hrow (hr.slv (X := ob _ ++ []) (fun x hx => (hle x (by simpa using hx)).2)) (by simp only [List.length_append, List.length_nil]; omega) (by simp only [List.length_append, List.length_nil, maxLen]; omega) hS.size) rfl ?_
  rintro u w3 ⟨hrow2, hT2, _⟩
  have hS2 := hS.own hT2 (fun x hx => .inr (hrow.ob_le x hx).1)
  clear hrow hS e1 hr hT hT2
  have hrow := hrow2
  have hS := hS2
  clear hrow2 hS2
  have e1 := e0.up hS
  refine W ?_
  refine WL_eff (OE_call rfl (evs1 rfl) (IntR_any q.frm _ hq.frm)) rfl ?_
  rintro x w2 ⟨hr, hT⟩
  have hle := hrow.ob_le
  replace hrow := hrow.up hT
  replace hS := hS.trans hT
  clear e1
  have e1 := e0.up hS
  refine W ?_
  refine WL_eff (OE_append (X := []) (base := wb.heap.size) rfl (by decide) rfl rfl hrow (hr.slv (X := ob _ ++ []) (fun x hx => (hle x (by simpa using hx)).2)) (by simp only [List.length_append, List.length_nil]; omega) (by simp only [List.length_append, List.length_nil, maxLen]; omega) hS.size) rfl ?_
  rintro u w3 ⟨hrow2, hT2, _⟩
  have hS2 := hS.own hT2 (fun x hx => .inr (hrow.ob_le x hx).1)
  clear hrow hS e1 hr hT hT2
  have hrow := hrow2
  have hS := hS2
  clear hrow2 hS2
  have e1 := e0.up hS
  refine W ?_
  refine WL_eff (OE_call rfl (evs1 rfl) (TextR_any q.on _ (by omega))) rfl ?_
  rintro x w2 ⟨hr, hT⟩
  have hle := hrow.ob_le
  replace hrow := hrow.up hT
  replace hS := hS.trans hT
  clear e1
  have e1 := e0.up hS
  refine W ?_
  refine WL_eff (OE_append (X := []) (base := wb.heap.size) rfl (by decide) rfl rfl hrow (hr.slv (X := ob _ ++ []) (fun x hx => (hle x (by simpa using hx)).2)) (by simp only [List.length_append, List.length_nil]; omega) (by simp only [List.length_append, List.length_nil, maxLen]; omega) hS.size) rfl ?_
  rintro u w3 ⟨hrow2, hT2, _⟩
  have hS2 := hS.own hT2 (fun x hx => .inr (hrow.ob_le x hx).1)
  clear hrow hS e1 hr hT hT2
  have hrow := hrow2
  have hS := hS2
  clear hrow2 hS2
  have e1 := e0.up hS
  refine W ?_
  refine WL_eff (OE_call rfl (evs1 rfl) (FlatR_any _ q.cnd _ (by omega) (hc1.up hS))) rfl ?_
  rintro vf w2 ⟨hrf, hTf⟩
  have hvf : SlV [] w2 vf (flatF q.cnd) := hrf.slv0
  replace hrow := hrow.up hTf
  replace hS := hS.trans hTf
  clear e1
  have e1 := e0.up hS
  refine W ?_
  refine WL_eff (OE_call rfl (evs1 rfl) (IntsR_any _ (flatF q.cnd) _ (flatF_I64 hq.cnd) (by omega) hvf)) rfl ?_
  rintro x w4 ⟨hr, hT⟩
  clear hrf hvf hTf
  have hle := hrow.ob_le
  replace hrow := hrow.up hT
  replace hS := hS.trans hT
  clear e1
  have e1 := e0.up hS
  refine W ?_
  refine WL_eff (OE_append (X := []) (base := wb.heap.size) rfl (by decide) rfl rfl hrow (hr.slv (X := ob _ ++ []) (fun x hx => (hle x (by simpa using hx)).2)) (by simp only [List.length_append, List.length_nil]; omega) (by simp only [List.length_append, List.length_nil, maxLen]; omega) hS.size) rfl ?_
  rintro u w3 ⟨hrow2, hT2, _⟩
  have hS2 := hS.own hT2 (fun x hx => .inr (hrow.ob_le x hx).1)
  clear hrow hS e1 hr hT hT2
  have hrow := hrow2
  have hS := hS2
  clear hrow2 hS2
  have e1 := e0.up hS
  refine W ?_
  refine WL_eff (OE_call rfl (evs1 rfl) (FlatR_any _ q.due _ (by omega) (hd1.up hS))) rfl ?_
  rintro vf w2 ⟨hrf, hTf⟩
  have hvf : SlV [] w2 vf (flatF q.due) := hrf.slv0
  replace hrow := hrow.up hTf
  replace hS := hS.trans hTf
  clear e1
  have e1 := e0.up hS
  refine W ?_
  refine WL_eff (OE_call rfl (evs1 rfl) (IntsR_any _ (flatF q.due) _ (flatF_I64 hq.due) (by omega) hvf)) rfl ?_
  rintro x w4 ⟨hr, hT⟩
  clear hrf hvf hTf
  have hle := hrow.ob_le
  replace hrow := hrow.up hT
  replace hS := hS.trans hT
  clear e1
  have e1 := e0.up hS
  refine W ?_
  refine WL_eff (OE_append (X := []) (base := wb.heap.size) rfl (by decide) rfl rfl hrow (hr.slv (X := ob _ ++ []) (fun x hx => (hle x (by simpa using hx)).2)) (by simp only [List.length_append, List.length_nil]; omega) (by simp only [List.length_append, List.length_nil, maxLen]; omega) hS.size) rfl ?_
  rintro u w3 ⟨hrow2, hT2, _⟩
  have hS2 := hS.own hT2 (fun x hx => .inr (hrow.ob_le x hx).1)
  clear hrow hS e1 hr hT hT2
  have hrow := hrow2
  have hS := hS2
  clear hrow2 hS2
  have e1 := e0.up hS
  refine W ?_
  refine WL_eff (OE_call rfl (evs1 rfl) (TextR_any q.unl _ (by omega))) rfl ?_
  rintro x w2 ⟨hr, hT⟩
  have hle := hrow.ob_le
  replace hrow := hrow.up hT
  replace hS := hS.trans hT
  clear e1
  have e1 := e0.up hS
  refine W ?_
  refine WL_eff (OE_append (X := []) (base := wb.heap.size) rfl (by decide) rfl rfl hrow (hr.slv (X := ob _ ++ []) (fun x hx => (hle x (by simpa using hx)).2)) (by simp only [List.length_append, List.length_nil]; omega) (by simp only [List.length_append, List.length_nil, maxLen]; omega) hS.size) rfl ?_
  rintro u w3 ⟨hrow2, hT2, _⟩
  have hS2 := hS.own hT2 (fun x hx => .inr (hrow.ob_le x hx).1)
  clear hrow hS e1 hr hT hT2
  have hrow := hrow2
  have hS := hS2
  clear hrow2 hS2
  have e1 := e0.up hS
  refine W ?_
  refine WL_eff (OE_call rfl (evs1 rfl) (TextR_any q.els _ (by omega))) rfl ?_
  rintro x w2 ⟨hr, hT⟩
  have hle := hrow.ob_le
  replace hrow := hrow.up hT
  replace hS := hS.trans hT
  clear e1
  have e1 := e0.up hS
  refine W ?_
  refine WL_eff (OE_append (X := []) (base := wb.heap.size) rfl (by decide) rfl rfl hrow (hr.slv (X := ob _ ++ []) (fun x hx => (hle x (by simpa using hx)).2)) (by simp only [List.length_append, List.length_nil]; omega) (by simp only [List.length_append, List.length_nil, maxLen]; omega) hS.size) rfl ?_
  rintro u w3 ⟨hrow2, hT2, _⟩
  have hS2 := hS.own hT2 (fun x hx => .inr (hrow.ob_le x hx).1)
  clear hrow hS e1 hr hT hT2
  have hrow := hrow2
  have hS := hS2
  clear hrow2 hS2
  have e1 := e0.up hS
  refine W ?_
  first | refine WQ_ret1 rfl rfl ?_ | refine WQ_ret2 rfl rfl rfl ?_ | refine WQ_ret3 rfl rfl rfl rfl ?_ | refine WQ_ret0 rfl ?_ | refine WQ_end0 rfl ?_
  exact .mk ⟨by simpa [encC, List.append_assoc] using hrow.lower hSb.size, hSb.trans hS⟩
end Go.Proofs.YtfjmlobgjdmecaaDoor
namespace Go.Proofs.YtfjmlobgjdmecaaDoor
open Go Go.Eng Go.RowKit
set_option linter.unusedVariables false
theorem checksLaw (v : Value) (q : Cr) (m : Int) (w : World) (hF : SlV [] w flds fieldNames) (hm : w.cell? ⟨1, 0, none⟩ = some (.int .i64 m)) (hv : CrV [] w v q)
    (hz : I64 q.frm) (hc : ∀ x ∈ q.cnd, I64 x.op ∧ I64 x.n) (hd : ∀ x ∈ q.due, I64 x.op ∧ I64 x.n) (g1 : q.name.length ≤ 1048576) (g2 : q.on.length ≤ 1048576) (g3 : q.unl.length ≤ 1048576) (g4 : q.els.length ≤ 1048576) :
    Calls Tryd.prog 8 #[v] w (Ret fun r w' => r = .bool true ∧ Stp [] w w') := by
  obtain ⟨kc, kd, rfl, hc1, hd1⟩ := hv
  have hm1 := hc1.max
  have hm2 := hd1.max
  have min1 : min (q.cnd.length : Int) 250 = ((min q.cnd.length 250 : Nat) : Int) := by omega
  have min2 : min (q.due.length : Int) 250 = ((min q.due.length 250 : Nat) : Int) := by omega
  have ml1 : min q.cnd.length 250 ≤ q.cnd.length := by omega
  have ml2 : min q.due.length 250 ≤ q.due.length := by omega
  refine calls_of_WC1 (n := 34) Tryd.func8 rfl rfl rfl ?_
  refine W ?_
  refine WL_eff (OE_box rfl) rfl ?_
  rintro _ wb ⟨b, rfl, hb, e0, hS⟩
  replace e0 : Blk wb b 53 (crC q kc kd) := e0
  replace hc1 := (show SlV [b] wb kc q.cnd from hc1.ext hS (by simp) (fun x hx => by simp at hx; subst hx; exact .inr hb))
  replace hd1 := (show SlV [b] wb kd q.due from hd1.ext hS (by simp) (fun x hx => by simp at hx; subst hx; exact .inr hb))
  refine W ?_
  refine WL_slice_h rfl hc1 rfl min1 ml1 rfl ?_
  have hsl := hc1.slc (l := 0) (r := min q.cnd.length 250) (by omega) ml1
  rw [List.drop_zero] at hsl
  replace hsl : SlV [b] wb (slc kc 0 (min q.cnd.length 250) 2) (q.cnd.take (min q.cnd.length 250)) := hsl
  have hcI : ∀ x ∈ q.cnd.take (min q.cnd.length 250), I64 x.op ∧ I64 x.n := fun x hx => hc x (List.mem_of_mem_take hx)
  have hcL : (q.cnd.take (min q.cnd.length 250)).length ≤ 250 := by rw [List.length_take]; omega
  generalize q.cnd.take (min q.cnd.length 250) = cnd at *
  generalize slc kc 0 (min q.cnd.length 250) 2 = kc' at *
  refine W ?_
  refine WL_eff0 (OE_store1 (u := kc') rfl rfl hsl.cells hsl.one e0 (by simp)) ?_
  rintro _ w1 ⟨hT, e1⟩
  replace e1 : Blk w1 b 53 (crC { q with cnd := cnd } kc' kd) := e1
  replace hsl : SlV [b] w1 kc' cnd := hsl.ext hT (by simp) (fun x hx => .inl hx)
  replace hd1 : SlV [b] w1 kd q.due := hd1.ext hT (by simp) (fun x hx => .inl hx)
  replace hS := hS.own hT (fun x hx => .inr (by simp at hx; omega))
  clear hT e0
  refine W ?_
  refine WL_slice_h rfl hd1 rfl min2 ml2 rfl ?_
  have hsd := hd1.slc (l := 0) (r := min q.due.length 250) (by omega) ml2
  rw [List.drop_zero] at hsd
  replace hsd : SlV [b] w1 (slc kd 0 (min q.due.length 250) 2) (q.due.take (min q.due.length 250)) := hsd
  have hdI : ∀ x ∈ q.due.take (min q.due.length 250), I64 x.op ∧ I64 x.n := fun x hx => hd x (List.mem_of_mem_take hx)
  have hdL : (q.due.take (min q.due.length 250)).length ≤ 250 := by rw [List.length_take]; omega
  generalize q.due.take (min q.due.length 250) = due at *
  generalize slc kd 0 (min q.due.length 250) 2 = kd' at *
  refine W ?_
  refine WL_eff0 (OE_store1 (u := kd') rfl rfl hsd.cells hsd.one e1 (by simp)) ?_
  rintro _ w2 ⟨hT, e2⟩
  replace e2 : Blk w2 b 53 (crC { q with cnd := cnd, due := due } kc' kd') := e2
  replace hsl : SlV [] w2 kc' cnd := hsl.ext hT (by simp) (fun x hx => by cases hx)
  replace hsd : SlV [] w2 kd' due := hsd.ext hT (by simp) (fun x hx => by cases hx)
  replace hS := hS.own hT (fun x hx => .inr (by simp at hx; omega))
  clear hT e1 hc1 hd1
  have hok : CrOk { q with cnd := cnd, due := due } := ⟨hz, hcI, hdI, by dsimp only; omega, by dsimp only; omega, g1, g2, g3, g4⟩
  replace hsl : SlV [] w2 kc' ({ q with cnd := cnd, due := due } : Cr).cnd := hsl
  replace hsd : SlV [] w2 kd' ({ q with cnd := cnd, due := due } : Cr).due := hsd
  generalize ({ q with cnd := cnd, due := due } : Cr) = q' at *
  refine W ?_
  refine WC_drawn 16 [] [] [(0, 1), (2, 1), (1, 2), (3, 2), (4, 0), (5, 0), (6, 1), (8, 1), (7, 2), (9, 2), (10, 2), (11, 0), (12, 0), (13, 2), (14, 0), (15, 0)] rfl mixed (by kernel_rfl) (by kernel_rfl) (by kernel_rfl) (fun w1 hS1 => ?_)
  replace e2 := e2.up hS1
  replace hsl := hsl.up hS1
  replace hsd := hsd.up hS1
  replace hS := hS.trans hS1
  clear hS1
  refine D ?_
  refine WD_eff rfl trivial (OE_call rfl (evs1 rfl) (CheckC_any _ q' _ m (hF.up hS) (hS.cell (by simp) hm) ⟨kc', kd', rfl, hsl, hsd⟩)) (fun _ _ h => h.2) rfl ?_
  rintro _ w3 ⟨rfl, hT⟩
  replace e2 := e2.up hT
  replace hsl := hsl.up hT
  replace hsd := hsd.up hT
  replace hS := hS.trans hT
  clear hT
  refine D ?_
  refine WD_eff rfl trivial (OE_call rfl (evs1 rfl) (CheckCR_any _ q' _ ⟨kc', kd', rfl, hsl, hsd⟩)) (fun _ _ h => h.2) rfl ?_
  rintro _ w3 ⟨rfl, hT⟩
  replace e2 := e2.up hT
  replace hsl := hsl.up hT
  replace hsd := hsd.up hT
  replace hS := hS.trans hT
  clear hT
  repeat' (first | refine D1 ?_ | (exfalso; omega) | refine WD_splitN rfl rfl rfl rfl (fun hg => ?_) (fun hg => ?_) | (refine WD_splitBN rfl rfl rfl rfl (fun hg => ?_) (fun hg => ?_) <;> refine D1 ?_) | fail)
  refine WD_eff rfl rfl (OE_call rfl (evs1 rfl) (Encode_any _ q' _ hok ⟨kc', kd', rfl, hsl, hsd⟩)) (fun _ _ h => h.2) rfl ?_
  rintro r1 w5 ⟨hr1, hT⟩
  replace e2 := e2.up hT
  replace hsl := hsl.up hT
  replace hsd := hsd.up hT
  replace hS := hS.trans hT
  clear hT
  repeat' (first | refine D1 ?_ | (exfalso; omega) | refine WD_splitN rfl rfl rfl rfl (fun hg => ?_) (fun hg => ?_) | (refine WD_splitBN rfl rfl rfl rfl (fun hg => ?_) (fun hg => ?_) <;> refine D1 ?_) | fail)
  refine WD_eff rfl rfl (OE_call rfl (evs1 rfl) (EncodeR_any _ q' _ hok ⟨kc', kd', rfl, hsl, hsd⟩)) (fun _ _ h => h.2) rfl ?_
  rintro r2 w6 ⟨hr2, hT⟩
  have hs1 := hr1.slv0.up hT
  replace e2 := e2.up hT
  replace hsl := hsl.up hT
  replace hsd := hsd.up hT
  replace hS := hS.trans hT
  clear hT
  repeat' (first | refine D1 ?_ | (exfalso; omega) | refine WD_splitN rfl rfl rfl rfl (fun hg => ?_) (fun hg => ?_) | (refine WD_splitBN rfl rfl rfl rfl (fun hg => ?_) (fun hg => ?_) <;> refine D1 ?_) | fail)
  refine WD_eff rfl rfl (OE_call rfl (evs2 rfl rfl) (SameBytes_any r1 r2 _ _ _ hs1 hr2.slv0)) (fun _ _ h => h.2 ▸ Stp.refl _ _) rfl ?_
  rintro _ _ ⟨rfl, rfl⟩
  repeat' (first | refine D1 ?_ | (exfalso; omega) | refine WD_splitN rfl rfl rfl rfl (fun hg => ?_) (fun hg => ?_) | (refine WD_splitBN rfl rfl rfl rfl (fun hg => ?_) (fun hg => ?_) <;> refine D1 ?_) | fail)
  all_goals try (exact absurd rfl (by assumption))
  refine WD_eff rfl rfl (OE_call rfl evs0 (lives15_any _ (hF.up hS))) (fun _ _ h => h.2) rfl ?_
  rintro _ w9 ⟨rfl, hT⟩
  repeat' (first | refine D1 ?_ | (exfalso; omega) | refine WD_splitN rfl rfl rfl rfl (fun hg => ?_) (fun hg => ?_) | (refine WD_splitBN rfl rfl rfl rfl (fun hg => ?_) (fun hg => ?_) <;> refine D1 ?_) | fail)
  refine W ?_
  first | refine WQ_ret1 rfl rfl ?_ | refine WQ_ret2 rfl rfl rfl ?_ | refine WQ_ret3 rfl rfl rfl rfl ?_ | refine WQ_ret0 rfl ?_ | refine WQ_end0 rfl ?_
  exact .mk ⟨rfl, hS.trans hT⟩
end Go.Proofs.YtfjmlobgjdmecaaDoor
namespace Go.Proofs.YtfjmlobgjdmecaaDoor
open Go Go.Eng Go.RowKit Go.Proofs Go.ChangeShapes Go.WideShapes Go.Deep
set_option linter.unusedVariables false
section
variable {H : Type} {enc : TypeId × Value → H} {w : World} {base : Nat} {spare : Nat → Bool} {held : Bool}
theorem k27 : Tryd.prog.cellsOf 27 = 1 := by kernel_rfl
theorem k53 : Tryd.prog.cellsOf 53 = 7 := by kernel_rfl
theorem bulk_part {d : DataW H} {l : List (DataW H)} (h : d ∈ l) : Rows.uptoBulk d ≤ Rows.uptoBulkAll l := by
  induction l with
  | nil => cases h
  | cons x r ih =>
    simp only [Rows.uptoBulkAll]
    cases List.mem_cons.1 h with
    | inl e => subst e; omega
    | inr e => have := ih e; omega
set_option maxRecDepth 100000 in
theorem cr_read {r : Reach} {b0 : Nat} {v : Value} {d : DataW H} {p : List MemPlace} (hv : Value.okWide Tryd.prog w r b0 53 v) (h : DataW.Trod enc Tryd.prog w base spare held 53 v d p) (hk : Rows.uptoBulk d ≤ 1048576) :
    ∃ q : Cr, CrV [] w v q ∧ I64 q.frm ∧ (∀ x ∈ q.cnd, I64 x.op ∧ I64 x.n) ∧ (∀ x ∈ q.due, I64 x.op ∧ I64 x.n) ∧ q.name.length ≤ 1048576 ∧ q.on.length ≤ 1048576 ∧ q.unl.length ≤ 1048576 ∧ q.els.length ≤ 1048576 := by
  obtain ⟨cs, rfl, hsz⟩ := okWide_struct Tryd.underlying53 hv
  obtain ⟨fuel, h⟩ := h
  obtain ⟨xs, n, rfl, hx, hlen, hxl, hf⟩ := DataW.trod_struct Tryd.underlying53 h
  rw [k53] at hlen
  have h0 : DataW.trod enc Tryd.prog w base spare held n 9 (((Value.agg cs).cells.toList.drop 0).take (Tryd.prog.cellsOf 9)) = xs[0]? := hf 0 _ rfl
  have h1 : DataW.trod enc Tryd.prog w base spare held n 3 (((Value.agg cs).cells.toList.drop 1).take (Tryd.prog.cellsOf 3)) = xs[1]? := hf 1 _ rfl
  have h2 : DataW.trod enc Tryd.prog w base spare held n 9 (((Value.agg cs).cells.toList.drop 2).take (Tryd.prog.cellsOf 9)) = xs[2]? := hf 2 _ rfl
  have h3 : DataW.trod enc Tryd.prog w base spare held n 27 (((Value.agg cs).cells.toList.drop 3).take (Tryd.prog.cellsOf 27)) = xs[3]? := hf 3 _ rfl
  have h4 : DataW.trod enc Tryd.prog w base spare held n 27 (((Value.agg cs).cells.toList.drop 4).take (Tryd.prog.cellsOf 27)) = xs[4]? := hf 4 _ rfl
  have h5 : DataW.trod enc Tryd.prog w base spare held n 9 (((Value.agg cs).cells.toList.drop 5).take (Tryd.prog.cellsOf 9)) = xs[5]? := hf 5 _ rfl
  have h6 : DataW.trod enc Tryd.prog w base spare held n 9 (((Value.agg cs).cells.toList.drop 6).take (Tryd.prog.cellsOf 9)) = xs[6]? := hf 6 _ rfl
  rw [k3] at h1
  rw [k9] at h0 h2 h5 h6
  rw [k27] at h3 h4
  have hcs : (Value.agg cs).cells.toList = cs.toList := rfl
  rw [hcs] at h0 h1 h2 h3 h4 h5 h6 hlen
  have hx' : d = .agg (xs.map (·.1)) := congrArg Prod.fst hx
  subst hx'
  rw [← Array.toArray_toList (xs := cs)]
  generalize cs.toList = cl at *
  match cl, hlen, xs, hxl with
  | [c0, c1, c2, c3, c4, c5, c6], _, [y0, y1, y2, y3, y4, y5, y6], _ =>
    simp only [List.drop, List.take] at h0 h1 h2 h3 h4 h5 h6
    obtain ⟨s0, e0, t0, -⟩ := DataW.trod_string Tryd.underlying9 h0
    obtain ⟨z, e1, -, hz⟩ := DataW.trod_int Tryd.underlying3 h1
    obtain ⟨s2, e2, t2, -⟩ := DataW.trod_string Tryd.underlying9 h2
    obtain ⟨s5, e5, t5, -⟩ := DataW.trod_string Tryd.underlying9 h5
    obtain ⟨s6, e6, t6, -⟩ := DataW.trod_string Tryd.underlying9 h6
    have rd : ∀ (n : Nat) (cs : List Value) (y : DataW H × List MemPlace), cs.length = Flat.k Ins → DataW.trod enc Tryd.prog w base spare held n 47 cs = some y → ∃ a : Ins, cs = Flat.enc a ∧ (I64 a.op ∧ I64 a.n) := fun n cs y hl hy => by
      obtain ⟨zs, h1, rfl, h2⟩ := intStruct_spec (k := 2) (by kernel_rfl) hl hy
      match zs, h1 with
      | [a, b], _ => exact ⟨⟨a, b⟩, rfl, by simpa using h2⟩
    obtain ⟨u3, l3, e3, hs3, hok3, -⟩ := slv_of_trod (α := Ins) (ok := fun x => I64 x.op ∧ I64 x.n) Tryd.underlying27 (by kernel_rfl) (by decide) rd h3
    obtain ⟨u4, l4, e4, hs4, hok4, -⟩ := slv_of_trod (α := Ins) (ok := fun x => I64 x.op ∧ I64 x.n) Tryd.underlying27 (by kernel_rfl) (by decide) rd h4
    obtain rfl := (List.cons.inj e0).1
    obtain rfl := (List.cons.inj e1).1
    obtain rfl := (List.cons.inj e2).1
    obtain rfl := (List.cons.inj e3).1
    obtain rfl := (List.cons.inj e4).1
    obtain rfl := (List.cons.inj e5).1
    obtain rfl := (List.cons.inj e6).1
    simp only [Rows.uptoBulk, Rows.uptoBulkAll, List.map_cons, List.map_nil, t0, t2, t5, t6] at hk
    refine ⟨⟨s0.data.toList, z, s2.data.toList, l3, l4, s5.data.toList, s6.data.toList⟩, ⟨_, _, rfl, hs3, hs4⟩, by simpa [I64, Lit.wf, IntKind.min, IntKind.max, IntKind.signed, IntKind.bits] using hz, hok3, hok4, ?_, ?_, ?_, ?_⟩ <;> dsimp only <;> omega
end
end Go.Proofs.YtfjmlobgjdmecaaDoor
