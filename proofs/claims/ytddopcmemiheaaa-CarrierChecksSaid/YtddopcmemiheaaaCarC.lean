import Derived.Test.YtddopcmemiheaaaCarA
namespace Go.Proofs.Ytddopcmemiheaaa
open Go Go.Eng Go.RowKit
set_option linter.unusedVariables false

/-! ### CarrierChecks -/
theorem getD_at {α : Type} {l : List α} {d : α} {i : Nat} (h : i < l.length) : l.getD i d = l[i] := by simp [List.getD, h]
theorem wayAt_ok {p : Pap} {x : Int} {y : Wy} (h : wayAt p x = some y) : y.attempt = p.attempt := by
  unfold wayAt at h
  dsimp only at h
  split at h
  · simp at h; subst h; rfl
  · cases h
theorem waysOf_at {ps : List Pap} {l : List Int} (hd : Dist ps) : (waysOf ps l).Pairwise (fun a b => a.attempt ≠ b.attempt) := by
  unfold waysOf
  rw [List.pairwise_filterMap]
  have : (List.range (min ps.length l.length)).Pairwise (fun a b => a < b ∧ b < ps.length) := by
    rw [List.pairwise_iff_getElem]
    intro i j hi hj hij
    simp at hi hj
    simp
    omega
  refine this.imp ?_
  rintro i j ⟨hij, hj⟩ a ha b hb
  have e1 := wayAt_ok ha
  have e2 := wayAt_ok hb
  rw [e1, e2]
  rw [getD_at (show i < ps.length by omega), getD_at hj]
  exact (List.pairwise_iff_getElem.1 hd) i j (by omega) hj hij
theorem inR_of {a b : Int} (h1 : 0 ≤ a) (h2 : a < b) : inR a b = true := by unfold inR; simp; omega
theorem chk_made (a b : List Int) : chk (papersOf a) (waysOf (papersOf a) b) = 0 := by
  have hP : (List.range (papersOf a).length).findSome? (errP (papersOf a)) = none := by
    refine findSome_none (fun j hj => ?_)
    unfold errP
    have hm := papersOf_mem (List.getElem_mem hj)
    rw [getD_at hj]
    have h1 : badP (papersOf a)[j] = false := by
      unfold badP
      rw [inR_of (by omega) (by omega), inR_of (by omega) (by omega), inR_of (by omega) (by omega), inR_of (by omega) (by omega)]
      rfl
    simp only [h1]
    rw [if_neg (by simp)]
    rw [if_neg]
    intro h
    obtain ⟨k, hk, hkj, hp⟩ := (any_take_idx _ _ _).1 h
    exact (List.pairwise_iff_getElem.1 (papersOf_dist a)) k j hk hj hkj (by simpa using hp)
  rw [chk_ways hP]
  refine chkW_none (fun j hj => ?_)
  unfold errW
  have hm := waysOf_mem (List.getElem_mem hj)
  rw [getD_at hj]
  have h0 : (papersOf a).any (fun x => decide (x.attempt = (waysOf (papersOf a) b)[j].attempt)) = true := by
    have hin := List.getElem_mem hj
    generalize (waysOf (papersOf a) b)[j] = y at hin
    unfold waysOf at hin
    obtain ⟨i, hi, hy⟩ := List.mem_filterMap.1 hin
    simp at hi
    rw [wayAt_ok hy, List.any_eq_true]
    refine ⟨(papersOf a)[i]'(by omega), List.getElem_mem _, ?_⟩
    rw [getD_at (show i < (papersOf a).length by omega)]
    simp
  have h1 : badW (waysOf (papersOf a) b)[j] = false := by
    unfold badW
    rw [inR_of (by omega) (by omega), inR_of (by omega) (by omega), inR_of (by omega) (by omega)]
    rfl
  simp only [h1, h0]
  rw [if_neg (by simp), if_neg (by simp)]
  rw [if_neg]
  intro h
  obtain ⟨k, hk, hkj, hp⟩ := (any_take_idx _ _ _).1 h
  exact (List.pairwise_iff_getElem.1 (waysOf_at (papersOf_dist a))) k j hk hj hkj (by simpa using hp)

theorem checksLaw (Xp Xw Xa Xb : List Nat) (pv wv va vb : Value) (ps : List Pap) (ws : List Wy) (a b : List Int) (n : Int) (w : World) (hp : SlV Xp w pv ps) (hw : SlV Xw w wv ws) (ha : SlV Xa w va a) (hb : SlV Xb w vb b) (hia : ∀ x ∈ a, I64 x) (hib : ∀ x ∈ b, I64 x) (hn : I64 n)
    (hmp : (ps.length + 8) * 32 ≤ 140737488355328) (hmw : (ws.length + 8) * 32 ≤ 140737488355328) :
    Calls Try.prog 3 #[pv, wv, .agg #[va, vb, .int .i64 n]] w (Ret fun r w' => r = .bool true ∧ Stp [] w w') := by
  obtain ⟨pa, ca, rfl⟩ := ha.len
  obtain ⟨pb, cb, rfl⟩ := hb.len
  refine calls_of_WC3 (n := 45) Try.func3 rfl rfl rfl ?_
  repeat' (first | (apply WL_move; exact rfl; exact rfl) | apply WL_nil | (apply WL_assign; exact rfl; exact rfl) | (apply WL_extract; exact rfl; exact rfl; exact rfl) | (apply WL_neq; exact rfl; exact rfl; exact rfl) | (apply WL_neqB; exact rfl; exact rfl; exact rfl) | (apply WL_pick_t; exact rfl; exact rfl; exact rfl) | (apply WL_pick_f; exact rfl; exact rfl; exact rfl) | (apply is_load; first | refine WL_load_blk rfl rfl (by assumption) (by rfl) rfl ?_ | refine WL_load_blkA rfl rfl (by assumption) (by rfl) rfl ?_ | refine WL_load_el rfl rfl (by assumption) (by assumption) (by rfl) (by rfl) rfl ?_ | refine WL_load_elA rfl rfl (by assumption) (by assumption) (by rfl) rfl ?_) | (apply WL_eql; exact rfl; exact rfl; exact rfl) | (apply WL_eqlB; exact rfl; exact rfl; exact rfl) | (apply WL_go; exact rfl) | (apply WL_pass; exact rfl; exact rfl) | apply WC_seq | apply WC_region | apply WC_skip | apply WC_ret | (apply WC_cond_true; exact rfl) | (apply WC_cond_false; exact rfl) | refine WQ_then ?_ | refine WQ_then_ret ?_)
  refine WL_eff (OE_box rfl) rfl ?_
  rintro _ w1 ⟨q, rfl, hq, hblk, hS⟩
  replace hblk : Blk w1 q _ [.slice pa a.length ca, .slice pb b.length cb, .int .i64 n] := hblk
  have hp0 := hp
  have hw0 := hw
  replace ha := ha.up hS; replace hb := hb.up hS; replace hp := hp.up hS; replace hw := hw.up hS
  have hw1 := hS.size
  repeat' (first | (apply WL_move; exact rfl; exact rfl) | apply WL_nil | (apply WL_assign; exact rfl; exact rfl) | (apply WL_extract; exact rfl; exact rfl; exact rfl) | (apply WL_neq; exact rfl; exact rfl; exact rfl) | (apply WL_neqB; exact rfl; exact rfl; exact rfl) | (apply WL_pick_t; exact rfl; exact rfl; exact rfl) | (apply WL_pick_f; exact rfl; exact rfl; exact rfl) | (apply is_load; first | refine WL_load_blk rfl rfl (by assumption) (by rfl) rfl ?_ | refine WL_load_blkA rfl rfl (by assumption) (by rfl) rfl ?_ | refine WL_load_el rfl rfl (by assumption) (by assumption) (by rfl) (by rfl) rfl ?_ | refine WL_load_elA rfl rfl (by assumption) (by assumption) (by rfl) rfl ?_) | (apply WL_eql; exact rfl; exact rfl; exact rfl) | (apply WL_eqlB; exact rfl; exact rfl; exact rfl) | (apply WL_go; exact rfl) | (apply WL_pass; exact rfl; exact rfl) | apply WC_seq | apply WC_region | apply WC_skip | apply WC_ret | (apply WC_cond_true; exact rfl) | (apply WC_cond_false; exact rfl) | refine WQ_then ?_ | refine WQ_then_ret ?_)
  refine WL_eff (OE_call rfl (evs1 rfl) (madeRef [] Xa Xb _ _ a b n _ (by simp) ha hb hia hib hn)) rfl ?_
  rintro _ w2 ⟨u, v, rfl, hrow, _, hwrow, hdis, hS2⟩
  have hps : SlV [] w2 u (papersOf a) := hrow.slv (by simp)
  have hws : SlV [] w2 v (waysOf (papersOf a) b) := hwrow.slv (by simp)
  have hw2 := hS2.size
  replace hp := hp.up hS2; replace hw := hw.up hS2
  replace hS := hS.trans hS2
  repeat' (first | (apply WL_move; exact rfl; exact rfl) | apply WL_nil | (apply WL_assign; exact rfl; exact rfl) | (apply WL_extract; exact rfl; exact rfl; exact rfl) | (apply WL_neq; exact rfl; exact rfl; exact rfl) | (apply WL_neqB; exact rfl; exact rfl; exact rfl) | (apply WL_pick_t; exact rfl; exact rfl; exact rfl) | (apply WL_pick_f; exact rfl; exact rfl; exact rfl) | (apply is_load; first | refine WL_load_blk rfl rfl (by assumption) (by rfl) rfl ?_ | refine WL_load_blkA rfl rfl (by assumption) (by rfl) rfl ?_ | refine WL_load_el rfl rfl (by assumption) (by assumption) (by rfl) (by rfl) rfl ?_ | refine WL_load_elA rfl rfl (by assumption) (by assumption) (by rfl) rfl ?_) | (apply WL_eql; exact rfl; exact rfl; exact rfl) | (apply WL_eqlB; exact rfl; exact rfl; exact rfl) | (apply WL_go; exact rfl) | (apply WL_pass; exact rfl; exact rfl) | apply WC_seq | apply WC_region | apply WC_skip | apply WC_ret | (apply WC_cond_true; exact rfl) | (apply WC_cond_false; exact rfl) | refine WQ_then ?_ | refine WQ_then_ret ?_)
  refine WL_eff (OE_call rfl (evs2 rfl rfl) (check_any _ _ _ _ _ _ _ hps hws)) rfl ?_
  rintro _ w3 ⟨rfl, hS3⟩
  rw [chk_made]
  replace hp := hp.up hS3; replace hw := hw.up hS3; replace hps := hps.up hS3; replace hws := hws.up hS3; replace hrow := hrow.up hS3; replace hwrow := hwrow.up hS3
  have hw3 := hS3.size
  replace hS := hS.trans hS3
  repeat' (first | (apply WL_move; exact rfl; exact rfl) | apply WL_nil | (apply WL_assign; exact rfl; exact rfl) | (apply WL_extract; exact rfl; exact rfl; exact rfl) | (apply WL_neq; exact rfl; exact rfl; exact rfl) | (apply WL_neqB; exact rfl; exact rfl; exact rfl) | (apply WL_pick_t; exact rfl; exact rfl; exact rfl) | (apply WL_pick_f; exact rfl; exact rfl; exact rfl) | (apply is_load; first | refine WL_load_blk rfl rfl (by assumption) (by rfl) rfl ?_ | refine WL_load_blkA rfl rfl (by assumption) (by rfl) rfl ?_ | refine WL_load_el rfl rfl (by assumption) (by assumption) (by rfl) (by rfl) rfl ?_ | refine WL_load_elA rfl rfl (by assumption) (by assumption) (by rfl) rfl ?_) | (apply WL_eql; exact rfl; exact rfl; exact rfl) | (apply WL_eqlB; exact rfl; exact rfl; exact rfl) | (apply WL_go; exact rfl) | (apply WL_pass; exact rfl; exact rfl) | apply WC_seq | apply WC_region | apply WC_skip | apply WC_ret | (apply WC_cond_true; exact rfl) | (apply WC_cond_false; exact rfl) | refine WQ_then ?_ | refine WQ_then_ret ?_ | refine WL_split rfl rfl (fun hg => ?_) (fun hg => ?_) | refine WL_splitB rfl rfl (fun hg => ?_) (fun hg => ?_) | refine WC_cond rfl (fun hc => ?_) (fun hc => ?_) | refine WC_condB rfl (fun hc => ?_) (fun hc => ?_))
  refine WL_eff (OE_call rfl (evs2 rfl rfl) (check_any _ _ _ _ _ _ _ hp hw)) rfl ?_
  rintro _ w4 ⟨rfl, hS4⟩
  replace hp := hp.up hS4; replace hw := hw.up hS4; replace hps := hps.up hS4; replace hws := hws.up hS4; replace hrow := hrow.up hS4; replace hwrow := hwrow.up hS4
  have hw4 := hS4.size
  replace hS := hS.trans hS4
  repeat' (first | (apply WL_move; exact rfl; exact rfl) | apply WL_nil | (apply WL_assign; exact rfl; exact rfl) | (apply WL_extract; exact rfl; exact rfl; exact rfl) | (apply WL_neq; exact rfl; exact rfl; exact rfl) | (apply WL_neqB; exact rfl; exact rfl; exact rfl) | (apply WL_pick_t; exact rfl; exact rfl; exact rfl) | (apply WL_pick_f; exact rfl; exact rfl; exact rfl) | (apply is_load; first | refine WL_load_blk rfl rfl (by assumption) (by rfl) rfl ?_ | refine WL_load_blkA rfl rfl (by assumption) (by rfl) rfl ?_ | refine WL_load_el rfl rfl (by assumption) (by assumption) (by rfl) (by rfl) rfl ?_ | refine WL_load_elA rfl rfl (by assumption) (by assumption) (by rfl) rfl ?_) | (apply WL_eql; exact rfl; exact rfl; exact rfl) | (apply WL_eqlB; exact rfl; exact rfl; exact rfl) | (apply WL_go; exact rfl) | (apply WL_pass; exact rfl; exact rfl) | apply WC_seq | apply WC_region | apply WC_skip | apply WC_ret | (apply WC_cond_true; exact rfl) | (apply WC_cond_false; exact rfl) | refine WQ_then ?_ | refine WQ_then_ret ?_)
  refine WL_eff (OE_call rfl (evs2 rfl rfl) (checkRef _ _ _ _ _ _ _ hp hw)) rfl ?_
  rintro _ w5 ⟨rfl, hS5⟩
  replace hp := hp.up hS5; replace hw := hw.up hS5; replace hps := hps.up hS5; replace hws := hws.up hS5; replace hrow := hrow.up hS5; replace hwrow := hwrow.up hS5
  have hw5 := hS5.size
  replace hS := hS.trans hS5
  repeat' (first | (apply WL_move; exact rfl; exact rfl) | apply WL_nil | (apply WL_assign; exact rfl; exact rfl) | (apply WL_extract; exact rfl; exact rfl; exact rfl) | (apply WL_neq; exact rfl; exact rfl; exact rfl) | (apply WL_neqB; exact rfl; exact rfl; exact rfl) | (apply WL_pick_t; exact rfl; exact rfl; exact rfl) | (apply WL_pick_f; exact rfl; exact rfl; exact rfl) | (apply is_load; first | refine WL_load_blk rfl rfl (by assumption) (by rfl) rfl ?_ | refine WL_load_blkA rfl rfl (by assumption) (by rfl) rfl ?_ | refine WL_load_el rfl rfl (by assumption) (by assumption) (by rfl) (by rfl) rfl ?_ | refine WL_load_elA rfl rfl (by assumption) (by assumption) (by rfl) rfl ?_) | (apply WL_eql; exact rfl; exact rfl; exact rfl) | (apply WL_eqlB; exact rfl; exact rfl; exact rfl) | (apply WL_go; exact rfl) | (apply WL_pass; exact rfl; exact rfl) | apply WC_seq | apply WC_region | apply WC_skip | apply WC_ret | (apply WC_cond_true; exact rfl) | (apply WC_cond_false; exact rfl) | refine WQ_then ?_ | refine WQ_then_ret ?_ | refine WL_split rfl rfl (fun hg => ?_) (fun hg => ?_) | refine WL_splitB rfl rfl (fun hg => ?_) (fun hg => ?_) | refine WC_cond rfl (fun hc => ?_) (fun hc => ?_) | refine WC_condB rfl (fun hc => ?_) (fun hc => ?_))
  · (exfalso; first | exact hc rfl | exact hg rfl)
  have hl1 := papersOf_len a
  have hl2 : (waysOf (papersOf a) b).length ≤ 8 := by
    unfold waysOf
    refine Nat.le_trans (List.length_filterMap_le _ _) ?_
    simp; omega
  have hou : ∀ b ∈ ob u, w.heap.size ≤ b := fun b hb => Nat.le_trans hw1 (hrow.ob_le b hb).1
  have hov : ∀ b ∈ ob v, w.heap.size ≤ b := fun b hb => Nat.le_trans hw1 (hwrow.ob_le b hb).1
  have hov5 : ∀ b ∈ ob v, b < w5.heap.size := fun b hb => (hwrow.ob_le b hb).2
  have hp5 : SlV (ob u ++ []) w5 pv ps := hp0.ext hS (by simp) (fun b hb => .inr (hou b (by simpa using hb)))
  refine WL_eff (OE_append (X := []) (base := w1.heap.size) rfl (by decide) rfl rfl hrow hp5 (by omega) (by simp only [maxLen]; omega) (by omega)) rfl ?_
  rintro u' w6 ⟨hrow6, hS6, hob6⟩
  have hw6 := hS6.size
  replace hwrow := hwrow.keep hS6 (fun b hb hv => hdis b hv hb)
  have hS' : Stp [] w w6 := hS.own hS6 (fun b hb => .inr (hou b hb))
  repeat' (first | (apply WL_move; exact rfl; exact rfl) | apply WL_nil | (apply WL_assign; exact rfl; exact rfl) | (apply WL_extract; exact rfl; exact rfl; exact rfl) | (apply WL_neq; exact rfl; exact rfl; exact rfl) | (apply WL_neqB; exact rfl; exact rfl; exact rfl) | (apply WL_pick_t; exact rfl; exact rfl; exact rfl) | (apply WL_pick_f; exact rfl; exact rfl; exact rfl) | (apply is_load; first | refine WL_load_blk rfl rfl (by assumption) (by rfl) rfl ?_ | refine WL_load_blkA rfl rfl (by assumption) (by rfl) rfl ?_ | refine WL_load_el rfl rfl (by assumption) (by assumption) (by rfl) (by rfl) rfl ?_ | refine WL_load_elA rfl rfl (by assumption) (by assumption) (by rfl) rfl ?_) | (apply WL_eql; exact rfl; exact rfl; exact rfl) | (apply WL_eqlB; exact rfl; exact rfl; exact rfl) | (apply WL_go; exact rfl) | (apply WL_pass; exact rfl; exact rfl) | apply WC_seq | apply WC_region | apply WC_skip | apply WC_ret | (apply WC_cond_true; exact rfl) | (apply WC_cond_false; exact rfl) | refine WQ_then ?_ | refine WQ_then_ret ?_)
  have hw6' : SlV (ob v ++ []) w6 wv ws := hw0.ext hS' (by simp) (fun b hb => .inr (hov b (by simpa using hb)))
  refine WL_eff (OE_append (X := []) (base := w1.heap.size) rfl (by decide) rfl rfl hwrow hw6' (by omega) (by simp only [maxLen]; omega) (by omega)) rfl ?_
  rintro v' w7 ⟨hwrow7, hS7, hob7⟩
  have hS'' : Stp [] w w7 := hS'.own hS7 (fun b hb => .inr (hov b hb))
  replace hrow6 := hrow6.keep hS7 (fun b hb hu => by
    rcases hob6 b hu with h | h
    · exact hdis b hb h
    · have := hov5 b hb
      omega)
  have hps7 : SlV [] w7 u' (papersOf a ++ ps) := hrow6.slv (by simp)
  have hws7 : SlV [] w7 v' (waysOf (papersOf a) b ++ ws) := hwrow7.slv (by simp)
  repeat' (first | (apply WL_move; exact rfl; exact rfl) | apply WL_nil | (apply WL_assign; exact rfl; exact rfl) | (apply WL_extract; exact rfl; exact rfl; exact rfl) | (apply WL_neq; exact rfl; exact rfl; exact rfl) | (apply WL_neqB; exact rfl; exact rfl; exact rfl) | (apply WL_pick_t; exact rfl; exact rfl; exact rfl) | (apply WL_pick_f; exact rfl; exact rfl; exact rfl) | (apply is_load; first | refine WL_load_blk rfl rfl (by assumption) (by rfl) rfl ?_ | refine WL_load_blkA rfl rfl (by assumption) (by rfl) rfl ?_ | refine WL_load_el rfl rfl (by assumption) (by assumption) (by rfl) (by rfl) rfl ?_ | refine WL_load_elA rfl rfl (by assumption) (by assumption) (by rfl) rfl ?_) | (apply WL_eql; exact rfl; exact rfl; exact rfl) | (apply WL_eqlB; exact rfl; exact rfl; exact rfl) | (apply WL_go; exact rfl) | (apply WL_pass; exact rfl; exact rfl) | apply WC_seq | apply WC_region | apply WC_skip | apply WC_ret | (apply WC_cond_true; exact rfl) | (apply WC_cond_false; exact rfl) | refine WQ_then ?_ | refine WQ_then_ret ?_)
  refine WL_eff (OE_call rfl (evs2 rfl rfl) (check_any _ _ _ _ _ _ _ hps7 hws7)) rfl ?_
  rintro _ w8 ⟨rfl, hS8⟩
  replace hps7 := hps7.up hS8; replace hws7 := hws7.up hS8
  repeat' (first | (apply WL_move; exact rfl; exact rfl) | apply WL_nil | (apply WL_assign; exact rfl; exact rfl) | (apply WL_extract; exact rfl; exact rfl; exact rfl) | (apply WL_neq; exact rfl; exact rfl; exact rfl) | (apply WL_neqB; exact rfl; exact rfl; exact rfl) | (apply WL_pick_t; exact rfl; exact rfl; exact rfl) | (apply WL_pick_f; exact rfl; exact rfl; exact rfl) | (apply is_load; first | refine WL_load_blk rfl rfl (by assumption) (by rfl) rfl ?_ | refine WL_load_blkA rfl rfl (by assumption) (by rfl) rfl ?_ | refine WL_load_el rfl rfl (by assumption) (by assumption) (by rfl) (by rfl) rfl ?_ | refine WL_load_elA rfl rfl (by assumption) (by assumption) (by rfl) rfl ?_) | (apply WL_eql; exact rfl; exact rfl; exact rfl) | (apply WL_eqlB; exact rfl; exact rfl; exact rfl) | (apply WL_go; exact rfl) | (apply WL_pass; exact rfl; exact rfl) | apply WC_seq | apply WC_region | apply WC_skip | apply WC_ret | (apply WC_cond_true; exact rfl) | (apply WC_cond_false; exact rfl) | refine WQ_then ?_ | refine WQ_then_ret ?_)
  refine WL_eff (OE_call rfl (evs2 rfl rfl) (checkRef _ _ _ _ _ _ _ hps7 hws7)) rfl ?_
  rintro _ w9 ⟨rfl, hS9⟩
  repeat' (first | (apply WL_move; exact rfl; exact rfl) | apply WL_nil | (apply WL_assign; exact rfl; exact rfl) | (apply WL_extract; exact rfl; exact rfl; exact rfl) | (apply WL_neq; exact rfl; exact rfl; exact rfl) | (apply WL_neqB; exact rfl; exact rfl; exact rfl) | (apply WL_pick_t; exact rfl; exact rfl; exact rfl) | (apply WL_pick_f; exact rfl; exact rfl; exact rfl) | (apply is_load; first | refine WL_load_blk rfl rfl (by assumption) (by rfl) rfl ?_ | refine WL_load_blkA rfl rfl (by assumption) (by rfl) rfl ?_ | refine WL_load_el rfl rfl (by assumption) (by assumption) (by rfl) (by rfl) rfl ?_ | refine WL_load_elA rfl rfl (by assumption) (by assumption) (by rfl) rfl ?_) | (apply WL_eql; exact rfl; exact rfl; exact rfl) | (apply WL_eqlB; exact rfl; exact rfl; exact rfl) | (apply WL_go; exact rfl) | (apply WL_pass; exact rfl; exact rfl) | apply WC_seq | apply WC_region | apply WC_skip | apply WC_ret | (apply WC_cond_true; exact rfl) | (apply WC_cond_false; exact rfl) | refine WQ_then ?_ | refine WQ_then_ret ?_ | refine WL_split rfl rfl (fun hg => ?_) (fun hg => ?_) | refine WL_splitB rfl rfl (fun hg => ?_) (fun hg => ?_) | refine WC_cond rfl (fun hc => ?_) (fun hc => ?_) | refine WC_condB rfl (fun hc => ?_) (fun hc => ?_))
  rotate_left
  · (exfalso; first | exact hc rfl | exact hg rfl)
  refine WL_eff (OE_call rfl (evs0) (lives_any _)) rfl ?_
  rintro _ w10 ⟨rfl, hS10⟩
  repeat' (first | (apply WL_move; exact rfl; exact rfl) | apply WL_nil | (apply WL_assign; exact rfl; exact rfl) | (apply WL_extract; exact rfl; exact rfl; exact rfl) | (apply WL_neq; exact rfl; exact rfl; exact rfl) | (apply WL_neqB; exact rfl; exact rfl; exact rfl) | (apply WL_pick_t; exact rfl; exact rfl; exact rfl) | (apply WL_pick_f; exact rfl; exact rfl; exact rfl) | (apply is_load; first | refine WL_load_blk rfl rfl (by assumption) (by rfl) rfl ?_ | refine WL_load_blkA rfl rfl (by assumption) (by rfl) rfl ?_ | refine WL_load_el rfl rfl (by assumption) (by assumption) (by rfl) (by rfl) rfl ?_ | refine WL_load_elA rfl rfl (by assumption) (by assumption) (by rfl) rfl ?_) | (apply WL_eql; exact rfl; exact rfl; exact rfl) | (apply WL_eqlB; exact rfl; exact rfl; exact rfl) | (apply WL_go; exact rfl) | (apply WL_pass; exact rfl; exact rfl) | apply WC_seq | apply WC_region | apply WC_skip | apply WC_ret | (apply WC_cond_true; exact rfl) | (apply WC_cond_false; exact rfl) | refine WQ_then ?_ | refine WQ_then_ret ?_)
  first | refine WQ_ret1 rfl rfl ?_ | refine WQ_ret2 rfl rfl rfl ?_ | refine WQ_ret3 rfl rfl rfl rfl ?_ | refine WQ_ret0 rfl ?_ | refine WQ_end0 rfl ?_
  exact .mk ⟨rfl, ((hS''.trans hS8).trans hS9).trans hS10⟩
end Go.Proofs.Ytddopcmemiheaaa
