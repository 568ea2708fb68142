/-
Merged by program out of own texts: Typ12, Typ13, Cmp1, Cmp2, Cmp3, Cmp4, Cmp5, Cmp6, Cmp7, Cmp8, Cmp9, Eng11, Cmp10, Cmp11, Cmp12, Cmp13, Prn1, Gen1, Gen2, Gen3, Gen4, Gen5, Gen6.
-/
import Derived.Test.YtfjmlobgjdmecaaDoorM2
namespace Go.Proofs.YtfjmlobgjdmecaaDoor
open Go Go.Eng Go.RowKit
set_option linter.unusedVariables false

abbrev ndL (k n : Int) (s : Str) (kv : Value) : List Value := [.int .i64 k, .int .i64 n, str s, kv]
set_option maxHeartbeats 1000000 in
theorem typed_any (x : Nd) : ∀ (X : List Nat) (v : Value) (w : World), okN x = true → NdV X w v x →
    Calls Tryd.prog 84 #[v] w (Ret fun r w' => r = .int .i64 (typeT x) ∧ Stp [] w w') := by
  induction x using Nd.ind with
  | h k n s l ih =>
  intro X v w hok hx
  obtain ⟨hk1, hk2⟩ := (okN_iff _).1 hok
  replace hk1 : l.length ≤ 1000 := hk1
  replace hk2 : ∀ y ∈ l, okN y = true := hk2
  obtain ⟨kv, rfl, hs⟩ := hx
  replace hs : SlV X w kv l := hs
  rw [typeT_R]
  show Calls _ _ _ _ (Ret fun r w' => r = .int .i64 (combR k n s (l.map typeT)) ∧ Stp [] w w')
  refine calls_of_WC1 (n := 104) Tryd.func84 rfl rfl rfl ?_
  refine W ?_
  refine WL_eff (OE_box rfl) rfl ?_
  rintro _ w1 ⟨b, rfl, hbb, hblk, hS⟩
  replace hblk : Blk w1 b _ (ndL k n s kv) := hblk
  replace hs := hs.up hS
  repeat' (first | refine W1 ?_ | (exfalso; omega) | refine WL_split rfl rfl (fun hg => ?_) (fun hg => ?_) | refine WL_splitB rfl rfl (fun hg => ?_) (fun hg => ?_) | refine WC_cond rfl (fun hc => ?_) (fun hc => ?_) | refine WC_condB rfl (fun hc => ?_) (fun hc => ?_))
  · refine WL_eff (OE_call rfl (evs1 rfl) (leaf14_any X _ (.mk k n s l) _ ⟨kv, rfl, hs⟩)) rfl ?_
    rintro _ w2 ⟨rfl, hS2⟩
    refine W ?_
    first | refine WQ_ret1 rfl rfl ?_ | refine WQ_ret2 rfl rfl rfl ?_ | refine WQ_ret3 rfl rfl rfl rfl ?_ | refine WQ_ret0 rfl ?_ | refine WQ_end0 rfl ?_
    have hl0 : l = [] := List.length_eq_zero_iff.1 (by omega)
    subst hl0
    exact .mk ⟨by simp [combR]; rfl, hS.trans hS2⟩
  have hne : ¬ l.map typeT = [] := by
    intro h
    have := congrArg List.length h
    simp at this
    subst this
    simp at hc
  have hlen : (l.map typeT).length = l.length := by simp
  have hget : ∀ i (h : i < l.length) (h' : i < (l.map typeT).length), (l.map typeT)[i] = typeT l[i] := by intro i h h'; simp
  generalize hts : l.map typeT = ts at *
  refine WC_cutB (σ := Value) (fun u => [(1, .pointer (some ⟨b, 0, none⟩)), (3, u)]) (fun u w' => SlV [] w' u ts ∧ Stp [] w1 w') ?_ ?_
  · have hs0 := hs
    have hblk0 := hblk
    have hXw : w1.heap.size ≤ w1.heap.size := Nat.le_refl _
    refine WC_loop (σ := Nat × Value) (fun q => [(1, .pointer (some ⟨b, 0, none⟩)), (3, q.2), (4, .int .i64 (q.1 : Int))]) (fun q w' => q.1 ≤ l.length ∧ Row [] w' w1.heap.size 3 q.2 (ts.take q.1) ∧ Stp [] w1 w') (fun q => l.length - q.1) (0, .slice none 0 0) ⟨rfl, rfl, rfl, trivial⟩ ⟨Nat.zero_le _, Row.nil, Stp.refl _ _⟩ ?_
    clear hs hblk
    rintro ⟨j, u⟩ w2 ⟨hj, hrow, hS2⟩
    dsimp only at hj hrow ⊢
    have hs := hs0.up hS2
    have hblk := hblk0.up hS2
    by_cases hlt : j < l.length
    · obtain ⟨kv2, hs2, hc2⟩ := hs.nd hlt
      repeat' (first | refine W1 ?_ | (exfalso; omega) | refine WL_split rfl rfl (fun hg => ?_) (fun hg => ?_) | refine WL_splitB rfl rfl (fun hg => ?_) (fun hg => ?_) | refine WC_cond rfl (fun hc => ?_) (fun hc => ?_) | refine WC_condB rfl (fun hc => ?_) (fun hc => ?_))
      apply WL_pure (PR_loadNd rfl rfl hs hlt hc2) rfl
      refine WL_eff (OE_call rfl (evs1 rfl) (ih l[j] (List.getElem_mem hlt) X _ _ (hk2 _ (List.getElem_mem hlt)) ⟨kv2, rfl, hs2⟩)) rfl ?_
      rintro _ w3 ⟨rfl, hS3⟩
      replace hrow := hrow.up hS3
      replace hS2 := hS2.trans hS3
      refine W ?_
      refine WL_eff (OE_buildSlice (vs := [(0, .int .i64 (typeT l[j]))]) rfl (buildSI1 _)) rfl ?_
      rintro bv w4 hN
      have hbv : SlV (ob u ++ []) w4 bv [typeT l[j]] := hN.slv (fun b hb => (hrow.ob_le b (by simpa using hb)).2) rfl rfl (by simp [maxLen])
      have hS4 := NewSl.stp hN
      clear hN
      replace hrow := hrow.up hS4
      replace hS2 := hS2.trans hS4
      have hbase := hS2.size
      have hlt' : (ts.take j).length ≤ 1000 := by rw [List.length_take]; omega
      refine WL_eff (OE_append (X := []) (base := w1.heap.size) rfl (by decide) rfl rfl hrow hbv (by simp only [List.length_cons, List.length_nil]; omega) (by simp only [List.length_cons, List.length_nil, maxLen]; omega) hbase) rfl ?_
      rintro u' w5 ⟨hrow', hS5, _⟩
      refine W ?_
      refine WQ_loop (j + 1, u') ⟨rfl, rfl, rfl, trivial⟩ ⟨by dsimp only; omega, ?_, hS2.own hS5 (fun c hc => .inr (hrow.ob_le c hc).1)⟩ (by dsimp only; omega)
      dsimp only
      rw [List.take_succ_eq_append_getElem (by omega), hget j hlt]
      exact hrow'
    · have hje : j = l.length := by omega
      subst hje
      rw [← hlen, List.take_length] at hrow
      repeat' (first | refine W1 ?_ | (exfalso; omega) | refine WL_split rfl rfl (fun hg => ?_) (fun hg => ?_) | refine WL_splitB rfl rfl (fun hg => ?_) (fun hg => ?_) | refine WC_cond rfl (fun hc => ?_) (fun hc => ?_) | refine WC_condB rfl (fun hc => ?_) (fun hc => ?_))
      exact WQ_cut u ⟨rfl, rfl, trivial⟩ ⟨hrow.slv0, hS2⟩
  rintro u w2 ⟨hu, hS2⟩
  replace hblk := hblk.up hS2
  replace hS := hS.trans hS2
  have hts1 : 1 ≤ ts.length := by
    cases ts with
    | nil => exact absurd rfl hne
    | cons => simp
  clear hget hts hs
  have h0 : ∀ (h : 0 < ts.length), ts.getD 0 0 = ts[0] := fun h => by simp [List.getD, h]
  have h1 : ∀ (h : 1 < ts.length), ts.getD 1 0 = ts[1] := fun h => by simp [List.getD, h]
  unfold combR
  rw [if_neg hne]
  refine W ?_
  by_cases hn : ¬ n = 0
  · rw [if_pos hn]
    repeat' (first | refine W1 ?_ | (exfalso; omega) | refine WL_split rfl rfl (fun hg => ?_) (fun hg => ?_) | refine WL_splitB rfl rfl (fun hg => ?_) (fun hg => ?_) | refine WC_cond rfl (fun hc => ?_) (fun hc => ?_) | refine WC_condB rfl (fun hc => ?_) (fun hc => ?_))
    first | refine WQ_ret1 rfl rfl ?_ | refine WQ_ret2 rfl rfl rfl ?_ | refine WQ_ret3 rfl rfl rfl rfl ?_ | refine WQ_ret0 rfl ?_ | refine WQ_end0 rfl ?_
    exact .mk ⟨rfl, hS⟩
  rw [if_neg hn]
  by_cases k5 : k = 5
  · subst k5
    rw [if_pos rfl]
    have hl0 : 0 < ts.length := by omega
    by_cases hm : s = [45] ∨ s = [110, 111, 116]
    · have fin : ∀ (z : Int) (p : Bool), (s = [45] ∧ z = 1 ∨ s = [110, 111, 116] ∧ z = 2) → areB ts [z] = p → (if s = [45] ∧ areB ts [1] = true ∨ s = [110, 111, 116] ∧ areB ts [2] = true then ts.getD 0 0 else 0) = if p then ts.getD 0 0 else 0 := by
        rintro z p (⟨rfl, rfl⟩ | ⟨rfl, rfl⟩) hp <;> simp [hp]
      rcases hm with rfl | rfl
      · repeat' (first | refine W1 ?_ | (exfalso; omega) | refine WL_split rfl rfl (fun hg => ?_) (fun hg => ?_) | refine WL_splitB rfl rfl (fun hg => ?_) (fun hg => ?_) | refine WC_cond rfl (fun hc => ?_) (fun hc => ?_) | refine WC_condB rfl (fun hc => ?_) (fun hc => ?_))
        refine WL_eff (OE_buildSlice (vs := [(0, .int .i64 1)]) rfl (buildSI1 _)) rfl ?_
        rintro a1 w7 hN
        have ha := hN.slv (X := []) (ys := [(1 : Int)]) (by simp) rfl rfl (by simp [maxLen])
        have hS7 := NewSl.stp hN
        clear hN
        replace hu := hu.up hS7
        replace hblk := hblk.up hS7
        replace hS := hS.trans hS7
        refine W ?_
        refine WL_eff (OE_call rfl (evs2 rfl rfl) (are_any _ _ _ _ _ _ _ hu ha)) rfl ?_
        rintro _ w8 ⟨rfl, hS8⟩
        replace hu := hu.up hS8
        replace hblk := hblk.up hS8
        replace hS := hS.trans hS8
        rw [fin 1 _ (.inl ⟨rfl, rfl⟩) rfl]
        cases areB ts [1] with
        | true =>
          repeat' (first | refine W1 ?_ | (exfalso; omega) | refine WL_split rfl rfl (fun hg => ?_) (fun hg => ?_) | refine WL_splitB rfl rfl (fun hg => ?_) (fun hg => ?_) | refine WC_cond rfl (fun hc => ?_) (fun hc => ?_) | refine WC_condB rfl (fun hc => ?_) (fun hc => ?_))
          first | refine WQ_ret1 rfl rfl ?_ | refine WQ_ret2 rfl rfl rfl ?_ | refine WQ_ret3 rfl rfl rfl rfl ?_ | refine WQ_ret0 rfl ?_ | refine WQ_end0 rfl ?_
          refine .mk ⟨?_, hS⟩
          rw [if_pos rfl, h0 hts1]
        | false =>
          repeat' (first | refine W1 ?_ | (exfalso; omega) | refine WL_split rfl rfl (fun hg => ?_) (fun hg => ?_) | refine WL_splitB rfl rfl (fun hg => ?_) (fun hg => ?_) | refine WC_cond rfl (fun hc => ?_) (fun hc => ?_) | refine WC_condB rfl (fun hc => ?_) (fun hc => ?_))
          first | refine WQ_ret1 rfl rfl ?_ | refine WQ_ret2 rfl rfl rfl ?_ | refine WQ_ret3 rfl rfl rfl rfl ?_ | refine WQ_ret0 rfl ?_ | refine WQ_end0 rfl ?_
          exact .mk ⟨rfl, hS⟩
      · repeat' (first | refine W1 ?_ | (exfalso; omega) | refine WL_split rfl rfl (fun hg => ?_) (fun hg => ?_) | refine WL_splitB rfl rfl (fun hg => ?_) (fun hg => ?_) | refine WC_cond rfl (fun hc => ?_) (fun hc => ?_) | refine WC_condB rfl (fun hc => ?_) (fun hc => ?_))
        refine WL_eff (OE_buildSlice (vs := [(0, .int .i64 2)]) rfl (buildSI1 _)) rfl ?_
        rintro a1 w7 hN
        have ha := hN.slv (X := []) (ys := [(2 : Int)]) (by simp) rfl rfl (by simp [maxLen])
        have hS7 := NewSl.stp hN
        clear hN
        replace hu := hu.up hS7
        replace hblk := hblk.up hS7
        replace hS := hS.trans hS7
        refine W ?_
        refine WL_eff (OE_call rfl (evs2 rfl rfl) (are_any _ _ _ _ _ _ _ hu ha)) rfl ?_
        rintro _ w8 ⟨rfl, hS8⟩
        replace hu := hu.up hS8
        replace hS := hS.trans hS8
        rw [fin 2 _ (.inr ⟨rfl, rfl⟩) rfl]
        cases areB ts [2] with
        | true =>
          repeat' (first | refine W1 ?_ | (exfalso; omega) | refine WL_split rfl rfl (fun hg => ?_) (fun hg => ?_) | refine WL_splitB rfl rfl (fun hg => ?_) (fun hg => ?_) | refine WC_cond rfl (fun hc => ?_) (fun hc => ?_) | refine WC_condB rfl (fun hc => ?_) (fun hc => ?_))
          first | refine WQ_ret1 rfl rfl ?_ | refine WQ_ret2 rfl rfl rfl ?_ | refine WQ_ret3 rfl rfl rfl rfl ?_ | refine WQ_ret0 rfl ?_ | refine WQ_end0 rfl ?_
          refine .mk ⟨?_, hS⟩
          rw [if_pos rfl, h0 hts1]
        | false =>
          repeat' (first | refine W1 ?_ | (exfalso; omega) | refine WL_split rfl rfl (fun hg => ?_) (fun hg => ?_) | refine WL_splitB rfl rfl (fun hg => ?_) (fun hg => ?_) | refine WC_cond rfl (fun hc => ?_) (fun hc => ?_) | refine WC_condB rfl (fun hc => ?_) (fun hc => ?_))
          first | refine WQ_ret1 rfl rfl ?_ | refine WQ_ret2 rfl rfl rfl ?_ | refine WQ_ret3 rfl rfl rfl rfl ?_ | refine WQ_ret0 rfl ?_ | refine WQ_end0 rfl ?_
          exact .mk ⟨rfl, hS⟩
    · have hm1 : ¬ s = [45] := fun h => hm (.inl h)
      have hm2 : ¬ s = [110, 111, 116] := fun h => hm (.inr h)
      rw [if_neg (by rintro (⟨h, _⟩ | ⟨h, _⟩) <;> contradiction)]
      repeat' (first | refine W1 ?_ | (exfalso; omega) | refine WL_split rfl rfl (fun hg => ?_) (fun hg => ?_) | refine WL_splitB rfl rfl (fun hg => ?_) (fun hg => ?_) | refine WC_cond rfl (fun hc => ?_) (fun hc => ?_) | refine WC_condB rfl (fun hc => ?_) (fun hc => ?_))
      all_goals try contradiction
      first | refine WQ_ret1 rfl rfl ?_ | refine WQ_ret2 rfl rfl rfl ?_ | refine WQ_ret3 rfl rfl rfl rfl ?_ | refine WQ_ret0 rfl ?_ | refine WQ_end0 rfl ?_
      exact .mk ⟨rfl, hS⟩
  rw [if_neg k5]
  by_cases k6 : k = 6
  · subst k6
    rw [if_pos rfl]
    repeat' (first | refine W1 ?_ | (exfalso; omega) | refine WL_split rfl rfl (fun hg => ?_) (fun hg => ?_) | refine WL_splitB rfl rfl (fun hg => ?_) (fun hg => ?_) | refine WC_cond rfl (fun hc => ?_) (fun hc => ?_) | refine WC_condB rfl (fun hc => ?_) (fun hc => ?_))
    refine WL_eff (OE_call rfl (evs2 rfl rfl) (binary14_any [] s u ts _ hu)) rfl ?_
    rintro _ w3 ⟨rfl, hS3⟩
    refine W ?_
    first | refine WQ_ret1 rfl rfl ?_ | refine WQ_ret2 rfl rfl rfl ?_ | refine WQ_ret3 rfl rfl rfl rfl ?_ | refine WQ_ret0 rfl ?_ | refine WQ_end0 rfl ?_
    exact .mk ⟨rfl, hS.trans hS3⟩
  rw [if_neg k6]
  by_cases k78 : k = 7 ∨ k = 8
  · rw [if_pos k78]
    have n9 : ¬ k = 9 := by omega
    have n10 : ¬ k = 10 := by omega
    repeat' (first | refine W1 ?_ | (exfalso; omega) | refine WL_split rfl rfl (fun hg => ?_) (fun hg => ?_) | refine WL_splitB rfl rfl (fun hg => ?_) (fun hg => ?_) | refine WC_cond rfl (fun hc => ?_) (fun hc => ?_) | refine WC_condB rfl (fun hc => ?_) (fun hc => ?_))
    all_goals
      refine WC_drawn 10 [] [] [(1, 0), (2, 1), (0, 2), (3, 2), (4, 0), (5, 0), (6, 0), (7, 2), (8, 2), (9, 0)] rfl mixed (by kernel_rfl) (by kernel_rfl) (by kernel_rfl) (fun w1 hS1 => ?_)
      replace hu := hu.up hS1
      replace hblk := hblk.up hS1
      replace hS := hS.trans hS1
      refine D ?_
      refine WD_eff rfl trivial (OE_call rfl (evs1 rfl) (words_any [] [100, 97, 121, 115, 32, 119, 101, 101, 107, 115, 32, 109, 111, 110, 116, 104, 115, 32, 99, 111, 117, 114, 116, 100, 97, 121, 115] _ (by simp) (by decide))) (fun _ _ h => h.2) rfl ?_
      rintro _ w5 ⟨hr, hS5⟩
      rw [units_words] at hr
      replace hu := hu.up hS5
      replace hS := hS.trans hS5
      refine WD_eff rfl trivial (OE_call rfl (evs2 rfl rfl) (place14_any [] _ _ s _ hr.slv0)) (fun _ _ h => h.2) rfl ?_
      rintro _ w6 ⟨rfl, hS6⟩
      replace hu := hu.up hS6
      replace hS := hS.trans hS6
      generalize idx (isS s) units = i1
      by_cases hi : 0 ≤ i1
      · repeat' (first | refine D1 ?_ | (exfalso; omega) | refine WD_splitN rfl rfl rfl rfl (fun hg => ?_) (fun hg => ?_) | (refine WD_splitBN rfl rfl rfl rfl (fun hg => ?_) (fun hg => ?_) <;> refine D1 ?_) | fail)
        refine WD_eff rfl rfl (OE_buildSlice (vs := [(0, .int .i64 3), (1, .int .i64 1)]) rfl (buildSI2 _ _)) (fun _ _ h => NewSl.stp h) rfl ?_
        rintro a1 w7 hN
        have ha := hN.slv (X := []) (ys := [(3 : Int), 1]) (by simp) rfl rfl (by simp [maxLen])
        have hS7 := NewSl.stp hN
        clear hN
        replace hu := hu.up hS7
        replace hS := hS.trans hS7
        refine WD_eff rfl rfl (OE_call rfl (evs2 rfl rfl) (are_any _ _ _ _ _ _ _ hu ha)) (fun _ _ h => h.2) rfl ?_
        rintro _ w8 ⟨rfl, hS8⟩
        replace hS := hS.trans hS8
        generalize areB ts [3, 1] = p
        cases p
        · refine D ?_
          repeat' (first | refine W1 ?_ | (exfalso; omega) | refine WL_split rfl rfl (fun hg => ?_) (fun hg => ?_) | refine WL_splitB rfl rfl (fun hg => ?_) (fun hg => ?_) | refine WC_cond rfl (fun hc => ?_) (fun hc => ?_) | refine WC_condB rfl (fun hc => ?_) (fun hc => ?_))
          first | refine WQ_ret1 rfl rfl ?_ | refine WQ_ret2 rfl rfl rfl ?_ | refine WQ_ret3 rfl rfl rfl rfl ?_ | refine WQ_ret0 rfl ?_ | refine WQ_end0 rfl ?_
          exact .mk ⟨by simp, hS⟩
        · refine D ?_
          repeat' (first | refine W1 ?_ | (exfalso; omega) | refine WL_split rfl rfl (fun hg => ?_) (fun hg => ?_) | refine WL_splitB rfl rfl (fun hg => ?_) (fun hg => ?_) | refine WC_cond rfl (fun hc => ?_) (fun hc => ?_) | refine WC_condB rfl (fun hc => ?_) (fun hc => ?_))
          first | refine WQ_ret1 rfl rfl ?_ | refine WQ_ret2 rfl rfl rfl ?_ | refine WQ_ret3 rfl rfl rfl rfl ?_ | refine WQ_ret0 rfl ?_ | refine WQ_end0 rfl ?_
          exact .mk ⟨by simp [hi], hS⟩
      · repeat' (first | refine D1 ?_ | (exfalso; omega) | refine WD_splitN rfl rfl rfl rfl (fun hg => ?_) (fun hg => ?_) | (refine WD_splitBN rfl rfl rfl rfl (fun hg => ?_) (fun hg => ?_) <;> refine D1 ?_) | fail)
        repeat' (first | refine W1 ?_ | (exfalso; omega) | refine WL_split rfl rfl (fun hg => ?_) (fun hg => ?_) | refine WL_splitB rfl rfl (fun hg => ?_) (fun hg => ?_) | refine WC_cond rfl (fun hc => ?_) (fun hc => ?_) | refine WC_condB rfl (fun hc => ?_) (fun hc => ?_))
        first | refine WQ_ret1 rfl rfl ?_ | refine WQ_ret2 rfl rfl rfl ?_ | refine WQ_ret3 rfl rfl rfl rfl ?_ | refine WQ_ret0 rfl ?_ | refine WQ_end0 rfl ?_
        exact .mk ⟨by simp [hi], hS⟩
  rw [if_neg k78]
  by_cases k9 : k = 9
  · subst k9
    rw [if_pos rfl]
    repeat' (first | refine W1 ?_ | (exfalso; omega) | refine WL_split rfl rfl (fun hg => ?_) (fun hg => ?_) | refine WL_splitB rfl rfl (fun hg => ?_) (fun hg => ?_) | refine WC_cond rfl (fun hc => ?_) (fun hc => ?_) | refine WC_condB rfl (fun hc => ?_) (fun hc => ?_))
    refine WC_drawn 19 [] [] [(0, 0), (1, 1), (2, 0), (3, 0), (4, 0), (5, 0), (6, 0), (7, 0), (8, 0), (9, 0), (10, 0), (11, 0), (12, 1), (13, 0), (14, 0), (15, 1), (16, 2), (17, 2), (18, 0)] rfl mixed (by kernel_rfl) (by kernel_rfl) (by kernel_rfl) (fun w1 hS1 => ?_)
    replace hu := hu.up hS1
    replace hblk := hblk.up hS1
    replace hS := hS.trans hS1
    have hum := hu.max
    by_cases hs : s = []
    · subst hs
      by_cases h3 : ts.length = 3
      · have hl1 : 1 < ts.length := by omega
        have h1' := h1 hl1
        repeat' (first | refine D1 ?_ | (exfalso; omega) | refine WD_splitN rfl rfl rfl rfl (fun hg => ?_) (fun hg => ?_) | (refine WD_splitBN rfl rfl rfl rfl (fun hg => ?_) (fun hg => ?_) <;> refine D1 ?_) | fail)
        refine WD_eff rfl rfl (OE_buildSlice (vs := [(0, .int .i64 2), (1, .int .i64 _), (2, .int .i64 _)]) rfl (buildSI3 _ _ _)) (fun _ _ h => NewSl.stp h) rfl ?_
        rintro a1 w7 hN
        have ha := hN.slv (X := []) (ys := [(2 : Int), ts[1], ts[1]]) (by simp) rfl rfl (by simp [maxLen])
        have hS7 := NewSl.stp hN
        clear hN
        replace hu := hu.up hS7
        replace hS := hS.trans hS7
        refine WD_eff rfl rfl (OE_call rfl (evs2 rfl rfl) (are_any _ _ _ _ _ _ _ hu ha)) (fun _ _ h => h.2) rfl ?_
        rintro _ w8 ⟨rfl, hS8⟩
        replace hu := hu.up hS8
        replace hS := hS.trans hS8
        rw [h1']
        cases hp : areB ts [2, ts[1], ts[1]]
        · refine D ?_
          repeat' (first | refine W1 ?_ | (exfalso; omega) | refine WL_split rfl rfl (fun hg => ?_) (fun hg => ?_) | refine WL_splitB rfl rfl (fun hg => ?_) (fun hg => ?_) | refine WC_cond rfl (fun hc => ?_) (fun hc => ?_) | refine WC_condB rfl (fun hc => ?_) (fun hc => ?_))
          first | refine WQ_ret1 rfl rfl ?_ | refine WQ_ret2 rfl rfl rfl ?_ | refine WQ_ret3 rfl rfl rfl rfl ?_ | refine WQ_ret0 rfl ?_ | refine WQ_end0 rfl ?_
          exact .mk ⟨by simp, hS⟩
        · refine D ?_
          repeat' (first | refine W1 ?_ | (exfalso; omega) | refine WL_split rfl rfl (fun hg => ?_) (fun hg => ?_) | refine WL_splitB rfl rfl (fun hg => ?_) (fun hg => ?_) | refine WC_cond rfl (fun hc => ?_) (fun hc => ?_) | refine WC_condB rfl (fun hc => ?_) (fun hc => ?_))
          first | refine WQ_ret1 rfl rfl ?_ | refine WQ_ret2 rfl rfl rfl ?_ | refine WQ_ret3 rfl rfl rfl rfl ?_ | refine WQ_ret0 rfl ?_ | refine WQ_end0 rfl ?_
          exact .mk ⟨by simp [h3], hS⟩
      · repeat' (first | refine D1 ?_ | (exfalso; omega) | refine WD_splitN rfl rfl rfl rfl (fun hg => ?_) (fun hg => ?_) | (refine WD_splitBN rfl rfl rfl rfl (fun hg => ?_) (fun hg => ?_) <;> refine D1 ?_) | fail)
        repeat' (first | refine W1 ?_ | (exfalso; omega) | refine WL_split rfl rfl (fun hg => ?_) (fun hg => ?_) | refine WL_splitB rfl rfl (fun hg => ?_) (fun hg => ?_) | refine WC_cond rfl (fun hc => ?_) (fun hc => ?_) | refine WC_condB rfl (fun hc => ?_) (fun hc => ?_))
        first | refine WQ_ret1 rfl rfl ?_ | refine WQ_ret2 rfl rfl rfl ?_ | refine WQ_ret3 rfl rfl rfl rfl ?_ | refine WQ_ret0 rfl ?_ | refine WQ_end0 rfl ?_
        exact .mk ⟨by simp [h3], hS⟩
    · repeat' (first | refine D1 ?_ | (exfalso; omega) | refine WD_splitN rfl rfl rfl rfl (fun hg => ?_) (fun hg => ?_) | (refine WD_splitBN rfl rfl rfl rfl (fun hg => ?_) (fun hg => ?_) <;> refine D1 ?_) | fail)
      all_goals try contradiction
      repeat' (first | refine W1 ?_ | (exfalso; omega) | refine WL_split rfl rfl (fun hg => ?_) (fun hg => ?_) | refine WL_splitB rfl rfl (fun hg => ?_) (fun hg => ?_) | refine WC_cond rfl (fun hc => ?_) (fun hc => ?_) | refine WC_condB rfl (fun hc => ?_) (fun hc => ?_))
      first | refine WQ_ret1 rfl rfl ?_ | refine WQ_ret2 rfl rfl rfl ?_ | refine WQ_ret3 rfl rfl rfl rfl ?_ | refine WQ_ret0 rfl ?_ | refine WQ_end0 rfl ?_
      exact .mk ⟨by simp [hs], hS⟩
  rw [if_neg k9]
  by_cases k10 : k = 10
  · subst k10
    rw [if_pos rfl]
    repeat' (first | refine W1 ?_ | (exfalso; omega) | refine WL_split rfl rfl (fun hg => ?_) (fun hg => ?_) | refine WL_splitB rfl rfl (fun hg => ?_) (fun hg => ?_) | refine WC_cond rfl (fun hc => ?_) (fun hc => ?_) | refine WC_condB rfl (fun hc => ?_) (fun hc => ?_))
    refine WL_eff (OE_call rfl (evs2 rfl rfl) (call14_any [] s u ts _ hu)) rfl ?_
    rintro _ w3 ⟨rfl, hS3⟩
    refine W ?_
    first | refine WQ_ret1 rfl rfl ?_ | refine WQ_ret2 rfl rfl rfl ?_ | refine WQ_ret3 rfl rfl rfl rfl ?_ | refine WQ_ret0 rfl ?_ | refine WQ_end0 rfl ?_
    exact .mk ⟨rfl, hS.trans hS3⟩
  rw [if_neg k10]
  repeat' (first | refine W1 ?_ | (exfalso; omega) | refine WL_split rfl rfl (fun hg => ?_) (fun hg => ?_) | refine WL_splitB rfl rfl (fun hg => ?_) (fun hg => ?_) | refine WC_cond rfl (fun hc => ?_) (fun hc => ?_) | refine WC_condB rfl (fun hc => ?_) (fun hc => ?_))
  first | refine WQ_ret1 rfl rfl ?_ | refine WQ_ret2 rfl rfl rfl ?_ | refine WQ_ret3 rfl rfl rfl rfl ?_ | refine WQ_ret0 rfl ?_ | refine WQ_end0 rfl ?_
  exact .mk ⟨rfl, hS⟩
end Go.Proofs.YtfjmlobgjdmecaaDoor
namespace Go.Proofs.YtfjmlobgjdmecaaDoor
open Go Go.Eng Go.RowKit
set_option linter.unusedVariables false

/-- the number of nodes -/
def sizeN : Nd → Nat
  | .mk k n s l => 1 + (l.map sizeN).sum
theorem sizeN_eq (x : Nd) : sizeN x = 1 + (x.kids.map sizeN).sum := by
  cases x
  rw [sizeN]
  rfl
theorem sum_le_of_mem {l : List Nat} {a : Nat} (h : a ∈ l) : a ≤ l.sum := by
  induction l with
  | nil => cases h
  | cons x r ih =>
    rw [List.sum_cons]
    rcases List.mem_cons.1 h with rfl | h
    · omega
    · have := ih h; omega
theorem size_kid {x y : Nd} (h : y ∈ x.kids) : sizeN y < sizeN x := by
  rw [sizeN_eq x]
  have := sum_le_of_mem (List.mem_map_of_mem (f := sizeN) h)
  omega
theorem size_pos (x : Nd) : 1 ≤ sizeN x := by rw [sizeN_eq]; omega
theorem len_le_sum (l : List Nd) : l.length ≤ (l.map sizeN).sum := by
  induction l with
  | nil => simp
  | cons x r ih =>
    have := size_pos x
    simp
    omega
theorem okN_of_size (x : Nd) : sizeN x ≤ 1000 → okN x = true := by
  induction x using Nd.ind with
  | h k n s l ih =>
  intro h
  rw [okN_iff]
  have h1 := sizeN_eq (.mk k n s l)
  have h2 := len_le_sum l
  refine ⟨?_, fun y hy => ih y hy ?_⟩
  · show l.length ≤ 1000
    have : sizeN (.mk k n s l) = 1 + (l.map sizeN).sum := h1
    omega
  · have := size_kid (x := .mk k n s l) (y := y) hy
    omega
theorem Of14_any (X : List Nat) (v : Value) (x : Nd) (w : World) (hok : okN x = true) (hn : nestN x ≤ 1000000) (hx : NdV X w v x) :
    Calls Tryd.prog 37 #[v] w (Ret fun r w' => r = .tuple #[.int .i64 (if nestN x ≤ 12 then typeT x else 0), .int .i64 (if nestN x ≤ 12 then (if typeT x = 0 then 21 else 0) else 2)] ∧ Stp [] w w') := by
  obtain ⟨kv, rfl, hs⟩ := hx
  refine calls_of_WC1 (n := 13) Tryd.func37 rfl rfl rfl ?_
  refine W ?_
  refine WL_eff (OE_box rfl) rfl ?_
  rintro _ w1 ⟨b, rfl, hbb, hblk, hS⟩
  replace hblk : Blk w1 b _ (ndC x kv) := hblk
  replace hs := hs.up hS
  refine W ?_
  refine WL_eff (OE_call rfl (evs1 rfl) (Nesting_any x X _ _ hn ⟨kv, rfl, hs⟩)) rfl ?_
  rintro _ w2 ⟨rfl, hS2⟩
  replace hs := hs.up hS2; replace hblk := hblk.up hS2
  replace hS := hS.trans hS2
  by_cases hn : nestN x ≤ 12
  · rw [if_pos hn, if_pos hn]
    repeat' (first | refine W1 ?_ | (exfalso; omega) | refine WL_split rfl rfl (fun hg => ?_) (fun hg => ?_) | refine WL_splitB rfl rfl (fun hg => ?_) (fun hg => ?_) | refine WC_cond rfl (fun hc => ?_) (fun hc => ?_) | refine WC_condB rfl (fun hc => ?_) (fun hc => ?_))
    refine WL_eff (OE_call rfl (evs1 rfl) (typed_any x X _ _ hok ⟨kv, rfl, hs⟩)) rfl ?_
    rintro _ w3 ⟨rfl, hS3⟩
    replace hS := hS.trans hS3
    repeat' (first | refine W1 ?_ | (exfalso; omega) | refine WL_split rfl rfl (fun hg => ?_) (fun hg => ?_) | refine WL_splitB rfl rfl (fun hg => ?_) (fun hg => ?_) | refine WC_cond rfl (fun hc => ?_) (fun hc => ?_) | refine WC_condB rfl (fun hc => ?_) (fun hc => ?_))
    · first | refine WQ_ret1 rfl rfl ?_ | refine WQ_ret2 rfl rfl rfl ?_ | refine WQ_ret3 rfl rfl rfl rfl ?_ | refine WQ_ret0 rfl ?_ | refine WQ_end0 rfl ?_
      exact .mk ⟨by rw [if_pos hc, hc], hS⟩
    · first | refine WQ_ret1 rfl rfl ?_ | refine WQ_ret2 rfl rfl rfl ?_ | refine WQ_ret3 rfl rfl rfl rfl ?_ | refine WQ_ret0 rfl ?_ | refine WQ_end0 rfl ?_
      exact .mk ⟨by rw [if_neg hc], hS⟩
  · rw [if_neg hn, if_neg hn]
    repeat' (first | refine W1 ?_ | (exfalso; omega) | refine WL_split rfl rfl (fun hg => ?_) (fun hg => ?_) | refine WL_splitB rfl rfl (fun hg => ?_) (fun hg => ?_) | refine WC_cond rfl (fun hc => ?_) (fun hc => ?_) | refine WC_condB rfl (fun hc => ?_) (fun hc => ?_))
    first | refine WQ_ret1 rfl rfl ?_ | refine WQ_ret2 rfl rfl rfl ?_ | refine WQ_ret3 rfl rfl rfl rfl ?_ | refine WQ_ret0 rfl ?_ | refine WQ_end0 rfl ?_
    exact .mk ⟨rfl, hS⟩
/-! ### what a node with a type looks like -/
theorem typed_kids {x : Nd} (h : typeT x ≠ 0) : x.kids.length ≤ 3 ∧ ∀ y ∈ x.kids, typeT y ≠ 0 := by
  rw [typeT_eq] at h
  unfold combT at h
  refine ⟨?_, fun y hy e => ?_⟩
  · by_cases hl : (x.kids.map typeT).length > 3
    · rw [if_pos hl] at h; exact absurd rfl h
    · simpa using hl
  · by_cases hl : (x.kids.map typeT).length > 3
    · rw [if_pos hl] at h; exact absurd rfl h
    · rw [if_neg hl, if_pos (by rw [← e]; exact List.mem_map_of_mem hy)] at h
      exact absurd rfl h
def opsF : List Str := [[110, 101, 120, 116], [112, 114, 101, 118], [108, 97, 116, 101, 114], [101, 97, 114, 108, 105, 101, 114], [98, 101, 116, 119, 101, 101, 110]]
/-- the shapes of a node with kids -/
inductive Shape (k : Int) (s : Str) (m : Nat) : Prop
  | neg (h : k = 5) (hs : s = [45] ∨ s = [110, 111, 116]) (hm : m = 1)
  | bin (h : k = 6) (hs : s ∈ opsA ∨ s ∈ opsC ∨ s ∈ opsL) (hm : m = 2)
  | unit (h : k = 7 ∨ k = 8) (hs : s ∈ units) (hm : m = 2)
  | cond (h : k = 9) (hm : m = 3)
  | call (h : k = 10) (hs : s ∈ opsF) (hm : 1 ≤ m ∧ m ≤ 2)
theorem typed_shape {x : Nd} (h : typeT x ≠ 0) (hk : x.kids ≠ []) : x.num = 0 ∧ Shape x.kind x.word x.kids.length := by
  have hl := (typed_kids h).1
  rw [typeT_R] at h
  have hlen : (x.kids.map typeT).length = x.kids.length := by simp
  have hne : ¬ x.kids.map typeT = [] := by simpa using hk
  generalize x.kids.map typeT = ts at *
  rw [← hlen]
  unfold combR at h
  rw [if_neg hne] at h
  have hn : x.num = 0 := Decidable.byContradiction (fun hn => by rw [if_pos hn] at h; exact absurd rfl h)
  refine ⟨hn, ?_⟩
  rw [if_neg (by simpa using hn)] at h
  have hlm : ∀ m : List Int, areB ts m = true → ts.length = m.length := fun m hm => by rw [(areB_iff.1 hm).1]
  by_cases k5 : x.kind = 5
  · rw [if_pos k5] at h
    split at h
    · rename_i hh
      rcases hh with ⟨h1, h2⟩ | ⟨h1, h2⟩
      · exact .neg k5 (.inl h1) (hlm _ h2)
      · exact .neg k5 (.inr h1) (hlm _ h2)
    · exact absurd rfl h
  rw [if_neg k5] at h
  by_cases k6 : x.kind = 6
  · rw [if_pos k6] at h
    unfold binR at h
    simp only [idx_mem] at h
    split at h
    · rename_i hh; exact .bin k6 (.inl hh.1) (hlm _ hh.2)
    split at h
    · rename_i hh
      rcases hh.2 with h2 | h2
      · exact .bin k6 (.inr (.inl hh.1)) (hlm _ h2)
      · exact .bin k6 (.inr (.inl hh.1)) (hlm _ h2)
    split at h
    · rename_i hh; exact .bin k6 (.inr (.inr hh.1)) (hlm _ hh.2)
    · exact absurd rfl h
  rw [if_neg k6] at h
  by_cases k78 : x.kind = 7 ∨ x.kind = 8
  · rw [if_pos k78] at h
    simp only [idx_mem] at h
    split at h
    · rename_i hh; exact .unit k78 hh.1 (hlm _ hh.2)
    · exact absurd rfl h
  rw [if_neg k78] at h
  by_cases k9 : x.kind = 9
  · rw [if_pos k9] at h
    split at h
    · rename_i hh; exact .cond k9 hh.2.1
    · exact absurd rfl h
  rw [if_neg k9] at h
  by_cases k10 : x.kind = 10
  · rw [if_pos k10] at h
    unfold callR at h
    simp only [idx_mem] at h
    split at h
    · rename_i hh
      refine .call k10 ?_ (by have := hlm _ hh.2; simp at this; omega)
      have := hh.1
      simp only [opsN, opsF, List.mem_cons, List.not_mem_nil, or_false] at this ⊢
      rcases this with h | h <;> simp [h]
    split at h
    · rename_i hh
      refine .call k10 ?_ (by have := hlm _ hh.2; simp at this; omega)
      have := hh.1
      simp only [opsE, opsF, List.mem_cons, List.not_mem_nil, or_false] at this ⊢
      rcases this with h | h <;> simp [h]
    split at h
    · rename_i hh
      refine .call k10 ?_ (by have := hlm _ hh.2; simp at this; omega)
      simp [opsF, hh.1]
    · exact absurd rfl h
  rw [if_neg k10] at h
  exact absurd rfl h
theorem typed_leaf {x : Nd} (h : typeT x ≠ 0) (hk : x.kids = []) : 1 ≤ x.kind ∧ x.kind ≤ 4 := by
  rw [typeT_eq, hk] at h
  simp [combT] at h
  unfold leafN at h
  grind
end Go.Proofs.YtfjmlobgjdmecaaDoor
namespace Go.Eng
open Go
structure Ins where
  op : Int
  n : Int
  deriving DecidableEq, Inhabited
instance : Flat Ins where
  k := 2
  enc := fun x => [.int .i64 x.op, .int .i64 x.n]
  len := fun _ => rfl
  one := by intro x u hu; simp at hu; rcases hu with rfl | rfl <;> rfl
/-- the value of a struct -/
def agg {α : Type} [Flat α] (x : α) : Value := .agg (Flat.enc x).toArray
theorem Row.keep {β : Type} [Flat β] {X S : List Nat} {w w' : World} {base T : Nat} {v : Value} {xs : List β} (h : Row X w base T v xs) (hS : Stp S w w') (hd : ∀ b ∈ S, b ∉ ob v) : Row X w' base T v xs := by
  have h' : Row S w base T v xs := h
  have := h'.ext (X' := X) hS (fun b hb => ⟨hb, hd b hb⟩)
  obtain ⟨css, h1, h2, h3⟩ := h
  refine ⟨css, h1, h2, ?_⟩
  have h4 : Row S w base T v xs := ⟨css, h1, h2, h3⟩
  obtain ⟨ho, hr⟩ := h3
  refine ⟨ho, ?_⟩
  rcases hr with hn | ⟨q, cap, cur, rfl, hb, hg, rest⟩
  · exact .inl hn
  · refine .inr ⟨q, cap, cur, rfl, hb, ?_, rest⟩
    rw [hS.block q (Array.getElem?_eq_some_iff.1 hg).1 (fun hq => hd q hq (by simp [ob]))]
    exact hg
end Go.Eng
namespace Go.Proofs.YtfjmlobgjdmecaaDoor
open Go Go.Eng Go.RowKit
set_option linter.unusedVariables false

theorem buildI (a b : Int) (w : World) : (Instr.build 47 #[(0, .int .i64 a), (1, .int .i64 b)]).run Tryd.prog w = .ok (agg (Ins.mk a b)) w := by kernel_rfl
theorem buildI0 (a : Int) (w : World) : (Instr.build 47 #[(0, .int .i64 a)]).run Tryd.prog w = .ok (agg (Ins.mk a 0)) w := by kernel_rfl
theorem buildSI (d : Ins) (w : World) : (Instr.buildSlice 27 1 #[(0, agg d)]).run Tryd.prog w = .ok (.slice (some ⟨w.heap.size, 0, none⟩) 1 1) (w.alloc (.cells (Flat.enc d).toArray 47)) := by kernel_rfl

/-- a coder: its block, its row of code -/
structure Cod (w : World) (bc base : Nat) (v : Value) (xs : List Ins) : Prop where
  blk : Blk w bc 85 [v]
  row : Row [] w base 47 v xs
  apart : bc ∉ ob v
  low : bc < base
  top : base ≤ w.heap.size
/-- what a method of the coder leaves -/
def Cods (w : World) (bc base : Nat) (v : Value) (ys : List Ins) (w' : World) : Prop :=
  ∃ v', Cod w' bc base v' ys ∧ Stp (bc :: ob v) w w' ∧ ∀ b ∈ ob v', b ∈ ob v ∨ w.heap.size ≤ b
theorem Cod.up {w w' : World} {bc base : Nat} {v : Value} {xs : List Ins} (h : Cod w bc base v xs) (hS : Stp [] w w') : Cod w' bc base v xs :=
  ⟨h.blk.up hS, h.row.up hS, h.apart, h.low, Nat.le_trans h.top hS.size⟩
theorem Cods.pre {w0 w w' : World} {bc base : Nat} {v : Value} {ys : List Ins} (hS : Stp [] w0 w) (h : Cods w bc base v ys w') : Cods w0 bc base v ys w' := by
  obtain ⟨v', h1, h2, h3⟩ := h
  exact ⟨v', h1, (hS.mono (by simp)).trans h2, fun b hb => (h3 b hb).imp id (fun h => Nat.le_trans hS.size h)⟩
theorem Cods.post {w w1 w' : World} {bc base : Nat} {v : Value} {ys : List Ins} (h : Cods w bc base v ys w1) (hS : Stp [] w1 w') : Cods w bc base v ys w' := by
  obtain ⟨v', h1, h2, h3⟩ := h
  exact ⟨v', h1.up hS, h2.trans (hS.mono (by simp)), h3⟩
/-- one after another -/
theorem Cods.next {w w1 w2 : World} {bc base : Nat} {v v1 : Value} {zs : List Ins} (hS : Stp (bc :: ob v) w w1) (hb : ∀ b ∈ ob v1, b ∈ ob v ∨ w.heap.size ≤ b) (h : Cods w1 bc base v1 zs w2) : Cods w bc base v zs w2 := by
  obtain ⟨v', h1, h2, h3⟩ := h
  refine ⟨v', h1, ?_, fun b hb' => ?_⟩
  · exact hS.own h2 (fun b hb' => by
      rcases List.mem_cons.1 hb' with rfl | h
      · exact .inl (by simp)
      · exact (hb b h).imp (fun h => List.mem_cons_of_mem _ h) id)
  · rcases h3 b hb' with h | h
    · exact hb b h
    · exact .inr (Nat.le_trans hS.size h)
/-- what is not the coder's stays -/
theorem keepX {w w' : World} {bc : Nat} {v v' : Value} {α : Type} [GoRep α] {u : Value} {xs : List α} (h : SlV (bc :: ob v) w u xs) (hS : Stp (bc :: ob v) w w') (hb : ∀ b ∈ ob v', b ∈ ob v ∨ w.heap.size ≤ b) : SlV (bc :: ob v') w' u xs :=
  h.ext hS (fun _ h => h) (fun b hb' => by
    rcases List.mem_cons.1 hb' with rfl | h
    · exact .inl (by simp)
    · exact (hb b h).imp (fun h => List.mem_cons_of_mem _ h) id)
theorem put_any (bc base : Nat) (v : Value) (xs : List Ins) (op n : Int) (w : World) (hc : Cod w bc base v xs) (hl : xs.length ≤ 1000000) :
    Calls Tryd.prog 54 #[.pointer (some ⟨bc, 0, none⟩), .int .i64 op, .int .i64 n] w (Ret fun r w' => r = .int .i64 (xs.length : Int) ∧ Cods w bc base v (xs ++ [⟨op, n⟩]) w') := by
  obtain ⟨hblk, hrow, hap, hlow, htop⟩ := hc
  refine calls_of_WC3 (n := 25) Tryd.func54 rfl rfl rfl ?_
  refine W ?_
  apply WL_build (vs := [(0, .int .i64 op), (1, .int .i64 n)]) rfl (buildI _ _) rfl
  refine WL_eff (OE_buildSlice (vs := [(0, agg (Ins.mk op n))]) rfl (buildSI _)) rfl ?_
  rintro bv w1 hN
  have hbv : SlV (ob v ++ []) w1 bv [Ins.mk op n] := hN.slv (fun b hb => (hrow.ob_le b (by simpa using hb)).2) rfl rfl (by simp [maxLen])
  have hS1 := NewSl.stp hN
  clear hN
  have hrow1 := hrow.up hS1
  have hblk1 := hblk.up hS1
  have h1 := hS1.size
  refine WL_eff (OE_append (X := []) (base := base) rfl (by decide) rfl rfl hrow1 hbv (by simp only [List.length_cons, List.length_nil]; omega) (by simp only [List.length_cons, List.length_nil, maxLen]; omega) (by omega)) rfl ?_
  rintro v' w2 ⟨hrow2, hS2, hob⟩
  have hblk2 := hblk1.ext hS2 hap
  have hbl := hblk1.lt
  refine W ?_
  refine WL_eff0 (OE_store1 (u := v') rfl rfl hrow2.slv0.cells hrow2.slv0.one hblk2 (by simp)) ?_
  rintro _ w3 ⟨hS3, hblk3⟩
  replace hblk3 : Blk w3 bc 85 [v'] := hblk3
  have hap' : bc ∉ ob v' := fun hb => by
    rcases hob bc hb with h | h
    · exact hap h
    · omega
  have hrow3 := hrow2.keep hS3 (fun b hb => by simp at hb; subst hb; exact hap')
  have hs3 := hrow3.slv0
  have hll : (xs ++ [Ins.mk op n]).length ≤ 1000001 := by simp only [List.length_append, List.length_cons, List.length_nil]; omega
  refine W ?_
  first | refine WQ_ret1 rfl rfl ?_ | refine WQ_ret2 rfl rfl rfl ?_ | refine WQ_ret3 rfl rfl rfl rfl ?_ | refine WQ_ret0 rfl ?_ | refine WQ_end0 rfl ?_
  refine .mk ⟨?_, v', ⟨hblk3, hrow3, hap', hlow, ?_⟩, ?_, ?_⟩
  · simp only [List.length_append, List.length_cons, List.length_nil]
    congr 1
    omega
  · exact Nat.le_trans htop (Nat.le_trans h1 (Nat.le_trans hS2.size hS3.size))
  · exact ((hS1.mono (by simp)).trans (hS2.mono (fun x hx => by simp [hx]))).trans (hS3.mono (fun x hx => by simp at hx; simp [hx]))
  · intro b hb
    rcases hob b hb with h | h
    · exact .inl h
    · exact .inr (by omega)
end Go.Proofs.YtfjmlobgjdmecaaDoor
namespace Go.Proofs.YtfjmlobgjdmecaaDoor
open Go Go.Eng Go.RowKit
set_option linter.unusedVariables false

theorem here_any (bc base : Nat) (v : Value) (xs : List Ins) (k : Nat) (w : World) (hc : Cod w bc base v xs) (hk : k < xs.length) (hl : xs.length ≤ 1000000) :
    Calls Tryd.prog 124 #[.pointer (some ⟨bc, 0, none⟩), .int .i64 (k : Int)] w (Ret fun r w' => Cods w bc base v (xs.set k ⟨xs[k].op, (xs.length : Int)⟩) w') := by
  obtain ⟨hblk, hrow, hap, hlow, htop⟩ := hc
  refine calls_of_WC2 (n := 16) Tryd.func124 rfl rfl rfl ?_
  refine W ?_
  refine WC_drawn 13 [] [12] [(0, 0), (1, 0), (2, 0), (3, 1), (4, 0), (5, 0), (6, 0), (7, 0), (8, 1), (9, 0), (10, 0), (11, 0), (12, 2)] rfl mixed (by kernel_rfl) (by kernel_rfl) (by kernel_rfl) (fun w1 hS1 => ?_)
  replace hblk := hblk.up hS1
  replace hrow := hrow.up hS1
  have hs := hrow.slv0
  have hsz := hS1.size
  refine D ?_
  refine WD_late0 rfl trivial (OE_storeF (β := Ins) (i := k) (y' := ⟨xs[k].op, (xs.length : Int)⟩) rfl rfl rfl rfl rfl hrow hk (by decide) rfl) rfl ?_
  rintro _ w2 ⟨hrow2, hS2⟩
  refine D ?_
  refine W ?_
  first | refine WQ_ret1 rfl rfl ?_ | refine WQ_ret2 rfl rfl rfl ?_ | refine WQ_ret3 rfl rfl rfl rfl ?_ | refine WQ_ret0 rfl ?_ | refine WQ_end0 rfl ?_
  refine .mk ⟨v, ⟨hblk.ext hS2 hap, hrow2, hap, hlow, by have := hS2.size; omega⟩, ?_, fun b hb => .inl hb⟩
  exact (hS1.mono (by simp)).trans (hS2.mono (fun x hx => by simp [hx]))

/-- the coder on its way from w0 -/
structure Fr (w0 w : World) (bc base : Nat) (v0 v : Value) (xs : List Ins) : Prop where
  cod : Cod w bc base v xs
  stp : Stp (bc :: ob v0) w0 w
  sub : ∀ b ∈ ob v, b ∈ ob v0 ∨ w0.heap.size ≤ b
theorem Fr.start {w : World} {bc base : Nat} {v : Value} {xs : List Ins} (h : Cod w bc base v xs) : Fr w w bc base v v xs := ⟨h, Stp.refl _ _, fun b hb => .inl hb⟩
theorem Fr.step {w0 w w' : World} {bc base : Nat} {v0 v : Value} {xs ys : List Ins} (h : Fr w0 w bc base v0 v xs) (k : Cods w bc base v ys w') : ∃ v', Fr w0 w' bc base v0 v' ys := by
  obtain ⟨v', h1, h2, h3⟩ := Cods.next h.stp h.sub k
  exact ⟨v', h1, h2, h3⟩
theorem Fr.up {w0 w w' : World} {bc base : Nat} {v0 v : Value} {xs : List Ins} (h : Fr w0 w bc base v0 v xs) (hS : Stp [] w w') : Fr w0 w' bc base v0 v xs := ⟨h.cod.up hS, h.stp.trans (hS.mono (by simp)), h.sub⟩
theorem Fr.fin {w0 w : World} {bc base : Nat} {v0 v : Value} {xs : List Ins} (h : Fr w0 w bc base v0 v xs) : Cods w0 bc base v0 xs w := ⟨v, h.cod, h.stp, h.sub⟩
theorem Fr.sl {w0 w : World} {bc base : Nat} {v0 v : Value} {xs : List Ins} {α : Type} [GoRep α] {u : Value} {ys : List α} (h : Fr w0 w bc base v0 v xs) (hs : SlV (bc :: ob v0) w0 u ys) : SlV (bc :: ob v) w u ys := keepX hs h.stp h.sub
theorem Fr.bk {w0 w : World} {bc base b T : Nat} {v0 v : Value} {xs : List Ins} {cs : List Value} (h : Fr w0 w bc base v0 v xs) (hb : Blk w0 b T cs) (hn : b ∉ bc :: ob v0) : Blk w b T cs := hb.ext h.stp hn
abbrev Cf := Nat → List Ins
/-- the code of a condition and two cases -/
def chC (c y n : Cf) (p0 : Nat) : List Ins :=
  c p0 ++ [⟨14, ((p0 + (c p0).length + 1 + (y (p0 + (c p0).length + 1)).length + 1 : Nat) : Int)⟩] ++ y (p0 + (c p0).length + 1) ++
    [⟨13, ((p0 + (c p0).length + 1 + (y (p0 + (c p0).length + 1)).length + 1 + (n (p0 + (c p0).length + 1 + (y (p0 + (c p0).length + 1)).length + 1)).length : Nat) : Int)⟩] ++ n (p0 + (c p0).length + 1 + (y (p0 + (c p0).length + 1)).length + 1)
/-- 'expression' puts this code behind what is there -/
def ExprOk (x : Nd) (f : Cf) : Prop := ∀ (w : World) (bc base : Nat) (v nv : Value) (xs : List Ins), Cod w bc base v xs → NdV (bc :: ob v) w nv x → SlV (bc :: ob v) w flds fieldNames → xs.length + (f xs.length).length ≤ 100000 →
  Calls Tryd.prog 53 #[.pointer (some ⟨bc, 0, none⟩), nv] w (Ret fun r w' => Cods w bc base v (xs ++ f xs.length) w')

theorem choice_any {x y n : Nd} {f g h : Cf} (hx : ExprOk x f) (hy : ExprOk y g) (hn : ExprOk n h) (w : World) (bc base : Nat) (v xv yv nv : Value) (xs : List Ins) (hc : Cod w bc base v xs)
    (gx : NdV (bc :: ob v) w xv x) (gy : NdV (bc :: ob v) w yv y) (gn : NdV (bc :: ob v) w nv n) (hF : SlV (bc :: ob v) w flds fieldNames) (hl : xs.length + (chC f g h xs.length).length ≤ 100000) :
    Calls Tryd.prog 95 #[.pointer (some ⟨bc, 0, none⟩), xv, yv, nv] w (Ret fun r w' => Cods w bc base v (xs ++ chC f g h xs.length) w') := by
  have hl' := hl
  unfold chC at hl'
  simp only [List.length_append, List.length_cons, List.length_nil] at hl'
  obtain ⟨xk, rfl, sx⟩ := gx
  obtain ⟨yk, rfl, sy⟩ := gy
  obtain ⟨nk, rfl, sn⟩ := gn
  refine calls_of_WC4 (n := 29) Tryd.func95 rfl rfl rfl ?_
  refine W ?_
  refine WL_eff (OE_box rfl) rfl ?_
  rintro _ w1 ⟨b1, rfl, hb1, k1, hS1⟩
  replace k1 : Blk w1 b1 _ (ndC x xk) := k1
  refine WL_eff (OE_box rfl) rfl ?_
  rintro _ w2 ⟨b2, rfl, hb2, k2, hS2⟩
  replace k2 : Blk w2 b2 _ (ndC y yk) := k2
  refine WL_eff (OE_box rfl) rfl ?_
  rintro _ w3 ⟨b3, rfl, hb3, k3, hS3⟩
  replace k3 : Blk w3 b3 _ (ndC n nk) := k3
  have hS := (hS1.trans hS2).trans hS3
  have l1 := k1.lt
  have l2 := k2.lt
  have l3 := k3.lt
  replace k1 := (k1.up hS2).up hS3
  replace k2 := k2.up hS3
  have hobv : ∀ b ∈ bc :: ob v, b < w.heap.size := fun b hb => by
    rcases List.mem_cons.1 hb with rfl | h
    · exact hc.blk.lt
    · exact (hc.row.ob_le b h).2
  have n1 : b1 ∉ bc :: ob v := fun h => by have := hobv _ h; omega
  have n2 : b2 ∉ bc :: ob v := fun h => by have := hobv _ h; omega
  have n3 : b3 ∉ bc :: ob v := fun h => by have := hobv _ h; omega
  replace hc := hc.up hS
  replace sx := sx.up hS
  replace sy := sy.up hS
  replace sn := sn.up hS
  replace hF := hF.up hS
  have l1 := k1.lt
  have l2 := k2.lt
  have l3 := k3.lt
  have main : ∀ ys w', Cods w3 bc base v ys w' → Cods w bc base v ys w' := fun ys w' h => h.pre hS
  refine W ?_
  have fr := Fr.start hc
  refine WL_eff (OE_call rfl (evs2 rfl rfl) (hx _ bc base _ _ _ fr.cod ⟨xk, rfl, fr.sl sx⟩ (fr.sl hF) (by omega))) rfl ?_
  rintro _ w4 hq
  obtain ⟨v4, fr⟩ := fr.step hq
  refine W ?_
  refine WL_eff (OE_call rfl (evs3 rfl rfl rfl) (put_any bc base _ _ 14 0 _ fr.cod (by simp only [List.length_append]; omega))) rfl ?_
  rintro _ w5 ⟨rfl, hq⟩
  obtain ⟨v5, fr⟩ := fr.step hq
  have q2 := fr.bk k2 n2
  refine W ?_
  have e1 : (xs ++ f xs.length ++ [(⟨14, 0⟩ : Ins)]).length = xs.length + (f xs.length).length + 1 := by simp only [List.length_append, List.length_cons, List.length_nil]
  refine WL_eff (OE_call rfl (evs2 rfl rfl) (hy _ bc base _ _ _ fr.cod ⟨yk, rfl, fr.sl sy⟩ (fr.sl hF) (by rw [e1]; omega))) rfl ?_
  rintro _ w6 hq
  obtain ⟨v6, fr⟩ := fr.step hq
  rw [e1] at fr
  refine W ?_
  refine WL_eff (OE_call rfl (evs3 rfl rfl rfl) (put_any bc base _ _ 13 0 _ fr.cod (by simp only [List.length_append, List.length_cons, List.length_nil]; omega))) rfl ?_
  rintro _ w7 ⟨rfl, hq⟩
  obtain ⟨v7, fr⟩ := fr.step hq
  refine W ?_
  have hch := chC.eq_1 f g h xs.length
  generalize hA : f xs.length = A at *
  generalize hp : xs.length + A.length + 1 = p at *
  generalize hB : g p = B at *
  generalize hqq : p + B.length + 1 = q at *
  generalize hD : h q = D at *
  have e2 : ((xs ++ A).length : Int) = ((xs.length + A.length : Nat) : Int) := by simp only [List.length_append]
  rw [e2]
  refine WL_eff (OE_call rfl (evs2 rfl rfl) (here_any bc base _ _ (xs.length + A.length) _ fr.cod (by simp only [List.length_append, List.length_cons, List.length_nil]; omega) (by simp only [List.length_append, List.length_cons, List.length_nil]; omega))) rfl ?_
  rintro _ w8 hq
  obtain ⟨v8, fr⟩ := fr.step hq
  have e3 : ∀ (l : List Ins) (h : xs.length + A.length < l.length), l = xs ++ A ++ [⟨14, 0⟩] ++ B ++ [⟨13, 0⟩] → l.set (xs.length + A.length) ⟨l[xs.length + A.length].op, (l.length : Int)⟩ = xs ++ A ++ [⟨14, (q : Int)⟩] ++ B ++ [⟨13, 0⟩] := by
    intro l h hl
    have hop : l[xs.length + A.length].op = 14 := by
      have : l[xs.length + A.length]? = some ⟨14, 0⟩ := by
        rw [hl]
        simp
      rw [List.getElem?_eq_getElem h] at this
      rw [Option.some.inj this]
    have hlen : (l.length : Int) = (q : Int) := by
      rw [hl]
      simp only [List.length_append, List.length_cons, List.length_nil]
      omega
    rw [hop, hlen, hl]
    simp
  rw [e3 _ _ rfl] at fr
  have q3 := fr.bk k3 n3
  refine W ?_
  have e4 : (xs ++ A ++ [(⟨14, (q : Int)⟩ : Ins)] ++ B ++ [(⟨13, 0⟩ : Ins)]).length = q := by simp only [List.length_append, List.length_cons, List.length_nil]; omega
  refine WL_eff (OE_call rfl (evs2 rfl rfl) (hn _ bc base _ _ _ fr.cod ⟨nk, rfl, fr.sl sn⟩ (fr.sl hF) (by rw [e4, hD]; omega))) rfl ?_
  rintro _ w9 hq
  obtain ⟨v9, fr⟩ := fr.step hq
  rw [e4, hD] at fr
  refine W ?_
  have e5 : ((xs ++ A ++ [(⟨14, 0⟩ : Ins)] ++ B).length : Int) = ((p + B.length : Nat) : Int) := by simp only [List.length_append, List.length_cons, List.length_nil]; omega
  rw [e5]
  refine WL_eff (OE_call rfl (evs2 rfl rfl) (here_any bc base _ _ (p + B.length) _ fr.cod (by simp only [List.length_append, List.length_cons, List.length_nil]; omega) (by simp only [List.length_append, List.length_cons, List.length_nil]; omega))) rfl ?_
  rintro _ w10 hq
  obtain ⟨v10, fr⟩ := fr.step hq
  rw [hch]
  have e6 : ∀ (l : List Ins) (hl : p + B.length < l.length), l = xs ++ A ++ [⟨14, (q : Int)⟩] ++ B ++ [⟨13, 0⟩] ++ D → l.set (p + B.length) ⟨l[p + B.length].op, (l.length : Int)⟩ = xs ++ (A ++ [⟨14, (q : Int)⟩] ++ B ++ [⟨13, ((q + D.length : Nat) : Int)⟩] ++ D) := by
    intro l h hl
    have e7 : (xs ++ A ++ [(⟨14, (q : Int)⟩ : Ins)] ++ B).length = p + B.length := by simp only [List.length_append, List.length_cons, List.length_nil]; omega
    have hl2 : l = (xs ++ A ++ [⟨14, (q : Int)⟩] ++ B) ++ ⟨13, 0⟩ :: D := by rw [hl]; simp
    have hop : l[p + B.length].op = 13 := by
      have : l[p + B.length]? = some ⟨13, 0⟩ := by
        rw [hl2, List.getElem?_append_right (by omega), e7]
        simp
      rw [List.getElem?_eq_getElem h] at this
      rw [Option.some.inj this]
    have hlen : (l.length : Int) = ((q + D.length : Nat) : Int) := by
      rw [hl2, List.length_append, e7]
      simp only [List.length_cons]
      omega
    rw [hop, hlen, hl2, List.set_append_right _ _ (by omega), e7]
    simp
  rw [e6 _ _ rfl] at fr
  refine W ?_
  first | refine WQ_ret1 rfl rfl ?_ | refine WQ_ret2 rfl rfl rfl ?_ | refine WQ_ret3 rfl rfl rfl rfl ?_ | refine WQ_ret0 rfl ?_ | refine WQ_end0 rfl ?_
  exact .mk (main _ _ fr.fin)
end Go.Proofs.YtfjmlobgjdmecaaDoor
namespace Go.Proofs.YtfjmlobgjdmecaaDoor
open Go Go.Eng Go.RowKit
set_option linter.unusedVariables false

/-- a map from strings to slices of numbers -/
def MapS (X : List Nat) (w : World) (r : Nat) (es : List (Str × List Int)) : Prop :=
  ∃ l : List (Str × Value), MapAt str w r l ∧ l.length = es.length ∧ ∀ i (h : i < l.length) (h' : i < es.length), l[i].1 = es[i].1 ∧ SlV (r :: X) w l[i].2 es[i].2
theorem MapS.up {X : List Nat} {w w' : World} {r : Nat} {es : List (Str × List Int)} (h : MapS X w r es) (hS : Stp [] w w') : MapS X w' r es := by
  obtain ⟨l, h1, h2, h3⟩ := h
  exact ⟨l, h1.up hS, h2, fun i h h' => ⟨(h3 i h h').1, (h3 i h h').2.up hS⟩⟩
theorem OE_insertS {P : Program} {n : Nat} {e : Env} {w : World} {d : Option Nat} {ty : TypeId} {pos : String} {af : Array Edge} {g : Option (Nat × Bool)} {mt kt et r : Nat} {x y z : Operand} [hm : Und P mt (.map kt et)] [hk : Und P kt .string] {X : List Nat} {es : List (Str × List Int)} {a : Str} {v : Value} {xs : List Int} (hx : ev e x = some (.map (some r))) (hy : ev e y = some (str a)) (hz : ev e z = some v)
    (hr : MapS X w r es) (hv : SlV (r :: X) w v xs) (hn : ∀ p ∈ es, ¬ p.1 = a) : OE P n ⟨d, .insert mt x y z, ty, pos, af, g⟩ e w (fun _ w' => MapS X w' r (es ++ [(a, xs)]) ∧ Stp [r] w w') := by
  obtain ⟨l, h1, h2, h3⟩ := hr
  have hfr : ∀ p ∈ l, ¬ p.1 = a := by
    intro p hp
    obtain ⟨i, hi, rfl⟩ := List.getElem_of_mem hp
    rw [(h3 i hi (by omega)).1]
    exact hn _ (List.getElem_mem _)
  refine (OE_insert (K := inferInstance) hx hy hz h1 hfr).mono ?_
  rintro _ w' ⟨g1, g2⟩
  refine ⟨⟨_, g1, by simp [h2], fun i h h' => ?_⟩, g2⟩
  by_cases hi : i < l.length
  · have hi' : i < es.length := by omega
    rw [List.getElem_append_left hi, List.getElem_append_left hi']
    exact ⟨(h3 i hi hi').1, (h3 i hi hi').2.on g2 (by simp)⟩
  · have hil : i = l.length := by simp at h; omega
    subst hil
    rw [List.getElem_append_right (Nat.le_refl _), List.getElem_append_right (by omega)]
    simp only [Nat.sub_self, h2, List.getElem_cons_zero]
    exact ⟨trivial, hv.on g2 (by simp)⟩
def opEs : List (Str × List Int) := [([43], [5]), ([42], [7]), ([110, 111, 116], [12]), ([60], [9]), ([60, 61], [10]), ([61], [11]), ([62], [10, 12]), ([62, 61], [9, 12]), ([33, 61], [11, 12]), ([100, 97, 121, 115], [15]), ([119, 101, 101, 107, 115], [16]), ([109, 111, 110, 116, 104, 115], [17]), ([99, 111, 117, 114, 116, 100, 97, 121, 115], [18]), ([110, 101, 120, 116], [19]), ([112, 114, 101, 118], [20]), ([108, 97, 116, 101, 114], [21]), ([101, 97, 114, 108, 105, 101, 114], [22]), ([98, 101, 116, 119, 101, 101, 110], [23])]
theorem operators_any (X : List Nat) (w : World) (hX : ∀ b ∈ X, b < w.heap.size) : Calls Tryd.prog 125 #[] w (Ret fun r w' => ∃ m, r = .map (some m) ∧ MapS X w' m opEs ∧ Stp [] w w') := by
  refine calls_of_WC0 (n := 21) Tryd.func125 rfl rfl ?_
  refine W ?_
  refine WL_eff (OE_makeMap str) rfl ?_
  rintro _ w1 ⟨m, rfl, hm, hmap, hS⟩
  have hmp : MapS X w1 m [] := ⟨[], hmap, rfl, fun i h => absurd h (Nat.not_lt_zero _)⟩
  have hml := hmap.lt
  clear hmap
  have hXw : ∀ b ∈ m :: X, b ≤ m := fun b hb => (List.mem_cons.1 hb).elim (fun h => by omega) (fun h => by have := hX b h; omega)
  refine WL_eff (OE_buildSlice (vs := [(0, .int .i64 5)]) rfl (buildSI1 _)) rfl ?_
  rintro bv w2 hN
  have hbv : SlV (m :: X) w2 bv [(5 : Int)] := hN.slv (fun b hb => by have := hXw b hb; omega) rfl rfl (by simp [maxLen])
  have hS2 := NewSl.stp hN
  clear hN
  replace hmp := hmp.up hS2
  have hml2 := hS2.size
  refine WL_eff0 (OE_insertS (a := [43]) rfl rfl rfl hmp hbv (by decide)) ?_
  clear hmp
  rintro _ w3 ⟨hmp, hS3⟩
  have hml3 := hS3.size
  replace hml := Nat.lt_of_lt_of_le (Nat.lt_of_lt_of_le hml hml2) hml3
  replace hS := (hS.trans hS2).own hS3 (fun b hb => .inr (by simp at hb; omega))
  clear hS2 hS3 hbv hml2 hml3
  refine WL_eff (OE_buildSlice (vs := [(0, .int .i64 7)]) rfl (buildSI1 _)) rfl ?_
  rintro bv w2 hN
  have hbv : SlV (m :: X) w2 bv [(7 : Int)] := hN.slv (fun b hb => by have := hXw b hb; omega) rfl rfl (by simp [maxLen])
  have hS2 := NewSl.stp hN
  clear hN
  replace hmp := hmp.up hS2
  have hml2 := hS2.size
  refine WL_eff0 (OE_insertS (a := [42]) rfl rfl rfl hmp hbv (by decide)) ?_
  clear hmp
  rintro _ w3 ⟨hmp, hS3⟩
  have hml3 := hS3.size
  replace hml := Nat.lt_of_lt_of_le (Nat.lt_of_lt_of_le hml hml2) hml3
  replace hS := (hS.trans hS2).own hS3 (fun b hb => .inr (by simp at hb; omega))
  clear hS2 hS3 hbv hml2 hml3
  refine WL_eff (OE_buildSlice (vs := [(0, .int .i64 12)]) rfl (buildSI1 _)) rfl ?_
  rintro bv w2 hN
  have hbv : SlV (m :: X) w2 bv [(12 : Int)] := hN.slv (fun b hb => by have := hXw b hb; omega) rfl rfl (by simp [maxLen])
  have hS2 := NewSl.stp hN
  clear hN
  replace hmp := hmp.up hS2
  have hml2 := hS2.size
  refine WL_eff0 (OE_insertS (a := [110, 111, 116]) rfl rfl rfl hmp hbv (by decide)) ?_
  clear hmp
  rintro _ w3 ⟨hmp, hS3⟩
  have hml3 := hS3.size
  replace hml := Nat.lt_of_lt_of_le (Nat.lt_of_lt_of_le hml hml2) hml3
  replace hS := (hS.trans hS2).own hS3 (fun b hb => .inr (by simp at hb; omega))
  clear hS2 hS3 hbv hml2 hml3
  refine WL_eff (OE_buildSlice (vs := [(0, .int .i64 9)]) rfl (buildSI1 _)) rfl ?_
  rintro bv w2 hN
  have hbv : SlV (m :: X) w2 bv [(9 : Int)] := hN.slv (fun b hb => by have := hXw b hb; omega) rfl rfl (by simp [maxLen])
  have hS2 := NewSl.stp hN
  clear hN
  replace hmp := hmp.up hS2
  have hml2 := hS2.size
  refine WL_eff0 (OE_insertS (a := [60]) rfl rfl rfl hmp hbv (by decide)) ?_
  clear hmp
  rintro _ w3 ⟨hmp, hS3⟩
  have hml3 := hS3.size
  replace hml := Nat.lt_of_lt_of_le (Nat.lt_of_lt_of_le hml hml2) hml3
  replace hS := (hS.trans hS2).own hS3 (fun b hb => .inr (by simp at hb; omega))
  clear hS2 hS3 hbv hml2 hml3
  refine WL_eff (OE_buildSlice (vs := [(0, .int .i64 10)]) rfl (buildSI1 _)) rfl ?_
  rintro bv w2 hN
  have hbv : SlV (m :: X) w2 bv [(10 : Int)] := hN.slv (fun b hb => by have := hXw b hb; omega) rfl rfl (by simp [maxLen])
  have hS2 := NewSl.stp hN
  clear hN
  replace hmp := hmp.up hS2
  have hml2 := hS2.size
  refine WL_eff0 (OE_insertS (a := [60, 61]) rfl rfl rfl hmp hbv (by decide)) ?_
  clear hmp
  rintro _ w3 ⟨hmp, hS3⟩
  have hml3 := hS3.size
  replace hml := Nat.lt_of_lt_of_le (Nat.lt_of_lt_of_le hml hml2) hml3
  replace hS := (hS.trans hS2).own hS3 (fun b hb => .inr (by simp at hb; omega))
  clear hS2 hS3 hbv hml2 hml3
  refine WL_eff (OE_buildSlice (vs := [(0, .int .i64 11)]) rfl (buildSI1 _)) rfl ?_
  rintro bv w2 hN
  have hbv : SlV (m :: X) w2 bv [(11 : Int)] := hN.slv (fun b hb => by have := hXw b hb; omega) rfl rfl (by simp [maxLen])
  have hS2 := NewSl.stp hN
  clear hN
  replace hmp := hmp.up hS2
  have hml2 := hS2.size
  refine WL_eff0 (OE_insertS (a := [61]) rfl rfl rfl hmp hbv (by decide)) ?_
  clear hmp
  rintro _ w3 ⟨hmp, hS3⟩
  have hml3 := hS3.size
  replace hml := Nat.lt_of_lt_of_le (Nat.lt_of_lt_of_le hml hml2) hml3
  replace hS := (hS.trans hS2).own hS3 (fun b hb => .inr (by simp at hb; omega))
  clear hS2 hS3 hbv hml2 hml3
  refine WL_eff (OE_buildSlice (vs := [(0, .int .i64 10), (1, .int .i64 12)]) rfl (buildSI2 _ _)) rfl ?_
  rintro bv w2 hN
  have hbv : SlV (m :: X) w2 bv [(10 : Int), (12 : Int)] := hN.slv (fun b hb => by have := hXw b hb; omega) rfl rfl (by simp [maxLen])
  have hS2 := NewSl.stp hN
  clear hN
  replace hmp := hmp.up hS2
  have hml2 := hS2.size
  refine WL_eff0 (OE_insertS (a := [62]) rfl rfl rfl hmp hbv (by decide)) ?_
  clear hmp
  rintro _ w3 ⟨hmp, hS3⟩
  have hml3 := hS3.size
  replace hml := Nat.lt_of_lt_of_le (Nat.lt_of_lt_of_le hml hml2) hml3
  replace hS := (hS.trans hS2).own hS3 (fun b hb => .inr (by simp at hb; omega))
  clear hS2 hS3 hbv hml2 hml3
  refine WL_eff (OE_buildSlice (vs := [(0, .int .i64 9), (1, .int .i64 12)]) rfl (buildSI2 _ _)) rfl ?_
  rintro bv w2 hN
  have hbv : SlV (m :: X) w2 bv [(9 : Int), (12 : Int)] := hN.slv (fun b hb => by have := hXw b hb; omega) rfl rfl (by simp [maxLen])
  have hS2 := NewSl.stp hN
  clear hN
  replace hmp := hmp.up hS2
  have hml2 := hS2.size
  refine WL_eff0 (OE_insertS (a := [62, 61]) rfl rfl rfl hmp hbv (by decide)) ?_
  clear hmp
  rintro _ w3 ⟨hmp, hS3⟩
  have hml3 := hS3.size
  replace hml := Nat.lt_of_lt_of_le (Nat.lt_of_lt_of_le hml hml2) hml3
  replace hS := (hS.trans hS2).own hS3 (fun b hb => .inr (by simp at hb; omega))
  clear hS2 hS3 hbv hml2 hml3
  refine WL_eff (OE_buildSlice (vs := [(0, .int .i64 11), (1, .int .i64 12)]) rfl (buildSI2 _ _)) rfl ?_
  rintro bv w2 hN
  have hbv : SlV (m :: X) w2 bv [(11 : Int), (12 : Int)] := hN.slv (fun b hb => by have := hXw b hb; omega) rfl rfl (by simp [maxLen])
  have hS2 := NewSl.stp hN
  clear hN
  replace hmp := hmp.up hS2
  have hml2 := hS2.size
  refine WL_eff0 (OE_insertS (a := [33, 61]) rfl rfl rfl hmp hbv (by decide)) ?_
  clear hmp
  rintro _ w3 ⟨hmp, hS3⟩
  have hml3 := hS3.size
  replace hml := Nat.lt_of_lt_of_le (Nat.lt_of_lt_of_le hml hml2) hml3
  replace hS := (hS.trans hS2).own hS3 (fun b hb => .inr (by simp at hb; omega))
  clear hS2 hS3 hbv hml2 hml3
  refine WL_eff (OE_buildSlice (vs := [(0, .int .i64 15)]) rfl (buildSI1 _)) rfl ?_
  rintro bv w2 hN
  have hbv : SlV (m :: X) w2 bv [(15 : Int)] := hN.slv (fun b hb => by have := hXw b hb; omega) rfl rfl (by simp [maxLen])
  have hS2 := NewSl.stp hN
  clear hN
  replace hmp := hmp.up hS2
  have hml2 := hS2.size
  refine WL_eff0 (OE_insertS (a := [100, 97, 121, 115]) rfl rfl rfl hmp hbv (by decide)) ?_
  clear hmp
  rintro _ w3 ⟨hmp, hS3⟩
  have hml3 := hS3.size
  replace hml := Nat.lt_of_lt_of_le (Nat.lt_of_lt_of_le hml hml2) hml3
  replace hS := (hS.trans hS2).own hS3 (fun b hb => .inr (by simp at hb; omega))
  clear hS2 hS3 hbv hml2 hml3
  refine WL_eff (OE_buildSlice (vs := [(0, .int .i64 16)]) rfl (buildSI1 _)) rfl ?_
  rintro bv w2 hN
  have hbv : SlV (m :: X) w2 bv [(16 : Int)] := hN.slv (fun b hb => by have := hXw b hb; omega) rfl rfl (by simp [maxLen])
  have hS2 := NewSl.stp hN
  clear hN
  replace hmp := hmp.up hS2
  have hml2 := hS2.size
  refine WL_eff0 (OE_insertS (a := [119, 101, 101, 107, 115]) rfl rfl rfl hmp hbv (by decide)) ?_
  clear hmp
  rintro _ w3 ⟨hmp, hS3⟩
  have hml3 := hS3.size
  replace hml := Nat.lt_of_lt_of_le (Nat.lt_of_lt_of_le hml hml2) hml3
  replace hS := (hS.trans hS2).own hS3 (fun b hb => .inr (by simp at hb; omega))
  clear hS2 hS3 hbv hml2 hml3
  refine WL_eff (OE_buildSlice (vs := [(0, .int .i64 17)]) rfl (buildSI1 _)) rfl ?_
  rintro bv w2 hN
  have hbv : SlV (m :: X) w2 bv [(17 : Int)] := hN.slv (fun b hb => by have := hXw b hb; omega) rfl rfl (by simp [maxLen])
  have hS2 := NewSl.stp hN
  clear hN
  replace hmp := hmp.up hS2
  have hml2 := hS2.size
  refine WL_eff0 (OE_insertS (a := [109, 111, 110, 116, 104, 115]) rfl rfl rfl hmp hbv (by decide)) ?_
  clear hmp
  rintro _ w3 ⟨hmp, hS3⟩
  have hml3 := hS3.size
  replace hml := Nat.lt_of_lt_of_le (Nat.lt_of_lt_of_le hml hml2) hml3
  replace hS := (hS.trans hS2).own hS3 (fun b hb => .inr (by simp at hb; omega))
  clear hS2 hS3 hbv hml2 hml3
  refine WL_eff (OE_buildSlice (vs := [(0, .int .i64 18)]) rfl (buildSI1 _)) rfl ?_
  rintro bv w2 hN
  have hbv : SlV (m :: X) w2 bv [(18 : Int)] := hN.slv (fun b hb => by have := hXw b hb; omega) rfl rfl (by simp [maxLen])
  have hS2 := NewSl.stp hN
  clear hN
  replace hmp := hmp.up hS2
  have hml2 := hS2.size
  refine WL_eff0 (OE_insertS (a := [99, 111, 117, 114, 116, 100, 97, 121, 115]) rfl rfl rfl hmp hbv (by decide)) ?_
  clear hmp
  rintro _ w3 ⟨hmp, hS3⟩
  have hml3 := hS3.size
  replace hml := Nat.lt_of_lt_of_le (Nat.lt_of_lt_of_le hml hml2) hml3
  replace hS := (hS.trans hS2).own hS3 (fun b hb => .inr (by simp at hb; omega))
  clear hS2 hS3 hbv hml2 hml3
  refine WL_eff (OE_buildSlice (vs := [(0, .int .i64 19)]) rfl (buildSI1 _)) rfl ?_
  rintro bv w2 hN
  have hbv : SlV (m :: X) w2 bv [(19 : Int)] := hN.slv (fun b hb => by have := hXw b hb; omega) rfl rfl (by simp [maxLen])
  have hS2 := NewSl.stp hN
  clear hN
  replace hmp := hmp.up hS2
  have hml2 := hS2.size
  refine WL_eff0 (OE_insertS (a := [110, 101, 120, 116]) rfl rfl rfl hmp hbv (by decide)) ?_
  clear hmp
  rintro _ w3 ⟨hmp, hS3⟩
  have hml3 := hS3.size
  replace hml := Nat.lt_of_lt_of_le (Nat.lt_of_lt_of_le hml hml2) hml3
  replace hS := (hS.trans hS2).own hS3 (fun b hb => .inr (by simp at hb; omega))
  clear hS2 hS3 hbv hml2 hml3
  refine WL_eff (OE_buildSlice (vs := [(0, .int .i64 20)]) rfl (buildSI1 _)) rfl ?_
  rintro bv w2 hN
  have hbv : SlV (m :: X) w2 bv [(20 : Int)] := hN.slv (fun b hb => by have := hXw b hb; omega) rfl rfl (by simp [maxLen])
  have hS2 := NewSl.stp hN
  clear hN
  replace hmp := hmp.up hS2
  have hml2 := hS2.size
  refine WL_eff0 (OE_insertS (a := [112, 114, 101, 118]) rfl rfl rfl hmp hbv (by decide)) ?_
  clear hmp
  rintro _ w3 ⟨hmp, hS3⟩
  have hml3 := hS3.size
  replace hml := Nat.lt_of_lt_of_le (Nat.lt_of_lt_of_le hml hml2) hml3
  replace hS := (hS.trans hS2).own hS3 (fun b hb => .inr (by simp at hb; omega))
  clear hS2 hS3 hbv hml2 hml3
  refine WL_eff (OE_buildSlice (vs := [(0, .int .i64 21)]) rfl (buildSI1 _)) rfl ?_
  rintro bv w2 hN
  have hbv : SlV (m :: X) w2 bv [(21 : Int)] := hN.slv (fun b hb => by have := hXw b hb; omega) rfl rfl (by simp [maxLen])
  have hS2 := NewSl.stp hN
  clear hN
  replace hmp := hmp.up hS2
  have hml2 := hS2.size
  refine WL_eff0 (OE_insertS (a := [108, 97, 116, 101, 114]) rfl rfl rfl hmp hbv (by decide)) ?_
  clear hmp
  rintro _ w3 ⟨hmp, hS3⟩
  have hml3 := hS3.size
  replace hml := Nat.lt_of_lt_of_le (Nat.lt_of_lt_of_le hml hml2) hml3
  replace hS := (hS.trans hS2).own hS3 (fun b hb => .inr (by simp at hb; omega))
  clear hS2 hS3 hbv hml2 hml3
  refine WL_eff (OE_buildSlice (vs := [(0, .int .i64 22)]) rfl (buildSI1 _)) rfl ?_
  rintro bv w2 hN
  have hbv : SlV (m :: X) w2 bv [(22 : Int)] := hN.slv (fun b hb => by have := hXw b hb; omega) rfl rfl (by simp [maxLen])
  have hS2 := NewSl.stp hN
  clear hN
  replace hmp := hmp.up hS2
  have hml2 := hS2.size
  refine WL_eff0 (OE_insertS (a := [101, 97, 114, 108, 105, 101, 114]) rfl rfl rfl hmp hbv (by decide)) ?_
  clear hmp
  rintro _ w3 ⟨hmp, hS3⟩
  have hml3 := hS3.size
  replace hml := Nat.lt_of_lt_of_le (Nat.lt_of_lt_of_le hml hml2) hml3
  replace hS := (hS.trans hS2).own hS3 (fun b hb => .inr (by simp at hb; omega))
  clear hS2 hS3 hbv hml2 hml3
  refine WL_eff (OE_buildSlice (vs := [(0, .int .i64 23)]) rfl (buildSI1 _)) rfl ?_
  rintro bv w2 hN
  have hbv : SlV (m :: X) w2 bv [(23 : Int)] := hN.slv (fun b hb => by have := hXw b hb; omega) rfl rfl (by simp [maxLen])
  have hS2 := NewSl.stp hN
  clear hN
  replace hmp := hmp.up hS2
  have hml2 := hS2.size
  refine WL_eff0 (OE_insertS (a := [98, 101, 116, 119, 101, 101, 110]) rfl rfl rfl hmp hbv (by decide)) ?_
  clear hmp
  rintro _ w3 ⟨hmp, hS3⟩
  have hml3 := hS3.size
  replace hml := Nat.lt_of_lt_of_le (Nat.lt_of_lt_of_le hml hml2) hml3
  replace hS := (hS.trans hS2).own hS3 (fun b hb => .inr (by simp at hb; omega))
  clear hS2 hS3 hbv hml2 hml3
  refine W ?_
  first | refine WQ_ret1 rfl rfl ?_ | refine WQ_ret2 rfl rfl rfl ?_ | refine WQ_ret3 rfl rfl rfl rfl ?_ | refine WQ_ret0 rfl ?_ | refine WQ_end0 rfl ?_
  exact .mk ⟨m, rfl, hmp, hS⟩
/-- the instructions of a word -/
def opF (s : Str) : List Int := match opEs.find? (fun p => decide (p.1 = s)) with | some p => p.2 | none => []
theorem opF_len (s : Str) : (opF s).length ≤ 2 := by
  unfold opF
  cases h : opEs.find? (fun p => decide (p.1 = s)) with
  | none => simp
  | some p =>
    have hp := List.mem_of_find?_eq_some h
    have : ∀ p ∈ opEs, p.2.length ≤ 2 := by decide
    exact this p hp
theorem MapS.get {X : List Nat} {w : World} {m : Nat} (h : MapS X w m opEs) (s : Str) : ∃ l : List (Str × Value), MapAt str w m l ∧ SlV X w (mget l s (.slice none 0 0)) (opF s) := by
  obtain ⟨l, h1, h2, h3⟩ := h
  refine ⟨l, h1, ?_⟩
  unfold mget opF
  have hf : (l.find? (fun p => decide (p.1 = s)) = none ∧ opEs.find? (fun p => decide (p.1 = s)) = none) ∨ ∃ i, ∃ (h : i < l.length) (h' : i < opEs.length), l.find? (fun p => decide (p.1 = s)) = some l[i] ∧ opEs.find? (fun p => decide (p.1 = s)) = some opEs[i] := by
    cases hq : l.find? (fun p => decide (p.1 = s)) with
    | none =>
      left
      refine ⟨rfl, ?_⟩
      rw [List.find?_eq_none]
      intro p hp
      obtain ⟨i, hi, rfl⟩ := List.getElem_of_mem hp
      have := List.find?_eq_none.1 hq l[i] (List.getElem_mem (by omega))
      rwa [(h3 i (by omega) hi).1] at this
    | some p =>
      right
      obtain ⟨hp, i, hi, rfl, hb⟩ := List.find?_eq_some_iff_getElem.1 hq
      refine ⟨i, hi, by omega, rfl, ?_⟩
      rw [List.find?_eq_some_iff_getElem]
      refine ⟨by rw [← (h3 i hi (by omega)).1]; exact hp, i, by omega, rfl, fun j hj => ?_⟩
      rw [← (h3 j (by omega) (by omega)).1]
      exact hb j hj
  rcases hf with ⟨e1, e2⟩ | ⟨i, h, h', e1, e2⟩
  · rw [e1, e2]
    exact ⟨none, 0, rfl, Nat.le_refl _, by simp [maxLen], fun _ => rfl, fun i h => absurd h (Nat.not_lt_zero _)⟩
  · rw [e1, e2]
    exact (h3 i h h').2.ext (Stp.refl [] w) (by simp) (fun b hb => .inl (List.mem_cons_of_mem _ hb))
end Go.Proofs.YtfjmlobgjdmecaaDoor
namespace Go.Proofs.YtfjmlobgjdmecaaDoor
open Go Go.Eng Go.RowKit
set_option linter.unusedVariables false

/-- codes one after another -/
def seqC : List Cf → Nat → List Ins
  | [], _ => []
  | c :: r, p => c p ++ seqC r (p + (c p).length)
theorem seqC_append (a b : List Cf) (p : Nat) : seqC (a ++ b) p = seqC a p ++ seqC b (p + (seqC a p).length) := by
  induction a generalizing p with
  | nil => simp [seqC]
  | cons c r ih =>
    simp only [List.cons_append, seqC, ih, List.length_append, List.append_assoc]
    rw [Nat.add_assoc]
theorem seqC_step (cs : List Cf) (p i : Nat) (h : i < cs.length) : seqC (cs.take (i + 1)) p = seqC (cs.take i) p ++ cs[i] (p + (seqC (cs.take i) p).length) := by
  rw [List.take_succ_eq_append_getElem h, seqC_append]
  simp [seqC]
theorem seqC_le (cs : List Cf) (p i : Nat) : (seqC (cs.take i) p).length ≤ (seqC cs p).length := by
  have : seqC cs p = seqC (cs.take i) p ++ seqC (cs.drop i) (p + (seqC (cs.take i) p).length) := by rw [← seqC_append, List.take_append_drop]
  rw [this, List.length_append]
  omega
def insO (l : List Int) : List Ins := l.map (fun o => ⟨o, 0⟩)
def plainC (k : Int) (s : Str) (cs : List Cf) (p : Nat) : List Ins := seqC cs p ++ (if k = 8 ∨ k = 5 ∧ s = [45] then [⟨8, 0⟩] else []) ++ insO (opF s)
theorem plain_any (x : Nd) (cs : List Cf) (hcl : cs.length = x.kids.length) (hcs : ∀ i (h : i < x.kids.length) (h' : i < cs.length), ExprOk x.kids[i] cs[i]) (w : World) (bc base : Nat) (v nv : Value) (xs : List Ins) (hc : Cod w bc base v xs)
    (hx : NdV (bc :: ob v) w nv x) (hF : SlV (bc :: ob v) w flds fieldNames) (hl : xs.length + (plainC x.kind x.word cs xs.length).length ≤ 100000) :
    Calls Tryd.prog 96 #[.pointer (some ⟨bc, 0, none⟩), nv] w (Ret fun r w' => Cods w bc base v (xs ++ plainC x.kind x.word cs xs.length) w') := by
  have hl' := hl
  unfold plainC at hl'
  simp only [List.length_append] at hl'
  obtain ⟨kv, rfl, hs⟩ := hx
  have hmax := hs.max
  refine calls_of_WC2 (n := 47) Tryd.func96 rfl rfl rfl ?_
  refine W ?_
  refine WL_eff (OE_box rfl) rfl ?_
  rintro _ wA ⟨b, rfl, hb, hblk, hS⟩
  replace hblk : Blk wA b _ (ndC x kv) := hblk
  have hobv : ∀ b ∈ bc :: ob v, b < w.heap.size := fun b hb => by
    rcases List.mem_cons.1 hb with rfl | h
    · exact hc.blk.lt
    · exact (hc.row.ob_le b h).2
  have nb : b ∉ bc :: ob v := fun h => by have := hobv _ h; omega
  replace hc := hc.up hS
  replace hs := hs.up hS
  replace hF := hF.up hS
  have main : ∀ ys w', Cods wA bc base v ys w' → Cods w bc base v ys w' := fun ys w' h => h.pre hS
  refine W ?_
  refine WC_cutB (σ := Value) (fun u => [(0, .pointer (some ⟨bc, 0, none⟩)), (3, .pointer (some ⟨b, 0, none⟩))]) (fun u w' => Fr wA w' bc base v u (xs ++ seqC cs xs.length)) ?_ ?_
  · refine WC_loop (σ := Nat × Value) (fun q => [(0, .pointer (some ⟨bc, 0, none⟩)), (3, .pointer (some ⟨b, 0, none⟩)), (9, kv), (10, .int .i64 (x.kids.length : Int)), (11, .int .i64 (q.1 : Int))]) (fun q w' => q.1 ≤ x.kids.length ∧ Fr wA w' bc base v q.2 (xs ++ seqC (cs.take q.1) xs.length)) (fun q => x.kids.length - q.1) (0, v) ⟨rfl, rfl, rfl, rfl, rfl, trivial⟩ ⟨Nat.zero_le _, by simpa [seqC] using Fr.start hc⟩ ?_
    rintro ⟨j, u⟩ w2 ⟨hj, fr⟩
    dsimp only at hj fr ⊢
    by_cases hlt : j < x.kids.length
    · have hs2 := fr.sl hs
      obtain ⟨kv2, hk2, hc2⟩ := hs2.nd hlt
      have hst := seqC_step cs xs.length j (by omega)
      have hle := seqC_le cs xs.length (j + 1)
      have hle0 := seqC_le cs xs.length j
      rw [hst, List.length_append] at hle
      repeat' (first | refine W1 ?_ | (exfalso; omega) | refine WL_split rfl rfl (fun hg => ?_) (fun hg => ?_) | refine WL_splitB rfl rfl (fun hg => ?_) (fun hg => ?_) | refine WC_cond rfl (fun hc => ?_) (fun hc => ?_) | refine WC_condB rfl (fun hc => ?_) (fun hc => ?_))
      apply WL_pure (PR_loadNd rfl rfl hs2 hlt hc2) rfl
      refine WL_eff OE_alloc rfl ?_
      rintro _ w3 ⟨b3, rfl, hb3, hblk3, hS3⟩
      refine WL_eff0 (OE_storeA (us := ndC x.kids[j] kv2) rfl rfl rfl rfl (ndC_one hk2) hblk3 rfl) ?_
      rintro _ w4 ⟨hS4, hblk4⟩
      have hS34 := hS3.own hS4 (fun c hc => .inr (by simp at hc; omega))
      replace fr := fr.up hS34
      replace hk2 := hk2.up hS34
      refine W ?_
      have hlen : (xs ++ seqC (cs.take j) xs.length).length = xs.length + (seqC (cs.take j) xs.length).length := List.length_append
      refine WL_eff (OE_call rfl (evs2 rfl rfl) (hcs j hlt (by omega) _ bc base _ _ _ fr.cod ⟨kv2, rfl, hk2⟩ (fr.sl hF) (by rw [hlen]; omega))) rfl ?_
      rintro _ w5 hq
      obtain ⟨u5, fr⟩ := fr.step hq
      rw [hlen, List.append_assoc, ← hst] at fr
      refine W ?_
      exact WQ_loop (j + 1, u5) ⟨rfl, rfl, rfl, rfl, rfl, trivial⟩ ⟨by dsimp only; omega, fr⟩ (by dsimp only; omega)
    · have hje : j = x.kids.length := by omega
      subst hje
      rw [← hcl, List.take_length] at fr
      repeat' (first | refine W1 ?_ | (exfalso; omega) | refine WL_split rfl rfl (fun hg => ?_) (fun hg => ?_) | refine WL_splitB rfl rfl (fun hg => ?_) (fun hg => ?_) | refine WC_cond rfl (fun hc => ?_) (fun hc => ?_) | refine WC_condB rfl (fun hc => ?_) (fun hc => ?_))
      exact WQ_cut u ⟨rfl, rfl, trivial⟩ fr
  rintro u w2 fr
  have hbk := fr.bk hblk nb
  unfold plainC
  generalize seqC cs xs.length = A at *
  rw [← List.append_assoc, ← List.append_assoc]
  refine WC_cut (σ := Value) (fun u => [(0, .pointer (some ⟨bc, 0, none⟩)), (3, .pointer (some ⟨b, 0, none⟩))]) (fun u w' => Fr wA w' bc base v u (xs ++ A ++ if x.kind = 8 ∨ x.kind = 5 ∧ x.word = [45] then [⟨8, 0⟩] else [])) ?_ ?_
  · by_cases hneg : x.kind = 8 ∨ x.kind = 5 ∧ x.word = [45]
    · have hln : (xs ++ A).length ≤ 1000000 := by simp only [List.length_append]; omega
      rw [if_pos hneg]
      repeat' (first | refine W1 ?_ | (exfalso; omega) | refine WL_split rfl rfl (fun hg => ?_) (fun hg => ?_) | refine WL_splitB rfl rfl (fun hg => ?_) (fun hg => ?_) | refine WC_cond rfl (fun hc => ?_) (fun hc => ?_) | refine WC_condB rfl (fun hc => ?_) (fun hc => ?_))
      all_goals first
        | (refine WL_eff (OE_call rfl (evs3 rfl rfl rfl) (put_any bc base _ _ 8 0 _ fr.cod hln)) rfl ?_
           rintro _ w3 ⟨rfl, hq⟩
           obtain ⟨u3, fr⟩ := fr.step hq
           refine W ?_
           exact WQ_cut u3 ⟨rfl, rfl, trivial⟩ fr)
        | (exfalso; rcases hneg with h | ⟨h1, h2⟩ <;> first | omega | contradiction)
    · rw [if_neg hneg, List.append_nil]
      have hn8 : ¬ x.kind = 8 := fun h => hneg (.inl h)
      repeat' (first | refine W1 ?_ | (exfalso; omega) | refine WL_split rfl rfl (fun hg => ?_) (fun hg => ?_) | refine WL_splitB rfl rfl (fun hg => ?_) (fun hg => ?_) | refine WC_cond rfl (fun hc => ?_) (fun hc => ?_) | refine WC_condB rfl (fun hc => ?_) (fun hc => ?_))
      all_goals first
        | exact WQ_cut u ⟨rfl, rfl, trivial⟩ fr
        | (exfalso; exact hneg (.inr ⟨by assumption, by assumption⟩))
  rintro u3 w3 fr
  have hbk := fr.bk hblk nb
  have hol := opF_len x.word
  generalize hB : xs ++ A ++ (if x.kind = 8 ∨ x.kind = 5 ∧ x.word = [45] then [(⟨8, 0⟩ : Ins)] else []) = B at *
  have hBl : B.length ≤ 200000 := by
    rw [← hB]
    simp only [List.length_append]
    have : (if x.kind = 8 ∨ x.kind = 5 ∧ x.word = [45] then [(⟨8, 0⟩ : Ins)] else []).length ≤ 1 := by split <;> simp
    omega
  refine W ?_
  refine WC_drawn 6 [] [] [(1, 0), (2, 1), (5, 0), (0, 2), (3, 2), (4, 0)] rfl mixed (by kernel_rfl) (by kernel_rfl) (by kernel_rfl) (fun w1 hS1 => ?_)
  replace fr := fr.up hS1
  replace hbk := hbk.up hS1
  have hou : ∀ b ∈ bc :: ob u3, b < w1.heap.size := fun b hb => (List.mem_cons.1 hb).elim (fun h => h ▸ fr.cod.blk.lt) (fun h => (fr.cod.row.ob_le b h).2)
  refine D ?_
  refine WD_eff rfl trivial (OE_call rfl evs0 (operators_any (bc :: ob u3) _ hou)) (fun _ _ h => h.choose_spec.2.2) rfl ?_
  rintro _ w5 ⟨m, rfl, hm, hS5⟩
  replace fr := fr.up hS5
  obtain ⟨l, hml, hsl⟩ := hm.get x.word
  refine WD_eff rfl trivial (OE_pr (PR_lookup (K := inferInstance) (a := x.word) rfl rfl hml)) (fun _ _ h => h.2 ▸ Stp.refl _ _) rfl ?_
  rintro _ _ ⟨rfl, rfl⟩
  generalize mget l x.word (.slice none 0 0) = ov at *
  generalize opF x.word = O at *
  refine D ?_
  refine W ?_
  refine WC_loop (σ := Nat × Value) (fun q => [(0, .pointer (some ⟨bc, 0, none⟩)), (37, ov), (38, .int .i64 (O.length : Int)), (39, .int .i64 (q.1 : Int))]) (fun q w' => q.1 ≤ O.length ∧ SlV (bc :: ob q.2) w' ov O ∧ Fr wA w' bc base v q.2 (B ++ insO (O.take q.1))) (fun q => O.length - q.1) (0, u3) ⟨rfl, rfl, rfl, rfl, trivial⟩ ⟨Nat.zero_le _, hsl, by simpa [insO] using fr⟩ ?_
  clear fr hsl hou
  rintro ⟨j, u⟩ w6 ⟨hj, hsl, fr⟩
  dsimp only at hj fr ⊢
  by_cases hlt : j < O.length
  · have hln : (B ++ insO (O.take j)).length ≤ 1000000 := by simp only [List.length_append, insO, List.length_map, List.length_take]; omega
    repeat' (first | refine W1 ?_ | (exfalso; omega) | refine WL_split rfl rfl (fun hg => ?_) (fun hg => ?_) | refine WL_splitB rfl rfl (fun hg => ?_) (fun hg => ?_) | refine WC_cond rfl (fun hc => ?_) (fun hc => ?_) | refine WC_condB rfl (fun hc => ?_) (fun hc => ?_))
    refine WL_eff (OE_call rfl (evs3 rfl rfl rfl) (put_any bc base _ _ O[j] 0 _ fr.cod hln)) rfl ?_
    rintro _ w7 ⟨rfl, hq⟩
    obtain ⟨u7, hc7, hS7, hb7⟩ := id hq
    have hsl7 : SlV (bc :: ob u7) w7 ov O := keepX hsl hS7 hb7
    have fr7 : Fr wA w7 bc base v u7 (B ++ insO (O.take j) ++ [⟨O[j], 0⟩]) := by
      refine ⟨hc7, ?_, fun b hb => ?_⟩
      · exact fr.stp.own hS7 (fun b hb => by
          rcases List.mem_cons.1 hb with rfl | h
          · exact .inl (by simp)
          · exact (fr.sub b h).imp (fun h => List.mem_cons_of_mem _ h) id)
      · rcases hb7 b hb with h | h
        · exact fr.sub b h
        · exact .inr (Nat.le_trans fr.stp.size h)
    refine W ?_
    refine WQ_loop (j + 1, u7) ⟨rfl, rfl, rfl, rfl, trivial⟩ ⟨by dsimp only; omega, hsl7, ?_⟩ (by dsimp only; omega)
    dsimp only
    rw [List.take_succ_eq_append_getElem hlt]
    unfold insO at fr7 ⊢
    rw [List.map_append, ← List.append_assoc]
    exact fr7
  · have hje : j = O.length := by omega
    subst hje
    rw [List.take_length] at fr
    repeat' (first | refine W1 ?_ | (exfalso; omega) | refine WL_split rfl rfl (fun hg => ?_) (fun hg => ?_) | refine WL_splitB rfl rfl (fun hg => ?_) (fun hg => ?_) | refine WC_cond rfl (fun hc => ?_) (fun hc => ?_) | refine WC_condB rfl (fun hc => ?_) (fun hc => ?_))
    first | refine WQ_ret1 rfl rfl ?_ | refine WQ_ret2 rfl rfl rfl ?_ | refine WQ_ret3 rfl rfl rfl rfl ?_ | refine WQ_ret0 rfl ?_ | refine WQ_end0 rfl ?_
    exact .mk (main _ _ fr.fin)
end Go.Proofs.YtfjmlobgjdmecaaDoor
namespace Go.Proofs.YtfjmlobgjdmecaaDoor
open Go Go.Eng Go.RowKit
set_option linter.unusedVariables false

/-- the instruction of a node without kids -/
def leafI (k n : Int) (s : Str) : Ins := if k = 1 then ⟨1, n⟩ else if k = 2 then ⟨2, n⟩ else if k = 3 then ⟨3, n⟩ else ⟨4, (fieldF s).1⟩
def nilC : Cf := fun _ => []
/-- the code of a node for those of its kids -/
def combC (k n : Int) (s : Str) (cs : List Cf) (p : Nat) : List Ins :=
  if cs.length = 0 then [leafI k n s]
  else if k = 9 then chC (cs.getD 0 nilC) (cs.getD 1 nilC) (cs.getD 2 nilC) p
  else if k = 6 ∧ s = [97, 110, 100] then chC (cs.getD 0 nilC) (cs.getD 1 nilC) (fun _ => [⟨2, 0⟩]) p
  else if k = 6 ∧ s = [111, 114] then chC (cs.getD 0 nilC) (fun _ => [⟨2, 1⟩]) (cs.getD 1 nilC) p
  else if k = 6 ∧ s = [45] then plainC k s cs p ++ [⟨6, 0⟩]
  else plainC k s cs p
def codeN : Nd → Nat → List Ins
  | .mk k n s l => combC k n s (l.map codeN)
theorem codeN_eq (x : Nd) : codeN x = combC x.kind x.num x.word (x.kids.map codeN) := by
  cases x
  rw [codeN]
  rfl
theorem buildNb0 (w : World) : (Instr.build 24 #[(0, .int .i64 2)]).run Tryd.prog w = .ok (.agg #[.int .i64 2, .int .i64 0, str [], .slice none 0 0]) w := by kernel_rfl
theorem buildNb1 (w : World) : (Instr.build 24 #[(0, .int .i64 2), (1, .int .i64 1)]).run Tryd.prog w = .ok (.agg #[.int .i64 2, .int .i64 1, str [], .slice none 0 0]) w := by kernel_rfl
theorem nilSlv {α : Type} [GoRep α] (X : List Nat) (w : World) : SlV (α := α) X w (.slice none 0 0) [] := ⟨none, 0, rfl, Nat.le_refl _, by simp [maxLen], fun _ => rfl, fun i h => absurd h (Nat.not_lt_zero _)⟩
/-- a constant -/
theorem exprBool (z : Int) : ExprOk (.mk 2 z [] []) (fun _ => [⟨2, z⟩]) := by
  intro w bc base v nv xs hc hx hF hl
  obtain ⟨kv, rfl, hs⟩ := hx
  refine calls_of_WC2 (n := 63) Tryd.func53 rfl rfl rfl ?_
  refine W ?_
  refine WL_eff (OE_box rfl) rfl ?_
  rintro _ w1 ⟨b, rfl, hb, hblk, hS⟩
  replace hblk : Blk w1 b _ [.int .i64 2, .int .i64 z, str [], kv] := hblk
  refine W ?_
  refine WL_eff (OE_call rfl (evs3 rfl rfl rfl) (put_any bc base _ _ 2 z _ (hc.up hS) (by omega))) rfl ?_
  rintro _ w2 ⟨rfl, hq⟩
  refine W ?_
  first | refine WQ_ret1 rfl rfl ?_ | refine WQ_ret2 rfl rfl rfl ?_ | refine WQ_ret3 rfl rfl rfl rfl ?_ | refine WQ_ret0 rfl ?_ | refine WQ_end0 rfl ?_
  exact .mk (hq.pre hS)
theorem minus_any (x : Nd) (cs : List Cf) (hcl : cs.length = x.kids.length) (hcs : ∀ i (h : i < x.kids.length) (h' : i < cs.length), ExprOk x.kids[i] cs[i]) (w : World) (bc base : Nat) (v nv : Value) (xs : List Ins) (hc : Cod w bc base v xs)
    (hx : NdV (bc :: ob v) w nv x) (hF : SlV (bc :: ob v) w flds fieldNames) (hl : xs.length + (plainC x.kind x.word cs xs.length).length ≤ 100000) :
    Calls Tryd.prog 123 #[.pointer (some ⟨bc, 0, none⟩), nv] w (Ret fun r w' => Cods w bc base v (xs ++ (plainC x.kind x.word cs xs.length ++ [⟨6, 0⟩])) w') := by
  obtain ⟨kv, rfl, hs⟩ := hx
  refine calls_of_WC2 (n := 9) Tryd.func123 rfl rfl rfl ?_
  refine W ?_
  refine WL_eff (OE_box rfl) rfl ?_
  rintro _ w1 ⟨b, rfl, hb, hblk, hS⟩
  replace hblk : Blk w1 b _ (ndC x kv) := hblk
  have fr := Fr.start (hc.up hS)
  refine W ?_
  refine WL_eff (OE_call rfl (evs2 rfl rfl) (plain_any x cs hcl hcs _ bc base _ _ _ fr.cod ⟨kv, rfl, hs.up hS⟩ (hF.up hS) hl)) rfl ?_
  rintro _ w2 hq
  obtain ⟨v2, fr⟩ := fr.step hq
  refine W ?_
  refine WL_eff (OE_call rfl (evs3 rfl rfl rfl) (put_any bc base _ _ 6 0 _ fr.cod (by simp only [List.length_append]; omega))) rfl ?_
  rintro _ w3 ⟨rfl, hq⟩
  obtain ⟨v3, fr⟩ := fr.step hq
  rw [List.append_assoc] at fr
  refine W ?_
  first | refine WQ_ret1 rfl rfl ?_ | refine WQ_ret2 rfl rfl rfl ?_ | refine WQ_ret3 rfl rfl rfl rfl ?_ | refine WQ_ret0 rfl ?_ | refine WQ_end0 rfl ?_
  exact .mk (fr.fin.pre hS)
end Go.Proofs.YtfjmlobgjdmecaaDoor
namespace Go.Proofs.YtfjmlobgjdmecaaDoor
open Go Go.Eng Go.RowKit
set_option linter.unusedVariables false

theorem cell_on {α : Type} [GoRep α] {X : List Nat} {w w' : World} {v u : Value} {l : List α} {i k j : Nat} (hs : SlV X w v l) (hi : i < l.length) (hS : Stp X w w') (h : w.cell? (elAddr v i k j) = some u) : w'.cell? (elAddr v i k j) = some u := by
  obtain ⟨p, c, rfl, _, _, _, hc⟩ := hs
  obtain ⟨b, o, cs, rfl, _, hx, _⟩ := hc i hi
  exact hS.cell hx h
theorem and_any (x : Nd) (cs : List Cf) (hk2 : x.kids.length = 2) (hcl : cs.length = x.kids.length) (hcs : ∀ i (h : i < x.kids.length) (h' : i < cs.length), ExprOk x.kids[i] cs[i]) (w : World) (bc base : Nat) (v nv : Value) (xs : List Ins) (hc : Cod w bc base v xs)
    (hx : NdV (bc :: ob v) w nv x) (hF : SlV (bc :: ob v) w flds fieldNames) (hl : xs.length + (chC (cs.getD 0 nilC) (cs.getD 1 nilC) (fun _ => [⟨2, 0⟩]) xs.length).length ≤ 100000) :
    Calls Tryd.prog 121 #[.pointer (some ⟨bc, 0, none⟩), nv] w (Ret fun r w' => Cods w bc base v (xs ++ chC (cs.getD 0 nilC) (cs.getD 1 nilC) (fun _ => [⟨2, 0⟩]) xs.length) w') := by
  obtain ⟨kv, rfl, hs⟩ := hx
  have h0 : 0 < x.kids.length := by omega
  have h1 : 1 < x.kids.length := by omega
  have g0 : cs.getD 0 nilC = cs[0]'(by omega) := by simp [List.getD, hcl, h0]
  have g1 : cs.getD 1 nilC = cs[1]'(by omega) := by simp [List.getD, hcl, h1]
  rw [g0, g1] at hl ⊢
  refine calls_of_WC2 (n := 15) Tryd.func121 rfl rfl rfl ?_
  refine W ?_
  refine WL_eff (OE_box rfl) rfl ?_
  rintro _ wA ⟨b, rfl, hb, hblk, hS⟩
  replace hblk : Blk wA b _ (ndC x kv) := hblk
  replace hs := hs.up hS
  have nb : b ∉ bc :: ob v := fun h => by
    rcases List.mem_cons.1 h with rfl | h
    · have := hc.blk.lt; omega
    · have := (hc.row.ob_le b h).2; omega
  refine W ?_
  refine WC_drawn 11 (bc :: ob v) [] [(0, 0), (1, 0), (2, 1), (3, 0), (4, 1), (5, 0), (6, 1), (7, 0), (8, 1), (9, 0), (10, 2)] rfl mixed (by kernel_rfl) (by kernel_rfl) (by kernel_rfl) (fun w1 hS1 => ?_)
  replace hs := hs.up hS1
  replace hblk := hblk.up hS1
  replace hS := hS.trans hS1
  obtain ⟨u0, s0, c0⟩ := hs.nd h0
  obtain ⟨u1, s1, c1⟩ := hs.nd h1
  refine D ?_
  try (refine WD_read rfl trivial (fun w' hS' => PR_load_blk rfl rfl (hblk.ext hS' nb) rfl) rfl ?_)
  refine D ?_
  refine WD_read rfl trivial (fun w' hS' => PR_loadNd rfl rfl (hs.on hS' (fun _ h => h)) h0 (fun j u hj => cell_on hs h0 hS' (c0 j u hj))) rfl ?_
  refine D ?_
  try (refine WD_read rfl trivial (fun w' hS' => PR_load_blk rfl rfl (hblk.ext hS' nb) rfl) rfl ?_)
  refine D ?_
  refine WD_read rfl trivial (fun w' hS' => PR_loadNd rfl rfl (hs.on hS' (fun _ h => h)) h1 (fun j u hj => cell_on hs h1 hS' (c1 j u hj))) rfl ?_
  refine D ?_
  apply WD_op
  exact rfl
  apply WO_build (vs := [(0, .int .i64 2)])
  exact trivial
  exact rfl
  exact buildNb0
  exact rfl
  refine WD_eff rfl trivial (OE_call rfl (evs4 rfl rfl rfl rfl) (choice_any (x := x.kids[0]) (y := x.kids[1]) (n := .mk 2 0 [] []) (hcs 0 h0 (by omega)) (hcs 1 h1 (by omega)) (exprBool 0) _ bc base v _ _ _ xs (hc.up hS) ⟨u0, rfl, s0⟩ ⟨u1, rfl, s1⟩ ⟨_, rfl, nilSlv _ _⟩ (hF.up hS) hl)) (fun _ _ h => by obtain ⟨_, _, h2, _⟩ := h; exact h2) rfl ?_
  rintro _ w5 hq
  refine D ?_
  refine W ?_
  first | refine WQ_ret1 rfl rfl ?_ | refine WQ_ret2 rfl rfl rfl ?_ | refine WQ_ret3 rfl rfl rfl rfl ?_ | refine WQ_ret0 rfl ?_ | refine WQ_end0 rfl ?_
  exact .mk (hq.pre hS)
theorem or_any (x : Nd) (cs : List Cf) (hk2 : x.kids.length = 2) (hcl : cs.length = x.kids.length) (hcs : ∀ i (h : i < x.kids.length) (h' : i < cs.length), ExprOk x.kids[i] cs[i]) (w : World) (bc base : Nat) (v nv : Value) (xs : List Ins) (hc : Cod w bc base v xs)
    (hx : NdV (bc :: ob v) w nv x) (hF : SlV (bc :: ob v) w flds fieldNames) (hl : xs.length + (chC (cs.getD 0 nilC) (fun _ => [⟨2, 1⟩]) (cs.getD 1 nilC) xs.length).length ≤ 100000) :
    Calls Tryd.prog 122 #[.pointer (some ⟨bc, 0, none⟩), nv] w (Ret fun r w' => Cods w bc base v (xs ++ chC (cs.getD 0 nilC) (fun _ => [⟨2, 1⟩]) (cs.getD 1 nilC) xs.length) w') := by
  obtain ⟨kv, rfl, hs⟩ := hx
  have h0 : 0 < x.kids.length := by omega
  have h1 : 1 < x.kids.length := by omega
  have g0 : cs.getD 0 nilC = cs[0]'(by omega) := by simp [List.getD, hcl, h0]
  have g1 : cs.getD 1 nilC = cs[1]'(by omega) := by simp [List.getD, hcl, h1]
  rw [g0, g1] at hl ⊢
  refine calls_of_WC2 (n := 15) Tryd.func122 rfl rfl rfl ?_
  refine W ?_
  refine WL_eff (OE_box rfl) rfl ?_
  rintro _ wA ⟨b, rfl, hb, hblk, hS⟩
  replace hblk : Blk wA b _ (ndC x kv) := hblk
  replace hs := hs.up hS
  have nb : b ∉ bc :: ob v := fun h => by
    rcases List.mem_cons.1 h with rfl | h
    · have := hc.blk.lt; omega
    · have := (hc.row.ob_le b h).2; omega
  refine W ?_
  refine WC_drawn 11 (bc :: ob v) [] [(0, 0), (1, 0), (2, 1), (3, 0), (4, 1), (5, 0), (6, 0), (7, 1), (8, 0), (9, 1), (10, 2)] rfl mixed (by kernel_rfl) (by kernel_rfl) (by kernel_rfl) (fun w1 hS1 => ?_)
  replace hs := hs.up hS1
  replace hblk := hblk.up hS1
  replace hS := hS.trans hS1
  obtain ⟨u0, s0, c0⟩ := hs.nd h0
  obtain ⟨u1, s1, c1⟩ := hs.nd h1
  refine D ?_
  try (refine WD_read rfl trivial (fun w' hS' => PR_load_blk rfl rfl (hblk.ext hS' nb) rfl) rfl ?_)
  refine D ?_
  refine WD_read rfl trivial (fun w' hS' => PR_loadNd rfl rfl (hs.on hS' (fun _ h => h)) h0 (fun j u hj => cell_on hs h0 hS' (c0 j u hj))) rfl ?_
  refine D ?_
  apply WD_op
  exact rfl
  apply WO_build (vs := [(0, .int .i64 2), (1, .int .i64 1)])
  exact trivial
  exact rfl
  exact buildNb1
  exact rfl
  refine D ?_
  try (refine WD_read rfl trivial (fun w' hS' => PR_load_blk rfl rfl (hblk.ext hS' nb) rfl) rfl ?_)
  refine D ?_
  refine WD_read rfl trivial (fun w' hS' => PR_loadNd rfl rfl (hs.on hS' (fun _ h => h)) h1 (fun j u hj => cell_on hs h1 hS' (c1 j u hj))) rfl ?_
  refine WD_eff rfl trivial (OE_call rfl (evs4 rfl rfl rfl rfl) (choice_any (x := x.kids[0]) (y := .mk 2 1 [] []) (n := x.kids[1]) (hcs 0 h0 (by omega)) (exprBool 1) (hcs 1 h1 (by omega)) _ bc base v _ _ _ xs (hc.up hS) ⟨u0, rfl, s0⟩ ⟨_, rfl, nilSlv _ _⟩ ⟨u1, rfl, s1⟩ (hF.up hS) hl)) (fun _ _ h => by obtain ⟨_, _, h2, _⟩ := h; exact h2) rfl ?_
  rintro _ w5 hq
  refine D ?_
  refine W ?_
  first | refine WQ_ret1 rfl rfl ?_ | refine WQ_ret2 rfl rfl rfl ?_ | refine WQ_ret3 rfl rfl rfl rfl ?_ | refine WQ_ret0 rfl ?_ | refine WQ_end0 rfl ?_
  exact .mk (hq.pre hS)
end Go.Proofs.YtfjmlobgjdmecaaDoor
namespace Go.Proofs.YtfjmlobgjdmecaaDoor
open Go Go.Eng Go.RowKit
set_option linter.unusedVariables false

theorem SlV.nil {α : Type} [GoRep α] {X : List Nat} {w : World} {v : Value} {l : List α} (h : SlV X w v l) : SlV [] w v l := h.ext (Stp.refl [] w) (by simp) (by simp)
theorem binaryC_any (x : Nd) (hk6 : x.kind = 6) (cs : List Cf) (hk2 : x.kids.length = 2) (hcl : cs.length = x.kids.length) (hcs : ∀ i (h : i < x.kids.length) (h' : i < cs.length), ExprOk x.kids[i] cs[i]) (w : World) (bc base : Nat) (v nv : Value) (xs : List Ins) (hcd : Cod w bc base v xs)
    (hx : NdV (bc :: ob v) w nv x) (hF : SlV (bc :: ob v) w flds fieldNames) (hl : xs.length + (combC x.kind x.num x.word cs xs.length).length ≤ 100000) :
    Calls Tryd.prog 94 #[.pointer (some ⟨bc, 0, none⟩), nv] w (Ret fun r w' => Cods w bc base v (xs ++ combC x.kind x.num x.word cs xs.length) w') := by
  have hne : ¬ cs.length = 0 := by omega
  have hn9 : ¬ x.kind = 9 := by omega
  unfold combC at hl ⊢
  rw [if_neg hne, if_neg hn9] at hl ⊢
  obtain ⟨kv, rfl, hs⟩ := hx
  refine calls_of_WC2 (n := 17) Tryd.func94 rfl rfl rfl ?_
  refine W ?_
  refine WL_eff (OE_box rfl) rfl ?_
  rintro _ wA ⟨b, rfl, hb, hblk, hS⟩
  replace hblk : Blk wA b _ (ndC x kv) := hblk
  have main : ∀ ys w', Cods wA bc base v ys w' → Cods w bc base v ys w' := fun ys w' h => h.pre hS
  replace hcd := hcd.up hS
  replace hs := hs.up hS
  replace hF := hF.up hS
  repeat' (first | refine W1 ?_ | (exfalso; omega) | refine WL_split rfl rfl (fun hg => ?_) (fun hg => ?_) | refine WL_splitB rfl rfl (fun hg => ?_) (fun hg => ?_) | refine WC_cond rfl (fun hc => ?_) (fun hc => ?_) | refine WC_condB rfl (fun hc => ?_) (fun hc => ?_))
  · rw [if_pos ⟨hk6, by assumption⟩] at hl ⊢
    refine WL_eff (OE_call rfl (evs2 rfl rfl) (and_any x cs hk2 hcl hcs _ bc base _ _ _ hcd ⟨kv, rfl, hs⟩ hF hl)) rfl ?_
    rintro _ w2 hq
    refine W ?_
    first | refine WQ_ret1 rfl rfl ?_ | refine WQ_ret2 rfl rfl rfl ?_ | refine WQ_ret3 rfl rfl rfl rfl ?_ | refine WQ_ret0 rfl ?_ | refine WQ_end0 rfl ?_
    exact .mk (main _ _ hq)
  · rw [if_neg (fun h => absurd h.2 (by assumption)), if_pos ⟨hk6, by assumption⟩] at hl ⊢
    refine WL_eff (OE_call rfl (evs2 rfl rfl) (or_any x cs hk2 hcl hcs _ bc base _ _ _ hcd ⟨kv, rfl, hs⟩ hF hl)) rfl ?_
    rintro _ w2 hq
    refine W ?_
    first | refine WQ_ret1 rfl rfl ?_ | refine WQ_ret2 rfl rfl rfl ?_ | refine WQ_ret3 rfl rfl rfl rfl ?_ | refine WQ_ret0 rfl ?_ | refine WQ_end0 rfl ?_
    exact .mk (main _ _ hq)
  · rw [if_neg (fun h => absurd h.2 (by assumption)), if_neg (fun h => absurd h.2 (by assumption)), if_pos ⟨hk6, by assumption⟩] at hl ⊢
    rw [List.length_append] at hl
    refine WL_eff (OE_call rfl (evs2 rfl rfl) (minus_any x cs hcl hcs _ bc base _ _ _ hcd ⟨kv, rfl, hs⟩ hF (by omega))) rfl ?_
    rintro _ w2 hq
    refine W ?_
    first | refine WQ_ret1 rfl rfl ?_ | refine WQ_ret2 rfl rfl rfl ?_ | refine WQ_ret3 rfl rfl rfl rfl ?_ | refine WQ_ret0 rfl ?_ | refine WQ_end0 rfl ?_
    exact .mk (main _ _ hq)
  · rw [if_neg (fun h => absurd h.2 (by assumption)), if_neg (fun h => absurd h.2 (by assumption)), if_neg (fun h => absurd h.2 (by assumption))] at hl ⊢
    refine WL_eff (OE_call rfl (evs2 rfl rfl) (plain_any x cs hcl hcs _ bc base _ _ _ hcd ⟨kv, rfl, hs⟩ hF hl)) rfl ?_
    rintro _ w2 hq
    refine W ?_
    first | refine WQ_ret1 rfl rfl ?_ | refine WQ_ret2 rfl rfl rfl ?_ | refine WQ_ret3 rfl rfl rfl rfl ?_ | refine WQ_ret0 rfl ?_ | refine WQ_end0 rfl ?_
    exact .mk (main _ _ hq)
theorem codeN_leaf {x : Nd} (h : x.kids = []) (p : Nat) : codeN x p = [leafI x.kind x.num x.word] := by
  rw [codeN_eq, h]
  simp [combC]
theorem codeN_kids {x : Nd} (h : x.kids ≠ []) : (x.kids.map codeN).length ≠ 0 := by simpa using h
theorem codeN_getD {x : Nd} {i : Nat} (h : i < x.kids.length) : (x.kids.map codeN).getD i nilC = codeN x.kids[i] := by simp [List.getD, h]
theorem expr_ok (x : Nd) : typeT x ≠ 0 → ExprOk x (codeN x) := by
  induction x using Nd.ind with
  | h k n s l ih =>
  intro hty
  have hkt := (typed_kids hty).2
  have hcs : ∀ i (h : i < (Nd.mk k n s l).kids.length) (h' : i < ((Nd.mk k n s l).kids.map codeN).length), ExprOk (Nd.mk k n s l).kids[i] ((Nd.mk k n s l).kids.map codeN)[i] := by
    intro i h h'
    rw [List.getElem_map]
    exact ih _ (List.getElem_mem h) (hkt _ (List.getElem_mem h))
  have hcl : ((Nd.mk k n s l).kids.map codeN).length = (Nd.mk k n s l).kids.length := by simp
  have hsh := typed_shape hty
  have hlf := typed_leaf hty
  have hcN := codeN_eq (.mk k n s l)
  have hcL := codeN_leaf (x := .mk k n s l)
  have hkl : (Nd.mk k n s l).kids ≠ [] → 5 ≤ (Nd.mk k n s l).kind := by
    intro h
    rcases (hsh h).2 with ⟨h, _, _⟩ | ⟨h, _, _⟩ | ⟨h, _, _⟩ | ⟨h, _⟩ | ⟨h, _, _⟩ <;> omega
  have hk6 : (Nd.mk k n s l).kind = 6 → (Nd.mk k n s l).kids.length = 2 := by
    intro h6
    by_cases h0 : (Nd.mk k n s l).kids = []
    · have := hlf h0; omega
    rcases (hsh h0).2 with ⟨h, _, _⟩ | ⟨h, _, hm⟩ | ⟨h, _, _⟩ | ⟨h, _⟩ | ⟨h, _, _⟩ <;> omega
  have hk9 : (Nd.mk k n s l).kind = 9 → (Nd.mk k n s l).kids.length = 3 := by
    intro h6
    by_cases h0 : (Nd.mk k n s l).kids = []
    · have := hlf h0; omega
    rcases (hsh h0).2 with ⟨h, _, _⟩ | ⟨h, _, hm⟩ | ⟨h, _, _⟩ | ⟨h, hm⟩ | ⟨h, _, _⟩ <;> omega
  have hgD := fun i => codeN_getD (x := .mk k n s l) (i := i)
  generalize (Nd.mk k n s l) = x at *
  clear ih
  intro w bc base v nv xs hcd hx hF hl
  obtain ⟨kv, rfl, hs⟩ := hx
  refine calls_of_WC2 (n := 63) Tryd.func53 rfl rfl rfl ?_
  refine W ?_
  refine WL_eff (OE_box rfl) rfl ?_
  rintro _ wA ⟨b, rfl, hb, hblk, hS⟩
  replace hblk : Blk wA b _ (ndC x kv) := hblk
  have main : ∀ ys w', Cods wA bc base v ys w' → Cods w bc base v ys w' := fun ys w' h => h.pre hS
  have hobv : ∀ b ∈ bc :: ob v, b < w.heap.size := fun b hb => by
    rcases List.mem_cons.1 hb with rfl | h
    · exact hcd.blk.lt
    · exact (hcd.row.ob_le b h).2
  have nb : b ∉ bc :: ob v := fun h => by have := hobv _ h; omega
  replace hcd := hcd.up hS
  replace hs := hs.up hS
  replace hF := hF.up hS
  have leaf : ∀ op n, [(⟨op, n⟩ : Ins)] = codeN x xs.length → ∀ w', Cods wA bc base v (xs ++ [⟨op, n⟩]) w' → Cods w bc base v (xs ++ codeN x xs.length) w' := fun op n h w' h' => h ▸ main _ _ h'
  repeat' (first | refine W1 ?_ | (exfalso; omega) | refine WL_split rfl rfl (fun hg => ?_) (fun hg => ?_) | refine WL_splitB rfl rfl (fun hg => ?_) (fun hg => ?_) | refine WC_cond rfl (fun hc => ?_) (fun hc => ?_) | refine WC_condB rfl (fun hc => ?_) (fun hc => ?_))
  · have h0 : x.kids = [] := Decidable.byContradiction (fun h => by have := hkl h; omega)
    refine WL_eff (OE_call rfl (evs3 rfl rfl rfl) (put_any bc base _ _ 1 x.num _ hcd (by omega))) rfl ?_
    rintro _ w2 ⟨rfl, hq⟩
    refine W ?_
    first | refine WQ_ret1 rfl rfl ?_ | refine WQ_ret2 rfl rfl rfl ?_ | refine WQ_ret3 rfl rfl rfl rfl ?_ | refine WQ_ret0 rfl ?_ | refine WQ_end0 rfl ?_
    exact .mk (leaf _ _ (by rw [hcL h0, leafI, if_pos (by assumption)]) _ hq)
  · have h0 : x.kids = [] := Decidable.byContradiction (fun h => by have := hkl h; omega)
    refine WL_eff (OE_call rfl (evs3 rfl rfl rfl) (put_any bc base _ _ 2 x.num _ hcd (by omega))) rfl ?_
    rintro _ w2 ⟨rfl, hq⟩
    refine W ?_
    first | refine WQ_ret1 rfl rfl ?_ | refine WQ_ret2 rfl rfl rfl ?_ | refine WQ_ret3 rfl rfl rfl rfl ?_ | refine WQ_ret0 rfl ?_ | refine WQ_end0 rfl ?_
    exact .mk (leaf _ _ (by rw [hcL h0, leafI, if_neg (by assumption), if_pos (by assumption)]) _ hq)
  · have h0 : x.kids = [] := Decidable.byContradiction (fun h => by have := hkl h; omega)
    refine WL_eff (OE_call rfl (evs3 rfl rfl rfl) (put_any bc base _ _ 3 x.num _ hcd (by omega))) rfl ?_
    rintro _ w2 ⟨rfl, hq⟩
    refine W ?_
    first | refine WQ_ret1 rfl rfl ?_ | refine WQ_ret2 rfl rfl rfl ?_ | refine WQ_ret3 rfl rfl rfl rfl ?_ | refine WQ_ret0 rfl ?_ | refine WQ_end0 rfl ?_
    exact .mk (leaf _ _ (by rw [hcL h0, leafI, if_neg (by assumption), if_neg (by assumption), if_pos (by assumption)]) _ hq)
  · have h0 : x.kids = [] := Decidable.byContradiction (fun h => by have := hkl h; omega)
    refine WL_eff (OE_call rfl (evs1 rfl) (Field_any x.word _ (SlV.nil hF))) rfl ?_
    rintro _ w2 ⟨rfl, hS2⟩
    refine W ?_
    refine WL_eff (OE_call rfl (evs3 rfl rfl rfl) (put_any bc base _ _ 4 (fieldF x.word).1 _ (hcd.up hS2) (by omega))) rfl ?_
    rintro _ w3 ⟨rfl, hq⟩
    refine W ?_
    first | refine WQ_ret1 rfl rfl ?_ | refine WQ_ret2 rfl rfl rfl ?_ | refine WQ_ret3 rfl rfl rfl rfl ?_ | refine WQ_ret0 rfl ?_ | refine WQ_end0 rfl ?_
    exact .mk (leaf _ _ (by rw [hcL h0, leafI, if_neg (by assumption), if_neg (by assumption), if_neg (by assumption)]) _ (hq.pre hS2))
  · have h6 : x.kind = 6 := by assumption
    rw [hcN] at hl ⊢
    refine WL_eff (OE_call rfl (evs2 rfl rfl) (binaryC_any x h6 _ (hk6 h6) hcl hcs _ bc base _ _ _ hcd ⟨kv, rfl, hs⟩ hF hl)) rfl ?_
    rintro _ w2 hq
    refine W ?_
    first | refine WQ_ret1 rfl rfl ?_ | refine WQ_ret2 rfl rfl rfl ?_ | refine WQ_ret3 rfl rfl rfl rfl ?_ | refine WQ_ret0 rfl ?_ | refine WQ_end0 rfl ?_
    exact .mk (main _ _ hq)
  · have h9 : x.kind = 9 := by assumption
    have h3 := hk9 h9
    have e9 : codeN x = chC (codeN (x.kids[0]'(by omega))) (codeN (x.kids[1]'(by omega))) (codeN (x.kids[2]'(by omega))) := by
      funext p
      rw [hcN, combC, if_neg (by omega), if_pos h9, hgD 0 (by omega), hgD 1 (by omega), hgD 2 (by omega)]
    have c0 := hcs 0 (by omega) (by omega)
    have c1 := hcs 1 (by omega) (by omega)
    have c2 := hcs 2 (by omega) (by omega)
    rw [List.getElem_map] at c0 c1 c2
    rw [e9] at hl ⊢
    have h0 : 0 < x.kids.length := by omega
    have h1 : 1 < x.kids.length := by omega
    have h2 : 2 < x.kids.length := by omega
    refine WC_drawn 14 (bc :: ob v) [] [(0, 0), (1, 0), (2, 1), (3, 0), (4, 1), (5, 0), (6, 1), (7, 0), (8, 1), (9, 0), (10, 1), (11, 0), (12, 1), (13, 2)] rfl mixed (by kernel_rfl) (by kernel_rfl) (by kernel_rfl) (fun w1 hS1 => ?_)
    replace hs := hs.up hS1
    replace hblk := hblk.up hS1
    replace hS := hS.trans hS1
    obtain ⟨u0, s0, d0⟩ := hs.nd h0
    obtain ⟨u1, s1, d1⟩ := hs.nd h1
    obtain ⟨u2, s2, d2⟩ := hs.nd h2
    refine D ?_
    try (refine WD_read rfl trivial (fun w' hS' => PR_load_blk rfl rfl (hblk.ext hS' nb) rfl) rfl ?_)
    refine D ?_
    refine WD_read rfl trivial (fun w' hS' => PR_loadNd rfl rfl (hs.on hS' (fun _ h => h)) h0 (fun j u hj => cell_on hs h0 hS' (d0 j u hj))) rfl ?_
    refine D ?_
    try (refine WD_read rfl trivial (fun w' hS' => PR_load_blk rfl rfl (hblk.ext hS' nb) rfl) rfl ?_)
    refine D ?_
    refine WD_read rfl trivial (fun w' hS' => PR_loadNd rfl rfl (hs.on hS' (fun _ h => h)) h1 (fun j u hj => cell_on hs h1 hS' (d1 j u hj))) rfl ?_
    refine D ?_
    try (refine WD_read rfl trivial (fun w' hS' => PR_load_blk rfl rfl (hblk.ext hS' nb) rfl) rfl ?_)
    refine D ?_
    refine WD_read rfl trivial (fun w' hS' => PR_loadNd rfl rfl (hs.on hS' (fun _ h => h)) h2 (fun j u hj => cell_on hs h2 hS' (d2 j u hj))) rfl ?_
    refine D ?_
    refine WD_eff rfl trivial (OE_call rfl (evs4 rfl rfl rfl rfl) (choice_any c0 c1 c2 _ bc base v _ _ _ xs (hcd.up hS1) ⟨u0, rfl, s0⟩ ⟨u1, rfl, s1⟩ ⟨u2, rfl, s2⟩ (hF.up hS1) hl)) (fun _ _ h => by obtain ⟨_, _, h2, _⟩ := h; exact h2) rfl ?_
    rintro _ w5 hq
    refine D ?_
    refine W ?_
    first | refine WQ_ret1 rfl rfl ?_ | refine WQ_ret2 rfl rfl rfl ?_ | refine WQ_ret3 rfl rfl rfl rfl ?_ | refine WQ_ret0 rfl ?_ | refine WQ_end0 rfl ?_
    exact .mk (hq.pre hS)
  · have h0 : x.kids ≠ [] := fun h => by have := hlf h; omega
    have e0 : combC x.kind x.num x.word (x.kids.map codeN) xs.length = plainC x.kind x.word (x.kids.map codeN) xs.length := by
      rw [combC, if_neg (codeN_kids h0), if_neg (by assumption), if_neg (fun h => absurd h.1 (by assumption)), if_neg (fun h => absurd h.1 (by assumption)), if_neg (fun h => absurd h.1 (by assumption))]
    rw [hcN, e0] at hl ⊢
    refine WL_eff (OE_call rfl (evs2 rfl rfl) (plain_any x _ hcl hcs _ bc base _ _ _ hcd ⟨kv, rfl, hs⟩ hF hl)) rfl ?_
    rintro _ w2 hq
    refine W ?_
    first | refine WQ_ret1 rfl rfl ?_ | refine WQ_ret2 rfl rfl rfl ?_ | refine WQ_ret3 rfl rfl rfl rfl ?_ | refine WQ_ret0 rfl ?_ | refine WQ_end0 rfl ?_
    exact .mk (main _ _ hq)
end Go.Proofs.YtfjmlobgjdmecaaDoor
namespace Go.Proofs.YtfjmlobgjdmecaaDoor
open Go Go.Eng Go.RowKit
set_option linter.unusedVariables false

theorem seqC_len (l : List Nd) (h : ∀ y ∈ l, ∀ p, (codeN y p).length ≤ 8 * sizeN y) (p : Nat) : (seqC (l.map codeN) p).length ≤ 8 * (l.map sizeN).sum := by
  induction l generalizing p with
  | nil => simp [seqC]
  | cons x r ih =>
    simp only [List.map_cons, seqC, List.length_append, List.sum_cons]
    have h1 := h x (by simp) p
    have h2 := ih (fun y hy => h y (by simp [hy])) (p + (codeN x p).length)
    omega
theorem insO_len (l : List Int) : (insO l).length = l.length := by simp [insO]
theorem getD_len {l : List Nd} (h : ∀ y ∈ l, ∀ p, (codeN y p).length ≤ 8 * sizeN y) (i p : Nat) : ((l.map codeN).getD i nilC p).length ≤ 8 * (l.map sizeN).getD i 0 := by
  by_cases hi : i < l.length
  · simp [List.getD, hi]
    exact h _ (List.getElem_mem hi) p
  · simp [List.getD, hi, nilC]
theorem getD_sum (l : List Nat) : l.getD 0 0 + l.getD 1 0 + l.getD 2 0 ≤ l.sum := by
  rcases l with _ | ⟨a, _ | ⟨b, _ | ⟨c, r⟩⟩⟩ <;> simp <;> omega
theorem chC_len (c y n : Cf) (A B C : Nat) (hc : ∀ p, (c p).length ≤ A) (hy : ∀ p, (y p).length ≤ B) (hn : ∀ p, (n p).length ≤ C) (p : Nat) : (chC c y n p).length ≤ A + B + C + 2 := by
  unfold chC
  simp only [List.length_append, List.length_cons, List.length_nil]
  have h1 := hc p
  have h2 := hy (p + (c p).length + 1)
  have h3 := hn (p + (c p).length + 1 + (y (p + (c p).length + 1)).length + 1)
  omega
theorem codeN_len (x : Nd) : ∀ p, (codeN x p).length ≤ 8 * sizeN x := by
  induction x using Nd.ind with
  | h k n s l ih =>
  intro p
  rw [codeN_eq, sizeN_eq]
  show (combC k n s (l.map codeN) p).length ≤ 8 * (1 + (l.map sizeN).sum)
  have hs := getD_sum (l.map sizeN)
  have g := getD_len ih
  have hp : (plainC k s (l.map codeN) p).length ≤ 8 * (l.map sizeN).sum + 3 := by
    unfold plainC
    simp only [List.length_append, insO_len]
    have h1 := seqC_len l ih p
    have h2 := opF_len s
    have h3 : (if k = 8 ∨ k = 5 ∧ s = [45] then [(⟨8, 0⟩ : Ins)] else []).length ≤ 1 := by split <;> simp
    omega
  unfold combC
  split
  · simp; omega
  split
  · refine Nat.le_trans (chC_len _ _ _ _ _ _ (g 0) (g 1) (g 2) p) (by omega)
  split
  · refine Nat.le_trans (chC_len _ _ _ _ _ 1 (g 0) (g 1) (fun _ => by simp) p) (by omega)
  split
  · refine Nat.le_trans (chC_len _ _ _ _ 1 _ (g 0) (fun _ => by simp) (g 1) p) (by omega)
  split
  · simp only [List.length_append, List.length_cons, List.length_nil]; omega
  · omega
def exprF (x : Nd) : List Ins := codeN x 0 ++ [⟨24, 0⟩]
def errX (x : Nd) : Int := if nestN x ≤ 12 then (if typeT x = 0 then 21 else if (exprF x).length > 200 then 2 else 0) else 2
/-- what 'compile.Expression' gives -/
def ExprR (w : World) (x : Nd) (r : Value) (w' : World) : Prop := ∃ cv, r = .tuple #[cv, .int .i64 (errX x)] ∧ (∀ X : List Nat, (∀ b ∈ X, b < w.heap.size) → SlV X w' cv (if errX x = 0 then exprF x else [])) ∧ Stp [] w w'
theorem Expression_any (v : Value) (x : Nd) (w : World) (hsz : sizeN x ≤ 1000) (hx : NdV [] w v x) (hF : SlV [] w flds fieldNames) :
    Calls Tryd.prog 16 #[v] w (Ret (ExprR w x)) := by
  have hN := hx
  obtain ⟨kv, rfl, hs⟩ := hx
  refine calls_of_WC1 (n := 24) Tryd.func16 rfl rfl rfl ?_
  refine W ?_
  refine WL_eff (OE_box rfl) rfl ?_
  rintro _ w1 ⟨b, rfl, hb, hblk, hS⟩
  replace hblk : Blk w1 b _ (ndC x kv) := hblk
  replace hs := hs.up hS; replace hN := hN.up hS; replace hF := hF.up hS
  refine W ?_
  refine WL_eff (OE_call rfl (evs1 rfl) (Of_any [] [] _ x _ hN hF)) rfl ?_
  rintro _ w2 ⟨rfl, hS2⟩
  replace hs := hs.up hS2; replace hN := hN.up hS2; replace hF := hF.up hS2; replace hblk := hblk.up hS2
  replace hS := hS.trans hS2
  by_cases hn : nestN x ≤ 12
  case neg =>
    rw [if_neg hn, if_neg hn]
    have he : errX x = 2 := by rw [errX, if_neg hn]
    repeat' (first | refine W1 ?_ | (exfalso; omega) | refine WL_split rfl rfl (fun hg => ?_) (fun hg => ?_) | refine WL_splitB rfl rfl (fun hg => ?_) (fun hg => ?_) | refine WC_cond rfl (fun hc => ?_) (fun hc => ?_) | refine WC_condB rfl (fun hc => ?_) (fun hc => ?_))
    first | refine WQ_ret1 rfl rfl ?_ | refine WQ_ret2 rfl rfl rfl ?_ | refine WQ_ret3 rfl rfl rfl rfl ?_ | refine WQ_ret0 rfl ?_ | refine WQ_end0 rfl ?_
    refine .mk ⟨_, by rw [he]; rfl, fun X hX => ?_, hS⟩
    rw [he, if_neg (by decide)]
    exact nilSlv _ _
  by_cases ht : typeT x = 0
  · rw [if_pos hn, if_pos hn, if_pos ht]
    have he : errX x = 21 := by rw [errX, if_pos hn, if_pos ht]
    repeat' (first | refine W1 ?_ | (exfalso; omega) | refine WL_split rfl rfl (fun hg => ?_) (fun hg => ?_) | refine WL_splitB rfl rfl (fun hg => ?_) (fun hg => ?_) | refine WC_cond rfl (fun hc => ?_) (fun hc => ?_) | refine WC_condB rfl (fun hc => ?_) (fun hc => ?_))
    first | refine WQ_ret1 rfl rfl ?_ | refine WQ_ret2 rfl rfl rfl ?_ | refine WQ_ret3 rfl rfl rfl rfl ?_ | refine WQ_ret0 rfl ?_ | refine WQ_end0 rfl ?_
    refine .mk ⟨_, by rw [he]; rfl, fun X hX => ?_, hS⟩
    rw [he, if_neg (by decide)]
    exact nilSlv _ _
  rw [if_pos hn, if_pos hn, if_neg ht]
  repeat' (first | refine W1 ?_ | (exfalso; omega) | refine WL_split rfl rfl (fun hg => ?_) (fun hg => ?_) | refine WL_splitB rfl rfl (fun hg => ?_) (fun hg => ?_) | refine WC_cond rfl (fun hc => ?_) (fun hc => ?_) | refine WC_condB rfl (fun hc => ?_) (fun hc => ?_))
  refine WL_eff OE_alloc rfl ?_
  rintro _ w3 ⟨bc, rfl, hbc, hblkc, hS3⟩
  replace hblk := hblk.up hS3
  replace hblkc : Blk w3 bc 85 [.slice none 0 0] := hblkc
  refine W ?_
  have hcod : Cod w3 bc w3.heap.size (.slice none 0 0) [] := ⟨hblkc, Row.nil, by simp [ob], hblkc.lt, Nat.le_refl _⟩
  have fr := Fr.start hcod
  have hlen := codeN_len x 0
  refine WL_eff (OE_call rfl (evs2 rfl rfl) (expr_ok x ht _ bc _ _ _ [] hcod ⟨kv, rfl, ?_⟩ ?_ ?_)) rfl ?_
  · refine hs.ext hS3 (by simp) (fun c hc => .inr ?_)
    simp [ob] at hc; omega
  · refine hF.ext hS3 (by simp) (fun c hc => .inr ?_)
    simp [ob] at hc; omega
  · simp only [List.length_nil]; omega
  rintro _ w4 hq
  obtain ⟨v4, fr⟩ := fr.step hq
  rw [List.nil_append, List.length_nil] at fr
  refine W ?_
  refine WL_eff (OE_call rfl (evs3 rfl rfl rfl) (put_any bc _ _ _ 24 0 _ fr.cod (by omega))) rfl ?_
  rintro _ w5 ⟨rfl, hq⟩
  obtain ⟨v5, fr⟩ := fr.step hq
  have hfin : Stp [] w w5 := hS.trans (hS3.own fr.stp (fun c hc => .inr (by simp [ob] at hc; omega)))
  have hrow := fr.cod.row
  have hblk5 := fr.cod.blk
  have hslv := hrow.slv0
  have hel : ((codeN x 0 ++ [(⟨24, 0⟩ : Ins)]).length : Int) = (exprF x).length := rfl
  by_cases hg : (exprF x).length > 200
  · have he : errX x = 2 := by rw [errX, if_pos hn, if_neg ht, if_pos hg]
    repeat' (first | refine W1 ?_ | (exfalso; omega) | refine WL_split rfl rfl (fun hg => ?_) (fun hg => ?_) | refine WL_splitB rfl rfl (fun hg => ?_) (fun hg => ?_) | refine WC_cond rfl (fun hc => ?_) (fun hc => ?_) | refine WC_condB rfl (fun hc => ?_) (fun hc => ?_))
    first | refine WQ_ret1 rfl rfl ?_ | refine WQ_ret2 rfl rfl rfl ?_ | refine WQ_ret3 rfl rfl rfl rfl ?_ | refine WQ_ret0 rfl ?_ | refine WQ_end0 rfl ?_
    refine .mk ⟨_, by rw [he], fun X hX => ?_, hfin⟩
    rw [he, if_neg (by decide)]
    exact nilSlv _ _
  · have he : errX x = 0 := by rw [errX, if_pos hn, if_neg ht, if_neg hg]
    repeat' (first | refine W1 ?_ | (exfalso; omega) | refine WL_split rfl rfl (fun hg => ?_) (fun hg => ?_) | refine WL_splitB rfl rfl (fun hg => ?_) (fun hg => ?_) | refine WC_cond rfl (fun hc => ?_) (fun hc => ?_) | refine WC_condB rfl (fun hc => ?_) (fun hc => ?_))
    first | refine WQ_ret1 rfl rfl ?_ | refine WQ_ret2 rfl rfl rfl ?_ | refine WQ_ret3 rfl rfl rfl rfl ?_ | refine WQ_ret0 rfl ?_ | refine WQ_end0 rfl ?_
    refine .mk ⟨_, by rw [he], fun X hX => ?_, hfin⟩
    rw [he, if_pos rfl]
    exact Row.slv (X := X) hrow (fun b hb => by have := hX b hb; have := hS.size; have := hS3.size; omega)
end Go.Proofs.YtfjmlobgjdmecaaDoor
namespace Go.Proofs.YtfjmlobgjdmecaaDoor
open Go Go.Eng Go.RowKit
set_option linter.unusedVariables false

theorem guardI (op : BinOp) (x y : Operand) (a b : Ins) (w : World) : (eqGuard op 47 x y (agg a) (agg b)).run Tryd.prog w = .ok () w := by
  cases op <;> kernel_rfl
theorem neqI (a b : Ins) (w : World) : (binOp .neq 47 (agg a) (agg b)).run Tryd.prog w = .ok (.bool (decide (¬ a = b))) w := by
  have h1 : Program.stoodInHeld Tryd.prog 47 = false := by kernel_rfl
  obtain ⟨a1, a2⟩ := a
  obtain ⟨b1, b2⟩ := b
  simp [agg, Flat.enc, run_neq_struct, run_equalIn_struct, h1, Program.fieldsOf, Tryd.underlying47, Op.eqFields, part, Und.isAgg, aggB, run_equalIn_int w _ _ .i64 .i64 _ _ Tryd.underlying3]
  repeat' split
  all_goals simp_all
theorem SameCode_any (va vb : Value) (xs ys : List Ins) (w : World) (ha : SlV [] w va xs) (hb : SlV [] w vb ys) :
    Calls Tryd.prog 19 #[va, vb] w (Ret fun r w' => r = .bool (decide (xs = ys)) ∧ Stp [] w w') := by
  have hma := ha.max
  have hmb := hb.max
  refine calls_of_WC2 (n := 26) Tryd.func19 rfl rfl rfl ?_
  refine W ?_
  by_cases hl : xs.length = ys.length
  case neg =>
    repeat' (first | refine W1 ?_ | (exfalso; omega) | refine WL_split rfl rfl (fun hg => ?_) (fun hg => ?_) | refine WL_splitB rfl rfl (fun hg => ?_) (fun hg => ?_) | refine WC_cond rfl (fun hc => ?_) (fun hc => ?_) | refine WC_condB rfl (fun hc => ?_) (fun hc => ?_))
    first | refine WQ_ret1 rfl rfl ?_ | refine WQ_ret2 rfl rfl rfl ?_ | refine WQ_ret3 rfl rfl rfl rfl ?_ | refine WQ_ret0 rfl ?_ | refine WQ_end0 rfl ?_
    exact .mk ⟨by congr 1; rw [eq_comm, decide_eq_false_iff_not]; exact fun h => hl (by rw [h]), Stp.refl _ _⟩
  repeat' (first | refine W1 ?_ | (exfalso; omega) | refine WL_split rfl rfl (fun hg => ?_) (fun hg => ?_) | refine WL_splitB rfl rfl (fun hg => ?_) (fun hg => ?_) | refine WC_cond rfl (fun hc => ?_) (fun hc => ?_) | refine WC_condB rfl (fun hc => ?_) (fun hc => ?_))
  refine WC_loop (σ := Nat) (fun j => [(0, va), (1, vb), (4, .bool false), (5, .int .i64 (j : Int))]) (fun j w' => j ≤ xs.length ∧ Stp [] w w' ∧ ∀ i (h : i < xs.length), i < j → xs[i] = ys[i]'(by omega)) (fun j => xs.length - j) 0 ⟨rfl, rfl, rfl, rfl, trivial⟩ ⟨Nat.zero_le _, Stp.refl _ _, fun i _ h => absurd h (Nat.not_lt_zero _)⟩ ?_
  rintro j w2 ⟨hj, hS, heq⟩
  try dsimp only at hj heq ⊢
  replace ha := ha.up hS
  replace hb := hb.up hS
  by_cases hlt : j < xs.length
  · have hlt' : j < ys.length := by omega
    repeat' (first | refine W1 ?_ | (exfalso; omega) | refine WL_split rfl rfl (fun hg => ?_) (fun hg => ?_) | refine WL_splitB rfl rfl (fun hg => ?_) (fun hg => ?_) | refine WC_cond rfl (fun hc => ?_) (fun hc => ?_) | refine WC_condB rfl (fun hc => ?_) (fun hc => ?_))
    refine WC_drawn 9 [] [] [(0, 0), (1, 0), (2, 0), (3, 1), (4, 0), (5, 0), (6, 0), (7, 1), (8, 0)] rfl mixed (by kernel_rfl) (by kernel_rfl) (by kernel_rfl) (fun w1 hS1 => ?_)
    replace ha := ha.up hS1
    replace hb := hb.up hS1
    replace hS := hS.trans hS1
    refine D ?_
    apply WD_op
    exact rfl
    refine WO_neqS (c := xs[j] = ys[j]) trivial rfl rfl (fun w => guardI _ _ _ xs[j] ys[j] w) (by intro w; exact neqI xs[j] ys[j] w) rfl ?_
    refine D ?_
    repeat' (first | refine W1 ?_ | (exfalso; omega) | refine WL_split rfl rfl (fun hg => ?_) (fun hg => ?_) | refine WL_splitB rfl rfl (fun hg => ?_) (fun hg => ?_) | refine WC_cond rfl (fun hc => ?_) (fun hc => ?_) | refine WC_condB rfl (fun hc => ?_) (fun hc => ?_))
    · first | refine WQ_ret1 rfl rfl ?_ | refine WQ_ret2 rfl rfl rfl ?_ | refine WQ_ret3 rfl rfl rfl rfl ?_ | refine WQ_ret0 rfl ?_ | refine WQ_end0 rfl ?_
      exact .mk ⟨by congr 1; rw [eq_comm, decide_eq_false_iff_not]; exact fun h => hc (by simp [h]), hS⟩
    · have he : xs[j] = ys[j] := Decidable.byContradiction hc
      have hk : ∀ i (h : i < xs.length), i < j + 1 → xs[i] = ys[i]'(by omega) := fun i h hi => by
        by_cases hij : i = j
        · subst hij; exact he
        · exact heq i h (by omega)
      exact WQ_loop (j + 1) ⟨rfl, rfl, rfl, rfl, trivial⟩ ⟨hlt, hS, hk⟩ (Nat.sub_lt_sub_left hlt (Nat.lt_succ_self j))
  · have hje : j = xs.length := by omega
    subst hje
    repeat' (first | refine W1 ?_ | (exfalso; omega) | refine WL_split rfl rfl (fun hg => ?_) (fun hg => ?_) | refine WL_splitB rfl rfl (fun hg => ?_) (fun hg => ?_) | refine WC_cond rfl (fun hc => ?_) (fun hc => ?_) | refine WC_condB rfl (fun hc => ?_) (fun hc => ?_))
    first | refine WQ_ret1 rfl rfl ?_ | refine WQ_ret2 rfl rfl rfl ?_ | refine WQ_ret3 rfl rfl rfl rfl ?_ | refine WQ_ret0 rfl ?_ | refine WQ_end0 rfl ?_
    exact .mk ⟨by congr 1; rw [eq_comm, decide_eq_true_eq]; exact List.ext_getElem hl (fun i h h' => heq i h h), hS⟩
end Go.Proofs.YtfjmlobgjdmecaaDoor
/-
Rows that a pure function makes; slices of slices.
-/
namespace Go.Eng
open Go Go.RowKit Go.Proofs
set_option linter.unusedVariables false

/-- a row made since w: nothing else has changed -/
def RowF {β : Type} [Flat β] (T : Nat) (w w' : World) (v : Value) (xs : List β) : Prop := Row [] w' w.heap.size T v xs ∧ Stp [] w w'
section
variable {β : Type} [Flat β] {T : Nat} {w w' w'' : World} {v : Value} {xs ys : List β}
theorem Row.lower {α : Type} [GoRep α] {X : List Nat} {a b : Nat} {xs : List α} (h : Row X w b T v xs) (hab : a ≤ b) : Row X w a T v xs := by
  obtain ⟨css, h1, h2, h3, h4⟩ := h
  refine ⟨css, h1, h2, h3, h4.imp id ?_⟩
  rintro ⟨g, cap, cur, e1, e2, rest⟩
  exact ⟨g, cap, cur, e1, Nat.le_trans hab e2, rest⟩
theorem RowF.nil : RowF (β := β) T w w (.slice none 0 0) [] := ⟨Row.nil, Stp.refl _ _⟩
theorem RowF.up (h : RowF T w w' v xs) (hS : Stp [] w' w'') : RowF T w w'' v xs := ⟨h.1.up hS, h.2.trans hS⟩
theorem RowF.pre (hS : Stp [] w w') (h : RowF T w' w'' v xs) : RowF T w w'' v xs := ⟨h.1.lower hS.size, hS.trans h.2⟩
theorem RowF.one {cs : List Value} {len : Nat} (h : NewSl w T len cs v w') (hl : len = xs.length) (hc : cs = xs.flatMap Flat.enc) (hm : xs.length ≤ maxLen) : RowF T w w' v xs := ⟨h.row (Nat.le_refl _) hl hc hm, h.choose_spec.2.2.2⟩
theorem RowF.slv (h : RowF T w w' v xs) {X : List Nat} (hX : ∀ b ∈ X, b < w.heap.size) : SlV X w' v xs := Row.slv (X := X) h.1 hX
theorem RowF.ob_le (h : RowF T w w' v xs) : ∀ b ∈ ob v, w.heap.size ≤ b ∧ b < w'.heap.size := h.1.ob_le
/-- a step that may write only the row's own block, or newer ones -/
theorem RowF.step {S : List Nat} (h : RowF T w w' v xs) (hS : Stp S w' w'') (ho : ∀ b ∈ S, b ∈ ob v) : Stp [] w w'' := h.2.own hS (fun b hb => .inr (h.ob_le b (ho b hb)).1)
section
variable {P : Program} {n : Nat} {e : Env} {d : Option Nat} {ty : TypeId} {pos : String} {af : Array Edge} {g : Option (Nat × Bool)}
theorem OE_appF {x y : Operand} {t bytes : Nat} {u : Value} {z : Value} [ht : Und P t (.slice T)] [hk : Siz P T (GoRep.k β)] [hb : Byt P T bytes] [hz : Zer P T z] (hzs : z.cells.size = GoRep.k β) (hpos : 0 < GoRep.k β)
    (hx : ev e x = some v) (hy : ev e y = some u) (h : RowF T w w' v xs) (hys : SlV (ob v) w' u ys) (hbytes : (xs.length + ys.length) * bytes ≤ 140737488355328) (hlen : xs.length + ys.length ≤ maxLen) :
    OE P n ⟨d, .call { callee := .builtin .append, args := #[x, y], argTypes := #[t, t] }, ty, pos, af, g⟩ e w' (fun v' w'' => RowF T w w'' v' (xs ++ ys) ∧ Stp (ob v) w' w'' ∧ ∀ b ∈ ob v', b ∈ ob v ∨ w'.heap.size ≤ b) := by
  refine (OE_append (X := []) (base := w.heap.size) hzs hpos hx hy h.1 (by rw [List.append_nil]; exact hys) hbytes hlen h.2.size).mono ?_
  rintro v' w2 ⟨h1, h2, h3⟩
  exact ⟨⟨h1, h.step h2 (fun _ hb => hb)⟩, h2, h3⟩
theorem OE_setF {i j k : Nat} {t : TypeId} {x y : Operand} {u : Value} {y' : β} [hsz : Siz P t 1] (hx : ev e x = some (.pointer (some (elAddr v i k j)))) (hy : ev e y = some u) (hk : k = Flat.k β)
    (hu : u.cells.toList = [u]) (h1 : u.oneCell' = true) (h : RowF T w w' v xs) (hi : i < xs.length) (hj : j < Flat.k β) (hr' : Flat.enc y' = (Flat.enc xs[i]).set j u) :
    OE P n ⟨d, .store t x y, ty, pos, af, g⟩ e w' (fun _ w'' => RowF T w w'' v (xs.set i y') ∧ Stp (ob v) w' w'') := by
  refine (OE_storeF (β := β) hx hy hk hu h1 h.1 hi hj hr').mono ?_
  rintro _ w2 ⟨h2, h3⟩
  exact ⟨⟨h2, h.step h3 (fun _ hb => hb)⟩, h3⟩
end
end

/-- a slice as an element -/
structure Sl (α : Type) where
  l : List α
instance {α : Type} [GoRep α] : GoRep (Sl α) where
  k := 1
  rep := fun X w x cs => ∃ v, cs = [v] ∧ SlV X w v x.l
  len := by rintro X w x cs ⟨v, rfl, _⟩; rfl
  one := by
    rintro X w x cs ⟨v, rfl, p, c, rfl, _⟩ u hu
    simp at hu
    subst hu
    rfl
  ext := by
    rintro X S X' w w' x cs ⟨v, rfl, h⟩ hS h1 h2
    exact ⟨v, rfl, h.ext hS h1 h2⟩
theorem NewSl.slvS {α : Type} [GoRep α] {w w' : World} {X : List Nat} {T len : Nat} {vs : List Value} {v : Value} {xss : List (Sl α)} (h : NewSl w T len vs v w') (hX : ∀ b ∈ X, b < w.heap.size) (hl : len = xss.length) (hvl : vs.length = xss.length)
    (hr : ∀ i (hi : i < xss.length) (hi' : i < vs.length), SlV X w vs[i] xss[i].l) (hm : xss.length ≤ maxLen) : SlV X w' v xss := by
  obtain ⟨b, rfl, hb, hblk, hS⟩ := h
  subst hl
  refine ⟨some ⟨b, 0, none⟩, xss.length, rfl, Nat.le_refl _, hm, fun h => by simp at h, fun i hi => ⟨b, 0, [vs[i]'(by omega)], rfl, hblk.lt, fun hx => by have := hX b hx; omega, ⟨_, rfl, (hr i hi (by omega)).up hS⟩, fun j u hu => ?_⟩⟩
  refine hblk.cell ?_
  have : j = 0 := by
    have := (List.getElem?_eq_some_iff.1 hu).1
    simp at this
    exact this
  subst this
  simp at hu
  subst hu
  simp [GoRep.k]
theorem SlV.sub {α : Type} [GoRep α] {w : World} {X : List Nat} {v : Value} {xss : List (Sl α)} {i : Nat} (h : SlV X w v xss) (hi : i < xss.length) : ∃ u, w.cell? (elAddr v i 1 0) = some u ∧ SlV X w u xss[i].l := by
  obtain ⟨cs, ⟨u, rfl, hu⟩, hc⟩ := h.cell hi
  exact ⟨u, hc 0 u rfl, hu⟩
end Go.Eng
namespace Go.Proofs.YtfjmlobgjdmecaaDoor
open Go Go.Eng Go.RowKit
set_option linter.unusedVariables false

theorem leafR_any (v : Value) (x : Nd) (w : World) (hx : NdV [] w v x) : Calls Tryd.prog 97 #[v] w (Ret fun r w' => r = agg (leafI x.kind x.num x.word) ∧ Stp [] w w') := by
  obtain ⟨kv, rfl, hs⟩ := hx
  refine calls_of_WC1 (n := 32) Tryd.func97 rfl rfl rfl ?_
  refine W ?_
  refine WL_eff (OE_box rfl) rfl ?_
  rintro _ w1 ⟨b, rfl, hb, hblk, hS⟩
  replace hblk : Blk w1 b _ (ndC x kv) := hblk
  have hsz := hS.size
  refine WL_eff OE_alloc rfl ?_
  rintro _ w2 ⟨b2, rfl, hb2, hblk2, hS2⟩
  replace hblk := hblk.up hS2
  replace hS := hS.trans hS2
  repeat' (first | refine W1 ?_ | (exfalso; omega) | refine WL_split rfl rfl (fun hg => ?_) (fun hg => ?_) | refine WL_splitB rfl rfl (fun hg => ?_) (fun hg => ?_) | refine WC_cond rfl (fun hc => ?_) (fun hc => ?_) | refine WC_condB rfl (fun hc => ?_) (fun hc => ?_))
  · apply WL_build (vs := [(0, .int .i64 1), (1, .int .i64 _)]) rfl (buildI _ _) rfl
    refine WL_eff0 (OE_storeA (us := Flat.enc (Ins.mk 1 x.num)) rfl rfl rfl rfl (Flat.one _) hblk2 rfl) ?_
    rintro _ w3 ⟨hS3, hblk3⟩
    refine W ?_
    refine WQ_retc rfl rfl rfl hblk3 rfl ?_
    refine .mk ⟨by rw [leafI, if_pos (by assumption)]; rfl, hS.own hS3 (fun c hc => .inr (by simp at hc; omega))⟩
  · apply WL_build (vs := [(0, .int .i64 2), (1, .int .i64 _)]) rfl (buildI _ _) rfl
    refine WL_eff0 (OE_storeA (us := Flat.enc (Ins.mk 2 x.num)) rfl rfl rfl rfl (Flat.one _) hblk2 rfl) ?_
    rintro _ w3 ⟨hS3, hblk3⟩
    refine W ?_
    refine WQ_retc rfl rfl rfl hblk3 rfl ?_
    refine .mk ⟨by rw [leafI, if_neg (by assumption), if_pos (by assumption)]; rfl, hS.own hS3 (fun c hc => .inr (by simp at hc; omega))⟩
  · apply WL_build (vs := [(0, .int .i64 3), (1, .int .i64 _)]) rfl (buildI _ _) rfl
    refine WL_eff0 (OE_storeA (us := Flat.enc (Ins.mk 3 x.num)) rfl rfl rfl rfl (Flat.one _) hblk2 rfl) ?_
    rintro _ w3 ⟨hS3, hblk3⟩
    refine W ?_
    refine WQ_retc rfl rfl rfl hblk3 rfl ?_
    refine .mk ⟨by rw [leafI, if_neg (by assumption), if_neg (by assumption), if_pos (by assumption)]; rfl, hS.own hS3 (fun c hc => .inr (by simp at hc; omega))⟩
  · refine WL_eff (OE_call rfl (evs1 rfl) (Field14_any x.word _)) rfl ?_
    rintro _ w3 ⟨rfl, hS3⟩
    replace hblk2 := hblk2.up hS3
    replace hS := hS.trans hS3
    refine W ?_
    apply WL_build (vs := [(0, .int .i64 4), (1, .int .i64 _)]) rfl (buildI _ _) rfl
    refine WL_eff0 (OE_storeA (us := Flat.enc (Ins.mk 4 (fieldF x.word).1)) rfl rfl rfl rfl (Flat.one _) hblk2 rfl) ?_
    rintro _ w4 ⟨hS4, hblk4⟩
    refine W ?_
    refine WQ_retc rfl rfl rfl hblk4 rfl ?_
    refine .mk ⟨by rw [leafI, if_neg (by assumption), if_neg (by assumption), if_neg (by assumption)]; rfl, hS.own hS4 (fun c hc => .inr (by simp at hc; omega))⟩

/-- the operations that follow the kids of a node -/
def plainO (k : Int) (s : Str) : List Int := (if k = 8 ∨ k = 5 ∧ s = [45] then [8] else []) ++ opF s ++ (if k = 6 ∧ s = [45] then [6] else [])
def names9 : List Str := [[43], [45], [42], [60], [60, 61], [61], [62], [62, 61], [33, 61]]
def codes9 : List (Sl Int) := [⟨[5]⟩, ⟨[6]⟩, ⟨[7]⟩, ⟨[9]⟩, ⟨[10]⟩, ⟨[11]⟩, ⟨[10, 12]⟩, ⟨[9, 12]⟩, ⟨[11, 12]⟩]
theorem buildSI4 (a b c d : Int) (w : World) : (Instr.buildSlice 25 4 #[(0, .int .i64 a), (1, .int .i64 b), (2, .int .i64 c), (3, .int .i64 d)]).run Tryd.prog w = .ok (.slice (some ⟨w.heap.size, 0, none⟩) 4 4) (w.alloc (.cells #[.int .i64 a, .int .i64 b, .int .i64 c, .int .i64 d] 3)) := by kernel_rfl
theorem buildSI5 (a b c d e : Int) (w : World) : (Instr.buildSlice 25 5 #[(0, .int .i64 a), (1, .int .i64 b), (2, .int .i64 c), (3, .int .i64 d), (4, .int .i64 e)]).run Tryd.prog w = .ok (.slice (some ⟨w.heap.size, 0, none⟩) 5 5) (w.alloc (.cells #[.int .i64 a, .int .i64 b, .int .i64 c, .int .i64 d, .int .i64 e] 3)) := by kernel_rfl
theorem buildSS5 (a b c d e : Str) (w : World) : (Instr.buildSlice 42 5 #[(0, str a), (1, str b), (2, str c), (3, str d), (4, str e)]).run Tryd.prog w = .ok (.slice (some ⟨w.heap.size, 0, none⟩) 5 5) (w.alloc (.cells #[str a, str b, str c, str d, str e] 9)) := by kernel_rfl
theorem buildSS9 (a b c d e f g h i : Str) (w : World) : (Instr.buildSlice 42 9 #[(0, str a), (1, str b), (2, str c), (3, str d), (4, str e), (5, str f), (6, str g), (7, str h), (8, str i)]).run Tryd.prog w = .ok (.slice (some ⟨w.heap.size, 0, none⟩) 9 9) (w.alloc (.cells #[str a, str b, str c, str d, str e, str f, str g, str h, str i] 9)) := by kernel_rfl
theorem buildSV9 (p0 p1 p2 p3 p4 p5 p6 p7 p8 : Option Addr) (l0 l1 l2 l3 l4 l5 l6 l7 l8 c0 c1 c2 c3 c4 c5 c6 c7 c8 : Nat) (w : World) : (Instr.buildSlice 44 9 #[(0, .slice p0 l0 c0), (1, .slice p1 l1 c1), (2, .slice p2 l2 c2), (3, .slice p3 l3 c3), (4, .slice p4 l4 c4), (5, .slice p5 l5 c5), (6, .slice p6 l6 c6), (7, .slice p7 l7 c7), (8, .slice p8 l8 c8)]).run Tryd.prog w = .ok (.slice (some ⟨w.heap.size, 0, none⟩) 9 9) (w.alloc (.cells #[.slice p0 l0 c0, .slice p1 l1 c1, .slice p2 l2 c2, .slice p3 l3 c3, .slice p4 l4 c4, .slice p5 l5 c5, .slice p6 l6 c6, .slice p7 l7 c7, .slice p8 l8 c8] 25)) := by kernel_rfl
theorem o6 {s : Str} (h : s ∈ opsA ∨ s ∈ opsC ∨ s ∈ opsL) (ha : ¬ s = [97, 110, 100]) (ho : ¬ s = [111, 114]) : ∃ i, ∃ h : i < codes9.length, idx (isS s) names9 = (i : Int) ∧ codes9[i].l = plainO 6 s := by
  simp only [opsA, opsC, opsL, List.mem_cons, List.not_mem_nil, or_false] at h
  rcases h with (h | h | h) | (h | h | h | h | h | h) | (h | h) <;> subst h
  · exact ⟨0, by decide, by decide, by decide⟩
  · exact ⟨1, by decide, by decide, by decide⟩
  · exact ⟨2, by decide, by decide, by decide⟩
  · exact ⟨3, by decide, by decide, by decide⟩
  · exact ⟨4, by decide, by decide, by decide⟩
  · exact ⟨5, by decide, by decide, by decide⟩
  · exact ⟨8, by decide, by decide, by decide⟩
  · exact ⟨6, by decide, by decide, by decide⟩
  · exact ⟨7, by decide, by decide, by decide⟩
  · exact absurd rfl ha
  · exact absurd rfl ho
theorem oU {s : Str} (h : s ∈ units) : ∃ i, ∃ h : i < [(15 : Int), 16, 17, 18].length, idx (isS s) units = (i : Int) ∧ plainO 7 s = [[(15 : Int), 16, 17, 18][i]] ∧ plainO 8 s = [8, [(15 : Int), 16, 17, 18][i]] := by
  simp only [units, List.mem_cons, List.not_mem_nil, or_false] at h
  rcases h with h | h | h | h <;> subst h
  · exact ⟨0, by decide, by decide, by decide, by decide⟩
  · exact ⟨1, by decide, by decide, by decide, by decide⟩
  · exact ⟨2, by decide, by decide, by decide, by decide⟩
  · exact ⟨3, by decide, by decide, by decide, by decide⟩
theorem oC {s : Str} (h : s ∈ opsF) : ∃ i, ∃ h : i < [(19 : Int), 20, 21, 22, 23].length, idx (isS s) opsF = (i : Int) ∧ plainO 10 s = [[(19 : Int), 20, 21, 22, 23][i]] := by
  simp only [opsF, List.mem_cons, List.not_mem_nil, or_false] at h
  rcases h with h | h | h | h | h <;> subst h
  · exact ⟨0, by decide, by decide, by decide⟩
  · exact ⟨1, by decide, by decide, by decide⟩
  · exact ⟨2, by decide, by decide, by decide⟩
  · exact ⟨3, by decide, by decide, by decide⟩
  · exact ⟨4, by decide, by decide, by decide⟩
theorem simple_any (X : List Nat) (v : Value) (x : Nd) (w : World) (hX0 : ∀ b ∈ X, b < w.heap.size) (hsh : Shape x.kind x.word x.kids.length) (h9 : ¬ x.kind = 9) (ha : ¬ (x.kind = 6 ∧ x.word = [97, 110, 100])) (ho : ¬ (x.kind = 6 ∧ x.word = [111, 114])) (hx : NdV [] w v x) :
    Calls Tryd.prog 99 #[v] w (Ret fun r w' => SlV X w' r (plainO x.kind x.word) ∧ Stp [] w w') := by
  obtain ⟨kv, rfl, hs⟩ := hx
  refine calls_of_WC1 (n := 63) Tryd.func99 rfl rfl rfl ?_
  refine W ?_
  refine WL_eff (OE_box rfl) rfl ?_
  rintro _ w0 ⟨b, rfl, hb, hblk, hS⟩
  replace hblk : Blk w0 b _ (ndC x kv) := hblk
  have hX : ∀ b ∈ X, b < w0.heap.size := fun b hb => Nat.lt_of_lt_of_le (hX0 b hb) hS.size
  refine W ?_
  refine WL_eff (OE_buildSlice (vs := [(0, .int .i64 5)]) rfl (buildSI1 _)) rfl ?_
  rintro a0 u0 hN
  have s_a0 : SlV X u0 a0 [(5 : Int)] := hN.slv hX rfl rfl (by simp [maxLen])
  have hT := NewSl.stp hN
  clear hN
  replace hblk := hblk.up hT
  replace hS := hS.trans hT
  replace hX := fun b hb => Nat.lt_of_lt_of_le (hX b hb) hT.size
  clear hT
  refine WL_eff (OE_buildSlice (vs := [(0, .int .i64 6)]) rfl (buildSI1 _)) rfl ?_
  rintro a1 u1 hN
  have s_a1 : SlV X u1 a1 [(6 : Int)] := hN.slv hX rfl rfl (by simp [maxLen])
  have hT := NewSl.stp hN
  clear hN
  replace hblk := hblk.up hT
  replace hS := hS.trans hT
  replace hX := fun b hb => Nat.lt_of_lt_of_le (hX b hb) hT.size
  replace s_a0 := s_a0.up hT
  clear hT
  refine WL_eff (OE_buildSlice (vs := [(0, .int .i64 7)]) rfl (buildSI1 _)) rfl ?_
  rintro a2 u2 hN
  have s_a2 : SlV X u2 a2 [(7 : Int)] := hN.slv hX rfl rfl (by simp [maxLen])
  have hT := NewSl.stp hN
  clear hN
  replace hblk := hblk.up hT
  replace hS := hS.trans hT
  replace hX := fun b hb => Nat.lt_of_lt_of_le (hX b hb) hT.size
  replace s_a0 := s_a0.up hT
  replace s_a1 := s_a1.up hT
  clear hT
  refine WL_eff (OE_buildSlice (vs := [(0, .int .i64 9)]) rfl (buildSI1 _)) rfl ?_
  rintro a3 u3 hN
  have s_a3 : SlV X u3 a3 [(9 : Int)] := hN.slv hX rfl rfl (by simp [maxLen])
  have hT := NewSl.stp hN
  clear hN
  replace hblk := hblk.up hT
  replace hS := hS.trans hT
  replace hX := fun b hb => Nat.lt_of_lt_of_le (hX b hb) hT.size
  replace s_a0 := s_a0.up hT
  replace s_a1 := s_a1.up hT
  replace s_a2 := s_a2.up hT
  clear hT
  refine WL_eff (OE_buildSlice (vs := [(0, .int .i64 10)]) rfl (buildSI1 _)) rfl ?_
  rintro a4 u4 hN
  have s_a4 : SlV X u4 a4 [(10 : Int)] := hN.slv hX rfl rfl (by simp [maxLen])
  have hT := NewSl.stp hN
  clear hN
  replace hblk := hblk.up hT
  replace hS := hS.trans hT
  replace hX := fun b hb => Nat.lt_of_lt_of_le (hX b hb) hT.size
  replace s_a0 := s_a0.up hT
  replace s_a1 := s_a1.up hT
  replace s_a2 := s_a2.up hT
  replace s_a3 := s_a3.up hT
  clear hT
  refine WL_eff (OE_buildSlice (vs := [(0, .int .i64 11)]) rfl (buildSI1 _)) rfl ?_
  rintro a5 u5 hN
  have s_a5 : SlV X u5 a5 [(11 : Int)] := hN.slv hX rfl rfl (by simp [maxLen])
  have hT := NewSl.stp hN
  clear hN
  replace hblk := hblk.up hT
  replace hS := hS.trans hT
  replace hX := fun b hb => Nat.lt_of_lt_of_le (hX b hb) hT.size
  replace s_a0 := s_a0.up hT
  replace s_a1 := s_a1.up hT
  replace s_a2 := s_a2.up hT
  replace s_a3 := s_a3.up hT
  replace s_a4 := s_a4.up hT
  clear hT
  refine WL_eff (OE_buildSlice (vs := [(0, .int .i64 10), (1, .int .i64 12)]) rfl (buildSI2 _ _)) rfl ?_
  rintro a6 u6 hN
  have s_a6 : SlV X u6 a6 [(10 : Int), (12 : Int)] := hN.slv hX rfl rfl (by simp [maxLen])
  have hT := NewSl.stp hN
  clear hN
  replace hblk := hblk.up hT
  replace hS := hS.trans hT
  replace hX := fun b hb => Nat.lt_of_lt_of_le (hX b hb) hT.size
  replace s_a0 := s_a0.up hT
  replace s_a1 := s_a1.up hT
  replace s_a2 := s_a2.up hT
  replace s_a3 := s_a3.up hT
  replace s_a4 := s_a4.up hT
  replace s_a5 := s_a5.up hT
  clear hT
  refine WL_eff (OE_buildSlice (vs := [(0, .int .i64 9), (1, .int .i64 12)]) rfl (buildSI2 _ _)) rfl ?_
  rintro a7 u7 hN
  have s_a7 : SlV X u7 a7 [(9 : Int), (12 : Int)] := hN.slv hX rfl rfl (by simp [maxLen])
  have hT := NewSl.stp hN
  clear hN
  replace hblk := hblk.up hT
  replace hS := hS.trans hT
  replace hX := fun b hb => Nat.lt_of_lt_of_le (hX b hb) hT.size
  replace s_a0 := s_a0.up hT
  replace s_a1 := s_a1.up hT
  replace s_a2 := s_a2.up hT
  replace s_a3 := s_a3.up hT
  replace s_a4 := s_a4.up hT
  replace s_a5 := s_a5.up hT
  replace s_a6 := s_a6.up hT
  clear hT
  refine WL_eff (OE_buildSlice (vs := [(0, .int .i64 11), (1, .int .i64 12)]) rfl (buildSI2 _ _)) rfl ?_
  rintro a8 u8 hN
  have s_a8 : SlV X u8 a8 [(11 : Int), (12 : Int)] := hN.slv hX rfl rfl (by simp [maxLen])
  have hT := NewSl.stp hN
  clear hN
  replace hblk := hblk.up hT
  replace hS := hS.trans hT
  replace hX := fun b hb => Nat.lt_of_lt_of_le (hX b hb) hT.size
  replace s_a0 := s_a0.up hT
  replace s_a1 := s_a1.up hT
  replace s_a2 := s_a2.up hT
  replace s_a3 := s_a3.up hT
  replace s_a4 := s_a4.up hT
  replace s_a5 := s_a5.up hT
  replace s_a6 := s_a6.up hT
  replace s_a7 := s_a7.up hT
  clear hT
  obtain ⟨p0, c0, rfl, _⟩ := id s_a0
  obtain ⟨p1, c1, rfl, _⟩ := id s_a1
  obtain ⟨p2, c2, rfl, _⟩ := id s_a2
  obtain ⟨p3, c3, rfl, _⟩ := id s_a3
  obtain ⟨p4, c4, rfl, _⟩ := id s_a4
  obtain ⟨p5, c5, rfl, _⟩ := id s_a5
  obtain ⟨p6, c6, rfl, _⟩ := id s_a6
  obtain ⟨p7, c7, rfl, _⟩ := id s_a7
  obtain ⟨p8, c8, rfl, _⟩ := id s_a8
  refine WL_eff (OE_buildSlice (vs := [(0, .slice p0 _ c0), (1, .slice p1 _ c1), (2, .slice p2 _ c2), (3, .slice p3 _ c3), (4, .slice p4 _ c4), (5, .slice p5 _ c5), (6, .slice p6 _ c6), (7, .slice p7 _ c7), (8, .slice p8 _ c8)]) rfl (buildSV9 _ _ _ _ _ _ _ _ _ _ _ _ _ _ _ _ _ _ _ _ _ _ _ _ _ _ _)) rfl ?_
  rintro tw u9 hN
  have s_tw : SlV X u9 tw codes9 := hN.slvS (xss := codes9) hX rfl rfl (fun i hi hi' => match i, hi with | 0, _ => s_a0 | 1, _ => s_a1 | 2, _ => s_a2 | 3, _ => s_a3 | 4, _ => s_a4 | 5, _ => s_a5 | 6, _ => s_a6 | 7, _ => s_a7 | 8, _ => s_a8) (by decide)
  have hT := NewSl.stp hN
  clear hN
  replace hblk := hblk.up hT
  replace hS := hS.trans hT
  replace hX := fun b hb => Nat.lt_of_lt_of_le (hX b hb) hT.size
  replace s_a0 := s_a0.up hT
  replace s_a1 := s_a1.up hT
  replace s_a2 := s_a2.up hT
  replace s_a3 := s_a3.up hT
  replace s_a4 := s_a4.up hT
  replace s_a5 := s_a5.up hT
  replace s_a6 := s_a6.up hT
  replace s_a7 := s_a7.up hT
  replace s_a8 := s_a8.up hT
  clear hT
  clear s_a0 s_a1 s_a2 s_a3 s_a4 s_a5 s_a6 s_a7 s_a8
  refine W ?_
  refine WL_eff (OE_buildSlice (vs := [(0, .int .i64 19), (1, .int .i64 20), (2, .int .i64 21), (3, .int .i64 22), (4, .int .i64 23)]) rfl (buildSI5 _ _ _ _ _)) rfl ?_
  rintro cl u10 hN
  have s_cl : SlV X u10 cl [(19 : Int), 20, 21, 22, 23] := hN.slv hX rfl rfl (by simp [maxLen])
  have hT := NewSl.stp hN
  clear hN
  replace hblk := hblk.up hT
  replace hS := hS.trans hT
  replace hX := fun b hb => Nat.lt_of_lt_of_le (hX b hb) hT.size
  replace s_tw := s_tw.up hT
  clear hT
  refine W ?_
  refine WL_eff (OE_buildSlice (vs := [(0, .int .i64 15), (1, .int .i64 16), (2, .int .i64 17), (3, .int .i64 18)]) rfl (buildSI4 _ _ _ _)) rfl ?_
  rintro un u11 hN
  have s_un : SlV X u11 un [(15 : Int), 16, 17, 18] := hN.slv hX rfl rfl (by simp [maxLen])
  have hT := NewSl.stp hN
  clear hN
  replace hblk := hblk.up hT
  replace hS := hS.trans hT
  replace hX := fun b hb => Nat.lt_of_lt_of_le (hX b hb) hT.size
  replace s_tw := s_tw.up hT
  replace s_cl := s_cl.up hT
  clear hT
  refine W ?_
  refine WL_eff (OE_buildSlice (vs := [(0, str [100, 97, 121, 115]), (1, str [119, 101, 101, 107, 115]), (2, str [109, 111, 110, 116, 104, 115]), (3, str [99, 111, 117, 114, 116, 100, 97, 121, 115])]) rfl (buildSS4 _ _ _ _)) rfl ?_
  rintro us u12 hN
  have s_us : SlV X u12 us units := hN.slv hX rfl rfl (by simp [units, maxLen])
  have hT := NewSl.stp hN
  clear hN
  replace hblk := hblk.up hT
  replace hS := hS.trans hT
  replace hX := fun b hb => Nat.lt_of_lt_of_le (hX b hb) hT.size
  replace s_tw := s_tw.up hT
  replace s_cl := s_cl.up hT
  replace s_un := s_un.up hT
  clear hT
  refine W ?_
  refine WL_eff (OE_call rfl (evs2 rfl rfl) (place15_any X _ units x.word _ s_us)) rfl ?_
  rintro _ w2 ⟨rfl, hT⟩
  replace hblk := hblk.up hT; replace s_tw := s_tw.up hT; replace s_cl := s_cl.up hT; replace s_un := s_un.up hT
  replace hS := hS.trans hT
  replace hX := fun b hb => Nat.lt_of_lt_of_le (hX b hb) hT.size
  clear hT s_us
  have hO7 : x.kind = 7 ∨ x.kind = 8 → x.word ∈ units := fun hk => by
    rcases hsh with ⟨h, _, _⟩ | ⟨h, _, _⟩ | ⟨h, hu, _⟩ | ⟨h, _⟩ | ⟨h, _, _⟩ <;> first | exact hu | omega
  have hO6 : x.kind = 6 → x.word ∈ opsA ∨ x.word ∈ opsC ∨ x.word ∈ opsL := fun hk => by
    rcases hsh with ⟨h, _, _⟩ | ⟨h, hu, _⟩ | ⟨h, _, _⟩ | ⟨h, _⟩ | ⟨h, _, _⟩ <;> first | exact hu | omega
  have hO5 : x.kind = 5 → x.word = [45] ∨ x.word = [110, 111, 116] := fun hk => by
    rcases hsh with ⟨h, hu, _⟩ | ⟨h, _, _⟩ | ⟨h, _, _⟩ | ⟨h, _⟩ | ⟨h, _, _⟩ <;> first | exact hu | omega
  have hO10 : ¬ x.kind = 5 → ¬ x.kind = 6 → ¬ x.kind = 7 → ¬ x.kind = 8 → x.kind = 10 ∧ x.word ∈ opsF := fun _ _ _ _ => by
    rcases hsh with ⟨h, _, _⟩ | ⟨h, _, _⟩ | ⟨h, _, _⟩ | ⟨h, _⟩ | ⟨h, hu, _⟩ <;> first | exact ⟨h, hu⟩ | omega
  refine W ?_
  by_cases k5 : x.kind = 5
  · have hw5 := hO5 k5
    repeat' (first | refine W1 ?_ | (exfalso; omega) | refine WL_split rfl rfl (fun hg => ?_) (fun hg => ?_) | refine WL_splitB rfl rfl (fun hg => ?_) (fun hg => ?_) | refine WC_cond rfl (fun hc => ?_) (fun hc => ?_) | refine WC_condB rfl (fun hc => ?_) (fun hc => ?_))
    · refine WL_eff (OE_buildSlice (vs := [(0, .int .i64 8)]) rfl (buildSI1 _)) rfl ?_
      rintro r w3 hN
      have hr : SlV X w3 r [(8 : Int)] := hN.slv hX rfl rfl (by simp [maxLen])
      have hT := NewSl.stp hN
      refine W ?_
      first | refine WQ_ret1 rfl rfl ?_ | refine WQ_ret2 rfl rfl rfl ?_ | refine WQ_ret3 rfl rfl rfl rfl ?_ | refine WQ_ret0 rfl ?_ | refine WQ_end0 rfl ?_
      have hw : x.word = [45] := by assumption
      exact .mk ⟨by rw [k5, hw]; exact hr, hS.trans hT⟩
    · refine WL_eff (OE_buildSlice (vs := [(0, .int .i64 12)]) rfl (buildSI1 _)) rfl ?_
      rintro r w3 hN
      have hr : SlV X w3 r [(12 : Int)] := hN.slv hX rfl rfl (by simp [maxLen])
      have hT := NewSl.stp hN
      refine W ?_
      first | refine WQ_ret1 rfl rfl ?_ | refine WQ_ret2 rfl rfl rfl ?_ | refine WQ_ret3 rfl rfl rfl rfl ?_ | refine WQ_ret0 rfl ?_ | refine WQ_end0 rfl ?_
      have hw : x.word = [110, 111, 116] := hw5.resolve_left (by assumption)
      exact .mk ⟨by rw [k5, hw]; exact hr, hS.trans hT⟩
  by_cases k6 : x.kind = 6
  · have hw6 := hO6 k6
    obtain ⟨i, hi, hid, hco⟩ := o6 hw6 (fun h => ha ⟨k6, h⟩) (fun h => ho ⟨k6, h⟩)
    repeat' (first | refine W1 ?_ | (exfalso; omega) | refine WL_split rfl rfl (fun hg => ?_) (fun hg => ?_) | refine WL_splitB rfl rfl (fun hg => ?_) (fun hg => ?_) | refine WC_cond rfl (fun hc => ?_) (fun hc => ?_) | refine WC_condB rfl (fun hc => ?_) (fun hc => ?_))
    refine WL_eff (OE_buildSlice (vs := [(0, str [43]), (1, str [45]), (2, str [42]), (3, str [60]), (4, str [60, 61]), (5, str [61]), (6, str [62]), (7, str [62, 61]), (8, str [33, 61])]) rfl (buildSS9 _ _ _ _ _ _ _ _ _)) rfl ?_
    rintro nv w3 hN
    have s_n : SlV X w3 nv names9 := hN.slv hX rfl rfl (by simp [names9, maxLen])
    have hT := NewSl.stp hN
    replace hblk := hblk.up hT; replace s_tw := s_tw.up hT
    replace hS := hS.trans hT
    clear hT hN
    refine W ?_
    refine WL_eff (OE_call rfl (evs2 rfl rfl) (place15_any X _ names9 x.word _ s_n)) rfl ?_
    rintro _ w4 ⟨rfl, hT⟩
    replace hblk := hblk.up hT; replace s_tw := s_tw.up hT
    replace hS := hS.trans hT
    rw [hid]
    obtain ⟨u, hcell, hsu⟩ := s_tw.sub hi
    refine W ?_
    apply WL_pure (PR_load1 rfl rfl hcell) rfl
    refine W ?_
    first | refine WQ_ret1 rfl rfl ?_ | refine WQ_ret2 rfl rfl rfl ?_ | refine WQ_ret3 rfl rfl rfl rfl ?_ | refine WQ_ret0 rfl ?_ | refine WQ_end0 rfl ?_
    exact .mk ⟨by rw [k6, ← hco]; exact hsu, hS⟩
  by_cases k7 : x.kind = 7
  · obtain ⟨i, hi, hid, hco, _⟩ := oU (hO7 (.inl k7))
    rw [hid]
    repeat' (first | refine W1 ?_ | (exfalso; omega) | refine WL_split rfl rfl (fun hg => ?_) (fun hg => ?_) | refine WL_splitB rfl rfl (fun hg => ?_) (fun hg => ?_) | refine WC_cond rfl (fun hc => ?_) (fun hc => ?_) | refine WC_condB rfl (fun hc => ?_) (fun hc => ?_))
    refine WL_eff (OE_buildSlice (vs := [(0, .int .i64 _)]) rfl (buildSI1 _)) rfl ?_
    rintro r w3 hN
    have hr : SlV X w3 r [[(15 : Int), 16, 17, 18][i]] := hN.slv hX rfl rfl (by simp [maxLen])
    have hT := NewSl.stp hN
    refine W ?_
    first | refine WQ_ret1 rfl rfl ?_ | refine WQ_ret2 rfl rfl rfl ?_ | refine WQ_ret3 rfl rfl rfl rfl ?_ | refine WQ_ret0 rfl ?_ | refine WQ_end0 rfl ?_
    exact .mk ⟨by rw [k7, hco]; exact hr, hS.trans hT⟩
  by_cases k8 : x.kind = 8
  · obtain ⟨i, hi, hid, _, hco⟩ := oU (hO7 (.inr k8))
    rw [hid]
    repeat' (first | refine W1 ?_ | (exfalso; omega) | refine WL_split rfl rfl (fun hg => ?_) (fun hg => ?_) | refine WL_splitB rfl rfl (fun hg => ?_) (fun hg => ?_) | refine WC_cond rfl (fun hc => ?_) (fun hc => ?_) | refine WC_condB rfl (fun hc => ?_) (fun hc => ?_))
    refine WL_eff (OE_buildSlice (vs := [(0, .int .i64 8), (1, .int .i64 _)]) rfl (buildSI2 _ _)) rfl ?_
    rintro r w3 hN
    have hr : SlV X w3 r [8, [(15 : Int), 16, 17, 18][i]] := hN.slv hX rfl rfl (by simp [maxLen])
    have hT := NewSl.stp hN
    refine W ?_
    first | refine WQ_ret1 rfl rfl ?_ | refine WQ_ret2 rfl rfl rfl ?_ | refine WQ_ret3 rfl rfl rfl rfl ?_ | refine WQ_ret0 rfl ?_ | refine WQ_end0 rfl ?_
    exact .mk ⟨by rw [k8, hco]; exact hr, hS.trans hT⟩
  obtain ⟨k10, hw10⟩ := hO10 k5 k6 k7 k8
  obtain ⟨i, hi, hid, hco⟩ := oC hw10
  repeat' (first | refine W1 ?_ | (exfalso; omega) | refine WL_split rfl rfl (fun hg => ?_) (fun hg => ?_) | refine WL_splitB rfl rfl (fun hg => ?_) (fun hg => ?_) | refine WC_cond rfl (fun hc => ?_) (fun hc => ?_) | refine WC_condB rfl (fun hc => ?_) (fun hc => ?_))
  refine WL_eff (OE_buildSlice (vs := [(0, str [110, 101, 120, 116]), (1, str [112, 114, 101, 118]), (2, str [108, 97, 116, 101, 114]), (3, str [101, 97, 114, 108, 105, 101, 114]), (4, str [98, 101, 116, 119, 101, 101, 110])]) rfl (buildSS5 _ _ _ _ _)) rfl ?_
  rintro nv w3 hN
  have s_n : SlV X w3 nv opsF := hN.slv hX rfl rfl (by simp [opsF, maxLen])
  have hT := NewSl.stp hN
  replace hblk := hblk.up hT; replace s_cl := s_cl.up hT
  replace hS := hS.trans hT
  replace hX := fun b hb => Nat.lt_of_lt_of_le (hX b hb) hT.size
  clear hT hN
  refine W ?_
  refine WL_eff (OE_call rfl (evs2 rfl rfl) (place15_any X _ opsF x.word _ s_n)) rfl ?_
  rintro _ w4 ⟨rfl, hT⟩
  replace hblk := hblk.up hT; replace s_cl := s_cl.up hT
  replace hS := hS.trans hT
  replace hX := fun b hb => Nat.lt_of_lt_of_le (hX b hb) hT.size
  rw [hid]
  refine W ?_
  refine WL_eff (OE_buildSlice (vs := [(0, .int .i64 _)]) rfl (buildSI1 _)) rfl ?_
  rintro r w5 hN
  have hr : SlV X w5 r [[(19 : Int), 20, 21, 22, 23][i]] := hN.slv hX rfl rfl (by simp [maxLen])
  have hT := NewSl.stp hN
  refine W ?_
  first | refine WQ_ret1 rfl rfl ?_ | refine WQ_ret2 rfl rfl rfl ?_ | refine WQ_ret3 rfl rfl rfl rfl ?_ | refine WQ_ret0 rfl ?_ | refine WQ_end0 rfl ?_
  exact .mk ⟨by rw [k10, hco]; exact hr, hS.trans hT⟩
end Go.Proofs.YtfjmlobgjdmecaaDoor
namespace Go.Proofs.YtfjmlobgjdmecaaDoor
open Go Go.Eng Go.RowKit
set_option linter.unusedVariables false

abbrev RwI (w w' : World) (v : Value) (xs : List Ins) : Prop := RowF 47 w w' v xs
/-- the reference's 'code' makes this code -/
def CodeOk (x : Nd) (f : Cf) : Prop := ∀ (w : World) (nv : Value) (p : Nat) (z : Int), z = (p : Int) → NdV [] w nv x → p + (f p).length ≤ 100000 →
  Calls Tryd.prog 55 #[nv, .int .i64 z] w (Ret fun r w' => RwI w w' r (f p))

theorem choiceR_any {x y n : Nd} {f g h : Cf} (hx : CodeOk x f) (hy : CodeOk y g) (hn : CodeOk n h) (w : World) (xv yv nv : Value) (p0 : Nat) (z0 : Int) (hz : z0 = (p0 : Int))
    (gx : NdV [] w xv x) (gy : NdV [] w yv y) (gn : NdV [] w nv n) (hl : p0 + (chC f g h p0).length ≤ 100000) :
    Calls Tryd.prog 98 #[xv, yv, nv, .int .i64 z0] w (Ret fun r w' => RwI w w' r (chC f g h p0)) := by
  have hl' := hl
  unfold chC at hl'
  simp only [List.length_append, List.length_cons, List.length_nil] at hl'
  obtain ⟨xk, rfl, sx⟩ := gx
  obtain ⟨yk, rfl, sy⟩ := gy
  obtain ⟨nk, rfl, sn⟩ := gn
  subst hz
  refine calls_of_WC4 (n := 60) Tryd.func98 rfl rfl rfl ?_
  refine W ?_
  refine WL_eff (OE_box rfl) rfl ?_
  rintro _ w1 ⟨b1, rfl, hb1, k1, hS1⟩
  replace k1 : Blk w1 b1 _ (ndC x xk) := k1
  refine WL_eff (OE_box rfl) rfl ?_
  rintro _ w2 ⟨b2, rfl, hb2, k2, hS2⟩
  replace k2 : Blk w2 b2 _ (ndC y yk) := k2
  refine WL_eff (OE_box rfl) rfl ?_
  rintro _ w3 ⟨b3, rfl, hb3, k3, hS3⟩
  replace k3 : Blk w3 b3 _ (ndC n nk) := k3
  have hS := (hS1.trans hS2).trans hS3
  replace k1 := (k1.up hS2).up hS3
  replace k2 := k2.up hS3
  replace sx := sx.up hS
  replace sy := sy.up hS
  replace sn := sn.up hS
  clear hS1 hS2 hS3
  have hch := chC.eq_1 f g h p0
  generalize hA : f p0 = A at *
  generalize hp : p0 + A.length + 1 = p at *
  generalize hB : g p = B at *
  generalize hqq : p + B.length + 1 = q at *
  generalize hD : h q = D at *
  rw [hch]
  have e1 : (A ++ [(⟨14, 0⟩ : Ins)]).length = A.length + 1 := by simp
  have e2 : (A ++ [(⟨14, 0⟩ : Ins)] ++ B).length = A.length + 1 + B.length := by simp; omega
  have e3 : (A ++ [(⟨14, 0⟩ : Ins)] ++ B ++ [(⟨13, 0⟩ : Ins)]).length = A.length + 1 + B.length + 1 := by simp; omega
  have e4 : ∀ z, (A ++ [(⟨14, z⟩ : Ins)] ++ B ++ [(⟨13, 0⟩ : Ins)]).length = A.length + 1 + B.length + 1 := by simp; omega
  have e5 : ∀ z, (A ++ [(⟨14, z⟩ : Ins)] ++ B ++ [(⟨13, 0⟩ : Ins)] ++ D).length = A.length + 1 + B.length + 1 + D.length := by simp; omega
  refine W ?_
  refine WL_eff (OE_call rfl (evs2 rfl rfl) (hx _ _ p0 _ rfl ⟨xk, rfl, sx⟩ (by rw [hA]; omega))) rfl ?_
  rintro v w4 hr
  rw [hA] at hr
  have hsl := hr.slv (X := []) (by simp)
  refine W ?_
  apply WL_build (vs := [(0, .int .i64 14)]) rfl (buildI0 _) rfl
  refine WL_eff (OE_buildSlice (vs := [(0, agg (Ins.mk 14 0))]) rfl (buildSI _)) rfl ?_
  rintro u wb hN
  have hu : SlV (ob v) wb u [Ins.mk 14 0] := hN.slv (fun b hb => (hr.ob_le b hb).2) rfl rfl (by simp [maxLen])
  have hT := NewSl.stp hN
  clear hN
  replace hr := hr.up hT
  clear hT hsl
  refine WL_eff (OE_appF rfl (by decide) rfl rfl hr hu (by simp only [List.length_cons, List.length_nil]; omega) (by simp only [List.length_cons, List.length_nil, maxLen]; omega)) rfl ?_
  clear hu hr
  rintro v wc ⟨hr, -, -⟩
  have hsl := hr.slv (X := []) (by simp)
  have kk := k2.up hr.2
  refine W ?_
  refine WL_eff (OE_call rfl (evs2 rfl rfl) (hy _ _ p _ (by omega) ⟨yk, rfl, sy.up hr.2⟩ (by rw [hB]; omega))) rfl ?_
  rintro u wd hu
  rw [hB] at hu
  have hus := hu.slv (X := ob v) (fun b hb => (hr.ob_le b hb).2)
  replace hr := hr.up hu.2
  clear hu hsl kk
  refine WL_eff (OE_appF rfl (by decide) rfl rfl hr hus (by rw [e1]; omega) (by rw [e1]; simp only [maxLen]; omega)) rfl ?_
  clear hus hr
  rintro v we ⟨hr, -, -⟩
  have hsl := hr.slv (X := []) (by simp)
  refine W ?_
  apply WL_build (vs := [(0, .int .i64 13)]) rfl (buildI0 _) rfl
  refine WL_eff (OE_buildSlice (vs := [(0, agg (Ins.mk 13 0))]) rfl (buildSI _)) rfl ?_
  rintro u wb hN
  have hu : SlV (ob v) wb u [Ins.mk 13 0] := hN.slv (fun b hb => (hr.ob_le b hb).2) rfl rfl (by simp [maxLen])
  have hT := NewSl.stp hN
  clear hN
  replace hr := hr.up hT
  clear hT hsl
  refine WL_eff (OE_appF rfl (by decide) rfl rfl hr hu (by simp only [e2, List.length_cons, List.length_nil]; omega) (by simp only [e2, List.length_cons, List.length_nil, maxLen]; omega)) rfl ?_
  clear hu hr
  rintro v wc ⟨hr, -, -⟩
  have hsl := hr.slv (X := []) (by simp)
  have hi1 : A.length < (A ++ [(⟨14, 0⟩ : Ins)] ++ B ++ [(⟨13, 0⟩ : Ins)]).length := by rw [e3]; omega
  refine W ?_
  have hop1 : (A ++ [(⟨14, 0⟩ : Ins)] ++ B ++ [(⟨13, 0⟩ : Ins)])[A.length] = ⟨14, 0⟩ := by simp
  have hq1 : (p0 : Int) + ((A ++ [(⟨14, 0⟩ : Ins)] ++ B ++ [(⟨13, 0⟩ : Ins)]).length : Int) = (q : Int) := by rw [e3]; omega
  refine WL_eff0 (OE_setF (i := A.length) (j := 1) (u := .int .i64 ((p0 : Int) + ((A ++ [(⟨14, 0⟩ : Ins)] ++ B ++ [(⟨13, 0⟩ : Ins)]).length : Int))) (y' := ⟨14, (q : Int)⟩) rfl rfl rfl rfl rfl hr hi1 (by decide) (by rw [hop1, ← hq1]; rfl)) ?_
  have hset1 : (A ++ [(⟨14, 0⟩ : Ins)] ++ B ++ [(⟨13, 0⟩ : Ins)]).set A.length ⟨14, (q : Int)⟩ = A ++ [(⟨14, (q : Int)⟩ : Ins)] ++ B ++ [(⟨13, 0⟩ : Ins)] := by simp
  rw [hset1]
  clear hr hsl
  rintro _ wf ⟨hr, -⟩
  have hsl := hr.slv (X := []) (by simp)
  have e4' := e4 (q : Int)
  have kk := k3.up hr.2
  refine W ?_
  refine WL_eff (OE_call rfl (evs2 rfl rfl) (hn _ _ q _ (by omega) ⟨nk, rfl, sn.up hr.2⟩ (by rw [hD]; omega))) rfl ?_
  rintro u wd hu
  rw [hD] at hu
  have hus := hu.slv (X := ob v) (fun b hb => (hr.ob_le b hb).2)
  replace hr := hr.up hu.2
  clear hu hsl kk
  refine WL_eff (OE_appF rfl (by decide) rfl rfl hr hus (by rw [e4]; omega) (by rw [e4]; simp only [maxLen]; omega)) rfl ?_
  clear hus hr
  rintro v we ⟨hr, -, -⟩
  have hsl := hr.slv (X := []) (by simp)
  have e5' := e5 (q : Int)
  have hi2 : A.length + 1 + B.length < (A ++ [(⟨14, (q : Int)⟩ : Ins)] ++ B ++ [(⟨13, 0⟩ : Ins)] ++ D).length := by rw [e5]; omega
  refine W ?_
  have e2' : (A ++ [(⟨14, (q : Int)⟩ : Ins)] ++ B).length = A.length + 1 + B.length := by simp; omega
  have hsp : A ++ [(⟨14, (q : Int)⟩ : Ins)] ++ B ++ [(⟨13, 0⟩ : Ins)] ++ D = (A ++ [(⟨14, (q : Int)⟩ : Ins)] ++ B) ++ (⟨13, 0⟩ : Ins) :: D := by simp
  rw [e2]
  have hop2 : (A ++ [(⟨14, (q : Int)⟩ : Ins)] ++ B ++ [(⟨13, 0⟩ : Ins)] ++ D)[A.length + 1 + B.length] = ⟨13, 0⟩ := by
    rw [List.getElem_append_left (by rw [e4]; omega), List.getElem_append_right (by omega)]
    simp
  have hq2 : (p0 : Int) + ((A ++ [(⟨14, (q : Int)⟩ : Ins)] ++ B ++ [(⟨13, 0⟩ : Ins)] ++ D).length : Int) = ((q + D.length : Nat) : Int) := by rw [e5]; omega
  refine WL_eff0 (OE_setF (i := A.length + 1 + B.length) (j := 1) (u := .int .i64 ((p0 : Int) + ((A ++ [(⟨14, (q : Int)⟩ : Ins)] ++ B ++ [(⟨13, 0⟩ : Ins)] ++ D).length : Int))) (y' := ⟨13, ((q + D.length : Nat) : Int)⟩) rfl rfl rfl rfl rfl hr hi2 (by decide) (by rw [hop2, ← hq2]; rfl)) ?_
  have hset2 : (A ++ [(⟨14, (q : Int)⟩ : Ins)] ++ B ++ [(⟨13, 0⟩ : Ins)] ++ D).set (A.length + 1 + B.length) ⟨13, ((q + D.length : Nat) : Int)⟩ = A ++ [(⟨14, (q : Int)⟩ : Ins)] ++ B ++ [(⟨13, ((q + D.length : Nat) : Int)⟩ : Ins)] ++ D := by
    rw [hsp, List.set_append_right _ _ (by omega), e2']
    simp
  rw [hset2]
  clear hr hsl
  rintro _ wg ⟨hr, -⟩
  refine W ?_
  first | refine WQ_ret1 rfl rfl ?_ | refine WQ_ret2 rfl rfl rfl ?_ | refine WQ_ret3 rfl rfl rfl rfl ?_ | refine WQ_ret0 rfl ?_ | refine WQ_end0 rfl ?_
  exact .mk (hr.pre hS)
end Go.Proofs.YtfjmlobgjdmecaaDoor
namespace Go.Proofs.YtfjmlobgjdmecaaDoor
open Go Go.Eng Go.RowKit
set_option linter.unusedVariables false

theorem codeBool (z : Int) : CodeOk (.mk 2 z [] []) (fun _ => [⟨2, z⟩]) := by
  intro w nv p z0 hz hx hl
  have hN := hx
  obtain ⟨kv, rfl, hs⟩ := hx
  refine calls_of_WC2 (n := 107) Tryd.func55 rfl rfl rfl ?_
  refine W ?_
  refine WL_eff (OE_box rfl) rfl ?_
  rintro _ w1 ⟨b, rfl, hb, hblk, hS⟩
  replace hblk : Blk w1 b _ (ndC (.mk 2 z [] []) kv) := hblk
  replace hs := hs.up hS; replace hN := hN.up hS
  have hk0 : (Nd.mk 2 z [] []).kids.length = 0 := rfl
  repeat' (first | refine W1 ?_ | (exfalso; omega) | refine WL_split rfl rfl (fun hg => ?_) (fun hg => ?_) | refine WL_splitB rfl rfl (fun hg => ?_) (fun hg => ?_) | refine WC_cond rfl (fun hc => ?_) (fun hc => ?_) | refine WC_condB rfl (fun hc => ?_) (fun hc => ?_))
  refine WL_eff (OE_call rfl (evs1 rfl) (leafR_any _ (.mk 2 z [] []) _ hN)) rfl ?_
  rintro _ w2 ⟨rfl, hS2⟩
  refine WL_eff (OE_buildSlice (vs := [(0, agg (Ins.mk 2 z))]) rfl (buildSI _)) rfl ?_
  rintro u w3 hN3
  have hr : RwI w2 w3 u [Ins.mk 2 z] := RowF.one hN3 rfl rfl (by simp [maxLen])
  refine W ?_
  first | refine WQ_ret1 rfl rfl ?_ | refine WQ_ret2 rfl rfl rfl ?_ | refine WQ_ret3 rfl rfl rfl rfl ?_ | refine WQ_ret0 rfl ?_ | refine WQ_end0 rfl ?_
  exact .mk (hr.pre (hS.trans hS2))
/-- the code of a node that is no choice -/
theorem combC_plainO {x : Nd} (cs : List Cf) (p : Nat) (hne : ¬ cs.length = 0) (h9 : ¬ x.kind = 9) (ha : ¬ (x.kind = 6 ∧ x.word = [97, 110, 100])) (ho : ¬ (x.kind = 6 ∧ x.word = [111, 114])) : combC x.kind x.num x.word cs p = seqC cs p ++ insO (plainO x.kind x.word) := by
  unfold combC plainO plainC
  rw [if_neg hne, if_neg h9, if_neg ha, if_neg ho]
  by_cases hm : x.kind = 6 ∧ x.word = [45]
  · rw [if_pos hm, if_pos hm, hm.1, hm.2]
    simp [insO]
  · rw [if_neg hm, if_neg hm]
    by_cases h8 : x.kind = 8 ∨ x.kind = 5 ∧ x.word = [45]
    · rw [if_pos h8, if_pos h8]
      simp [insO]
    · rw [if_neg h8, if_neg h8]
      simp [insO]
theorem code_ok (x : Nd) : typeT x ≠ 0 → CodeOk x (codeN x) := by
  induction x using Nd.ind with
  | h k n s l ih =>
  intro hty
  have hkt := (typed_kids hty).2
  have hcs : ∀ i (h : i < (Nd.mk k n s l).kids.length), CodeOk (Nd.mk k n s l).kids[i] (codeN (Nd.mk k n s l).kids[i]) := by
    intro i h
    exact ih _ (List.getElem_mem h) (hkt _ (List.getElem_mem h))
  have hsh := typed_shape hty
  have hcN := codeN_eq (.mk k n s l)
  have hcL := codeN_leaf (x := .mk k n s l)
  have hgD := fun i => codeN_getD (x := .mk k n s l) (i := i)
  generalize (Nd.mk k n s l) = x at *
  clear ih
  intro w nv p z0 hz hx hl
  subst hz
  have hN := hx
  obtain ⟨kv, rfl, hs⟩ := hx
  have hmax := hs.max
  refine calls_of_WC2 (n := 107) Tryd.func55 rfl rfl rfl ?_
  refine W ?_
  refine WL_eff (OE_box rfl) rfl ?_
  rintro _ wA ⟨b, rfl, hb, hblk, hS⟩
  replace hblk : Blk wA b _ (ndC x kv) := hblk
  replace hs := hs.up hS; replace hN := hN.up hS
  by_cases h0 : x.kids = []
  · have hk0 : x.kids.length = 0 := by rw [h0]; rfl
    rw [hcL h0]
    repeat' (first | refine W1 ?_ | (exfalso; omega) | refine WL_split rfl rfl (fun hg => ?_) (fun hg => ?_) | refine WL_splitB rfl rfl (fun hg => ?_) (fun hg => ?_) | refine WC_cond rfl (fun hc => ?_) (fun hc => ?_) | refine WC_condB rfl (fun hc => ?_) (fun hc => ?_))
    refine WL_eff (OE_call rfl (evs1 rfl) (leafR_any _ x _ hN)) rfl ?_
    rintro _ w2 ⟨rfl, hS2⟩
    refine WL_eff (OE_buildSlice (vs := [(0, agg (leafI x.kind x.num x.word))]) rfl (buildSI _)) rfl ?_
    rintro u w3 hN3
    have hr : RwI w2 w3 u [leafI x.kind x.num x.word] := RowF.one hN3 rfl rfl (by simp [maxLen])
    refine W ?_
    first | refine WQ_ret1 rfl rfl ?_ | refine WQ_ret2 rfl rfl rfl ?_ | refine WQ_ret3 rfl rfl rfl rfl ?_ | refine WQ_ret0 rfl ?_ | refine WQ_end0 rfl ?_
    exact .mk (hr.pre (hS.trans hS2))
  have hkl : ¬ x.kids.length = 0 := fun h => h0 (List.eq_nil_of_length_eq_zero h)
  have hcl : ¬ (x.kids.map codeN).length = 0 := by simpa using h0
  replace hsh := (hsh h0).2
  have hk6 : x.kind = 6 → x.kids.length = 2 := fun h6 => by
    rcases hsh with ⟨h, _, _⟩ | ⟨h, _, hm⟩ | ⟨h, _, _⟩ | ⟨h, _⟩ | ⟨h, _, _⟩ <;> omega
  have hk9 : x.kind = 9 → x.kids.length = 3 := fun h6 => by
    rcases hsh with ⟨h, _, _⟩ | ⟨h, _, hm⟩ | ⟨h, _, _⟩ | ⟨h, hm⟩ | ⟨h, _, _⟩ <;> omega
  by_cases h9 : x.kind = 9
  · have h3 := hk9 h9
    have h0 : 0 < x.kids.length := by omega
    have h1 : 1 < x.kids.length := by omega
    have h2 : 2 < x.kids.length := by omega
    have e9 : codeN x = chC (codeN x.kids[0]) (codeN x.kids[1]) (codeN x.kids[2]) := by
      funext p
      rw [hcN, combC, if_neg hcl, if_pos h9, hgD 0 h0, hgD 1 h1, hgD 2 h2]
    rw [e9] at hl ⊢
    repeat' (first | refine W1 ?_ | (exfalso; omega) | refine WL_split rfl rfl (fun hg => ?_) (fun hg => ?_) | refine WL_splitB rfl rfl (fun hg => ?_) (fun hg => ?_) | refine WC_cond rfl (fun hc => ?_) (fun hc => ?_) | refine WC_condB rfl (fun hc => ?_) (fun hc => ?_))
    refine WC_drawn 15 [] [] [(0, 0), (1, 1), (2, 0), (3, 1), (4, 0), (5, 1), (6, 0), (7, 1), (8, 0), (9, 1), (10, 0), (11, 1), (12, 0), (13, 2), (14, 0)] rfl mixed (by kernel_rfl) (by kernel_rfl) (by kernel_rfl) (fun w1 hS1 => ?_)
    replace hs := hs.up hS1
    replace hblk := hblk.up hS1
    replace hS := hS.trans hS1
    obtain ⟨u0, s0, d0⟩ := hs.nd h0
    obtain ⟨u1, s1, d1⟩ := hs.nd h1
    obtain ⟨u2, s2, d2⟩ := hs.nd h2
    refine D ?_
    refine WD_read rfl trivial (fun w' hS' => PR_loadNd rfl rfl (hs.on hS' (fun _ h => h)) h0 (fun j u hj => cell_on hs h0 hS' (d0 j u hj))) rfl ?_
    refine D ?_
    refine WD_read rfl trivial (fun w' hS' => PR_loadNd rfl rfl (hs.on hS' (fun _ h => h)) h1 (fun j u hj => cell_on hs h1 hS' (d1 j u hj))) rfl ?_
    refine D ?_
    refine WD_read rfl trivial (fun w' hS' => PR_loadNd rfl rfl (hs.on hS' (fun _ h => h)) h2 (fun j u hj => cell_on hs h2 hS' (d2 j u hj))) rfl ?_
    refine D ?_
    refine WD_eff rfl trivial (OE_call rfl (evs4 rfl rfl rfl rfl) (choiceR_any (hcs 0 h0) (hcs 1 h1) (hcs 2 h2) _ _ _ _ p _ rfl ⟨u0, rfl, s0⟩ ⟨u1, rfl, s1⟩ ⟨u2, rfl, s2⟩ hl)) (fun _ _ h => h.2) rfl ?_
    rintro _ w5 hq
    refine D ?_
    refine W ?_
    first | refine WQ_ret1 rfl rfl ?_ | refine WQ_ret2 rfl rfl rfl ?_ | refine WQ_ret3 rfl rfl rfl rfl ?_ | refine WQ_ret0 rfl ?_ | refine WQ_end0 rfl ?_
    exact .mk (hq.pre hS)
  by_cases ha : x.kind = 6 ∧ x.word = [97, 110, 100]
  · obtain ⟨h6, hw⟩ := ha
    have h2 := hk6 h6
    have h0 : 0 < x.kids.length := by omega
    have h1 : 1 < x.kids.length := by omega
    have e9 : codeN x = chC (codeN x.kids[0]) (codeN x.kids[1]) (fun _ => [⟨2, 0⟩]) := by
      funext p
      rw [hcN, combC, if_neg hcl, if_neg h9, if_pos ⟨h6, hw⟩, hgD 0 h0, hgD 1 h1]
    rw [e9] at hl ⊢
    repeat' (first | refine W1 ?_ | (exfalso; omega) | refine WL_split rfl rfl (fun hg => ?_) (fun hg => ?_) | refine WL_splitB rfl rfl (fun hg => ?_) (fun hg => ?_) | refine WC_cond rfl (fun hc => ?_) (fun hc => ?_) | refine WC_condB rfl (fun hc => ?_) (fun hc => ?_))
    all_goals first
      | (exfalso; contradiction)
      | skip
    refine WC_drawn 12 [] [] [(0, 0), (1, 1), (2, 0), (3, 1), (4, 0), (5, 1), (6, 0), (7, 1), (8, 0), (9, 0), (10, 2), (11, 0)] rfl mixed (by kernel_rfl) (by kernel_rfl) (by kernel_rfl) (fun w1 hS1 => ?_)
    replace hs := hs.up hS1
    replace hblk := hblk.up hS1
    replace hS := hS.trans hS1
    obtain ⟨u0, s0, d0⟩ := hs.nd h0
    obtain ⟨u1, s1, d1⟩ := hs.nd h1
    refine D ?_
    refine WD_read rfl trivial (fun w' hS' => PR_loadNd rfl rfl (hs.on hS' (fun _ h => h)) h0 (fun j u hj => cell_on hs h0 hS' (d0 j u hj))) rfl ?_
    refine D ?_
    refine WD_read rfl trivial (fun w' hS' => PR_loadNd rfl rfl (hs.on hS' (fun _ h => h)) h1 (fun j u hj => cell_on hs h1 hS' (d1 j u hj))) rfl ?_
    refine D ?_
    apply WD_op
    exact rfl
    apply WO_build (vs := [(0, .int .i64 2)])
    exact trivial
    exact rfl
    exact buildNb0
    exact rfl
    refine D ?_
    refine WD_eff rfl trivial (OE_call rfl (evs4 rfl rfl rfl rfl) (choiceR_any (hcs 0 h0) (hcs 1 h1) (codeBool 0) _ _ _ _ p _ rfl ⟨u0, rfl, s0⟩ ⟨u1, rfl, s1⟩ ⟨_, rfl, nilSlv _ _⟩ hl)) (fun _ _ h => h.2) rfl ?_
    rintro _ w5 hq
    refine D ?_
    refine W ?_
    first | refine WQ_ret1 rfl rfl ?_ | refine WQ_ret2 rfl rfl rfl ?_ | refine WQ_ret3 rfl rfl rfl rfl ?_ | refine WQ_ret0 rfl ?_ | refine WQ_end0 rfl ?_
    exact .mk (hq.pre hS)
  by_cases ho : x.kind = 6 ∧ x.word = [111, 114]
  · obtain ⟨h6, hw⟩ := ho
    have h2 := hk6 h6
    have hnw : ¬ x.word = [97, 110, 100] := fun h => ha ⟨h6, h⟩
    have h0 : 0 < x.kids.length := by omega
    have h1 : 1 < x.kids.length := by omega
    have e9 : codeN x = chC (codeN x.kids[0]) (fun _ => [⟨2, 1⟩]) (codeN x.kids[1]) := by
      funext p
      rw [hcN, combC, if_neg hcl, if_neg h9, if_neg ha, if_pos ⟨h6, hw⟩, hgD 0 h0, hgD 1 h1]
    rw [e9] at hl ⊢
    repeat' (first | refine W1 ?_ | (exfalso; omega) | refine WL_split rfl rfl (fun hg => ?_) (fun hg => ?_) | refine WL_splitB rfl rfl (fun hg => ?_) (fun hg => ?_) | refine WC_cond rfl (fun hc => ?_) (fun hc => ?_) | refine WC_condB rfl (fun hc => ?_) (fun hc => ?_))
    all_goals first
      | (exfalso; contradiction)
      | skip
    refine WC_drawn 12 [] [] [(0, 0), (1, 1), (2, 0), (3, 1), (4, 0), (5, 0), (6, 1), (7, 0), (8, 1), (9, 0), (10, 2), (11, 0)] rfl mixed (by kernel_rfl) (by kernel_rfl) (by kernel_rfl) (fun w1 hS1 => ?_)
    replace hs := hs.up hS1
    replace hblk := hblk.up hS1
    replace hS := hS.trans hS1
    obtain ⟨u0, s0, d0⟩ := hs.nd h0
    obtain ⟨u1, s1, d1⟩ := hs.nd h1
    refine D ?_
    refine WD_read rfl trivial (fun w' hS' => PR_loadNd rfl rfl (hs.on hS' (fun _ h => h)) h0 (fun j u hj => cell_on hs h0 hS' (d0 j u hj))) rfl ?_
    refine D ?_
    apply WD_op
    exact rfl
    apply WO_build (vs := [(0, .int .i64 2), (1, .int .i64 1)])
    exact trivial
    exact rfl
    exact buildNb1
    exact rfl
    refine D ?_
    refine WD_read rfl trivial (fun w' hS' => PR_loadNd rfl rfl (hs.on hS' (fun _ h => h)) h1 (fun j u hj => cell_on hs h1 hS' (d1 j u hj))) rfl ?_
    refine D ?_
    refine WD_eff rfl trivial (OE_call rfl (evs4 rfl rfl rfl rfl) (choiceR_any (hcs 0 h0) (codeBool 1) (hcs 1 h1) _ _ _ _ p _ rfl ⟨u0, rfl, s0⟩ ⟨_, rfl, nilSlv _ _⟩ ⟨u1, rfl, s1⟩ hl)) (fun _ _ h => h.2) rfl ?_
    rintro _ w5 hq
    refine D ?_
    refine W ?_
    first | refine WQ_ret1 rfl rfl ?_ | refine WQ_ret2 rfl rfl rfl ?_ | refine WQ_ret3 rfl rfl rfl rfl ?_ | refine WQ_ret0 rfl ?_ | refine WQ_end0 rfl ?_
    exact .mk (hq.pre hS)
  have hcp := combC_plainO (x := x) _ p hcl h9 ha ho
  rw [hcN, hcp] at hl ⊢
  have hcm : (x.kids.map codeN).length = x.kids.length := by simp
  generalize hO : plainO x.kind x.word = O at *
  rw [List.length_append, insO_len] at hl
  have main : ∀ r w', RwI wA w' r (seqC (x.kids.map codeN) p ++ insO O) → RwI w w' r (seqC (x.kids.map codeN) p ++ insO O) := fun r w' h => h.pre hS
  repeat' (first | refine W1 ?_ | (exfalso; omega) | refine WL_split rfl rfl (fun hg => ?_) (fun hg => ?_) | refine WL_splitB rfl rfl (fun hg => ?_) (fun hg => ?_) | refine WC_cond rfl (fun hc => ?_) (fun hc => ?_) | refine WC_condB rfl (fun hc => ?_) (fun hc => ?_))
  all_goals first
    | (exfalso; first | exact ha ⟨by assumption, by assumption⟩ | exact ho ⟨by assumption, by assumption⟩)
    | skip
  all_goals
    refine WC_loop (σ := Nat × Value) (fun q => [(1, .int .i64 (p : Int)), (2, .pointer (some ⟨b, 0, none⟩)), (5, q.2), (6, .int .i64 (q.1 : Int))]) (fun q w' => q.1 ≤ x.kids.length ∧ RwI wA w' q.2 (seqC ((x.kids.map codeN).take q.1) p)) (fun q => x.kids.length - q.1) (0, .slice none 0 0) ⟨rfl, rfl, rfl, rfl, trivial⟩ ⟨Nat.zero_le _, by simpa [seqC] using RowF.nil⟩ ?_
    rintro ⟨j, v⟩ w2 ⟨hj, hr⟩
    dsimp only at hj hr ⊢
    have hsl := hr.slv (X := []) (by simp)
    have hs2 := hs.up hr.2
    have hb2 := hblk.up hr.2
    by_cases hlt : j < x.kids.length
    · obtain ⟨kv2, hk2, hc2⟩ := hs2.nd hlt
      have hst := seqC_step (x.kids.map codeN) p j (by omega)
      have hle := seqC_le (x.kids.map codeN) p (j + 1)
      have hle0 := seqC_le (x.kids.map codeN) p j
      rw [hst, List.length_append] at hle
      rw [List.getElem_map] at hle hst
      repeat' (first | refine W1 ?_ | (exfalso; omega) | refine WL_split rfl rfl (fun hg => ?_) (fun hg => ?_) | refine WL_splitB rfl rfl (fun hg => ?_) (fun hg => ?_) | refine WC_cond rfl (fun hc => ?_) (fun hc => ?_) | refine WC_condB rfl (fun hc => ?_) (fun hc => ?_))
      apply WL_pure (PR_loadNd rfl rfl hs2 hlt hc2) rfl
      refine W ?_
      generalize hA : seqC ((x.kids.map codeN).take j) p = A at *
      refine WL_eff (OE_call rfl (evs2 rfl rfl) (hcs j hlt _ _ (p + A.length) _ (by omega) ⟨kv2, rfl, hk2⟩ (by omega))) rfl ?_
      rintro u w3 hu
      have hus := hu.slv (X := ob v) (fun b hb => (hr.ob_le b hb).2)
      replace hr := hr.up hu.2
      clear hu
      refine WL_eff (OE_appF rfl (by decide) rfl rfl hr hus (by omega) (by simp only [maxLen]; omega)) rfl ?_
      rintro v' w4 ⟨hr', -, -⟩
      refine W ?_
      refine WQ_loop (j + 1, v') ⟨rfl, rfl, rfl, rfl, trivial⟩ ⟨by dsimp only; omega, ?_⟩ (by dsimp only; omega)
      dsimp only
      rw [hst]
      exact hr'
    · have hje : j = (x.kids.map codeN).length := by omega
      subst hje
      rw [List.take_length] at hr hsl
      generalize seqC (x.kids.map codeN) p = A at *
      repeat' (first | refine W1 ?_ | (exfalso; omega) | refine WL_split rfl rfl (fun hg => ?_) (fun hg => ?_) | refine WL_splitB rfl rfl (fun hg => ?_) (fun hg => ?_) | refine WC_cond rfl (fun hc => ?_) (fun hc => ?_) | refine WC_condB rfl (fun hc => ?_) (fun hc => ?_))
      refine WL_eff (OE_call rfl (evs1 rfl) (simple_any (ob v) _ x _ (fun b hb => (hr.ob_le b hb).2) hsh h9 ha ho ⟨kv, rfl, hs2⟩)) rfl ?_
      rintro ov w3 ⟨hso, hT⟩
      rw [hO] at hso
      replace hr := hr.up hT
      clear hsl hs2 hb2
      have hOm := hso.max
      refine W ?_
      refine WC_loop (σ := Nat × Value) (fun q => [(5, q.2), (7, ov), (8, .int .i64 (q.1 : Int))]) (fun q w' => q.1 ≤ O.length ∧ RwI wA w' q.2 (A ++ insO (O.take q.1)) ∧ SlV (ob q.2) w' ov O) (fun q => O.length - q.1) (0, v) ⟨rfl, rfl, rfl, trivial⟩ ⟨Nat.zero_le _, by simpa [insO] using hr, hso⟩ ?_
      clear hr hso hT
      rintro ⟨i, v5⟩ w5 ⟨hi, hr, hso⟩
      dsimp only at hi hr hso ⊢
      by_cases hlt : i < O.length
      · have hln : (A ++ insO (O.take i)).length = A.length + i := by simp [insO]; omega
        repeat' (first | refine W1 ?_ | (exfalso; omega) | refine WL_split rfl rfl (fun hg => ?_) (fun hg => ?_) | refine WL_splitB rfl rfl (fun hg => ?_) (fun hg => ?_) | refine WC_cond rfl (fun hc => ?_) (fun hc => ?_) | refine WC_condB rfl (fun hc => ?_) (fun hc => ?_))
        apply WL_build (vs := [(0, .int .i64 _)]) rfl (buildI0 _) rfl
        refine WL_eff (OE_buildSlice (vs := [(0, agg (Ins.mk O[i] 0))]) rfl (buildSI _)) rfl ?_
        rintro u w6 hN6
        have hu : SlV (ob v5) w6 u [Ins.mk O[i] 0] := hN6.slv (fun b hb => (hr.ob_le b hb).2) rfl rfl (by simp [maxLen])
        have hT := NewSl.stp hN6
        clear hN6
        replace hr := hr.up hT
        replace hso := hso.up hT
        refine WL_eff (OE_appF rfl (by decide) rfl rfl hr hu (by rw [hln]; simp only [List.length_cons, List.length_nil]; omega) (by rw [hln]; simp only [List.length_cons, List.length_nil, maxLen]; omega)) rfl ?_
        rintro v7 w7 ⟨hr', hS7, hob⟩
        refine W ?_
        refine WQ_loop (i + 1, v7) ⟨rfl, rfl, rfl, trivial⟩ ⟨by dsimp only; omega, ?_, hso.ext hS7 (fun _ h => h) hob⟩ (by dsimp only; omega)
        dsimp only
        rw [List.take_succ_eq_append_getElem hlt]
        unfold insO at hr' ⊢
        rw [List.map_append, ← List.append_assoc]
        exact hr'
      · have hie : i = O.length := by omega
        subst hie
        rw [List.take_length] at hr
        repeat' (first | refine W1 ?_ | (exfalso; omega) | refine WL_split rfl rfl (fun hg => ?_) (fun hg => ?_) | refine WL_splitB rfl rfl (fun hg => ?_) (fun hg => ?_) | refine WC_cond rfl (fun hc => ?_) (fun hc => ?_) | refine WC_condB rfl (fun hc => ?_) (fun hc => ?_))
        first | refine WQ_ret1 rfl rfl ?_ | refine WQ_ret2 rfl rfl rfl ?_ | refine WQ_ret3 rfl rfl rfl rfl ?_ | refine WQ_ret0 rfl ?_ | refine WQ_end0 rfl ?_
        exact .mk (main _ _ hr)
end Go.Proofs.YtfjmlobgjdmecaaDoor
namespace Go.Proofs.YtfjmlobgjdmecaaDoor
open Go Go.Eng Go.RowKit
set_option linter.unusedVariables false

theorem ExpressionR_any (v : Value) (x : Nd) (w : World) (hsz : sizeN x ≤ 1000) (hnest : nestN x ≤ 1000000) (hx : NdV [] w v x) :
    Calls Tryd.prog 17 #[v] w (Ret (ExprR w x)) := by
  have hN := hx
  obtain ⟨kv, rfl, hs⟩ := hx
  refine calls_of_WC1 (n := 24) Tryd.func17 rfl rfl rfl ?_
  refine W ?_
  refine WL_eff (OE_box rfl) rfl ?_
  rintro _ w1 ⟨b, rfl, hb, hblk, hS⟩
  replace hblk : Blk w1 b _ (ndC x kv) := hblk
  replace hs := hs.up hS; replace hN := hN.up hS
  refine W ?_
  refine WL_eff (OE_call rfl (evs1 rfl) (Of14_any [] _ x _ (okN_of_size x hsz) hnest hN)) rfl ?_
  rintro _ w2 ⟨rfl, hS2⟩
  replace hs := hs.up hS2; replace hN := hN.up hS2; replace hblk := hblk.up hS2
  replace hS := hS.trans hS2
  by_cases hn : nestN x ≤ 12
  case neg =>
    rw [if_neg hn, if_neg hn]
    have he : errX x = 2 := by rw [errX, if_neg hn]
    repeat' (first | refine W1 ?_ | (exfalso; omega) | refine WL_split rfl rfl (fun hg => ?_) (fun hg => ?_) | refine WL_splitB rfl rfl (fun hg => ?_) (fun hg => ?_) | refine WC_cond rfl (fun hc => ?_) (fun hc => ?_) | refine WC_condB rfl (fun hc => ?_) (fun hc => ?_))
    first | refine WQ_ret1 rfl rfl ?_ | refine WQ_ret2 rfl rfl rfl ?_ | refine WQ_ret3 rfl rfl rfl rfl ?_ | refine WQ_ret0 rfl ?_ | refine WQ_end0 rfl ?_
    refine .mk ⟨_, by rw [he]; rfl, fun X hX => ?_, hS⟩
    rw [he, if_neg (by decide)]
    exact nilSlv _ _
  by_cases ht : typeT x = 0
  · rw [if_pos hn, if_pos hn, if_pos ht]
    have he : errX x = 21 := by rw [errX, if_pos hn, if_pos ht]
    repeat' (first | refine W1 ?_ | (exfalso; omega) | refine WL_split rfl rfl (fun hg => ?_) (fun hg => ?_) | refine WL_splitB rfl rfl (fun hg => ?_) (fun hg => ?_) | refine WC_cond rfl (fun hc => ?_) (fun hc => ?_) | refine WC_condB rfl (fun hc => ?_) (fun hc => ?_))
    first | refine WQ_ret1 rfl rfl ?_ | refine WQ_ret2 rfl rfl rfl ?_ | refine WQ_ret3 rfl rfl rfl rfl ?_ | refine WQ_ret0 rfl ?_ | refine WQ_end0 rfl ?_
    refine .mk ⟨_, by rw [he]; rfl, fun X hX => ?_, hS⟩
    rw [he, if_neg (by decide)]
    exact nilSlv _ _
  rw [if_pos hn, if_pos hn, if_neg ht]
  have hlen := codeN_len x 0
  repeat' (first | refine W1 ?_ | (exfalso; omega) | refine WL_split rfl rfl (fun hg => ?_) (fun hg => ?_) | refine WL_splitB rfl rfl (fun hg => ?_) (fun hg => ?_) | refine WC_cond rfl (fun hc => ?_) (fun hc => ?_) | refine WC_condB rfl (fun hc => ?_) (fun hc => ?_))
  refine WL_eff (OE_call rfl (evs2 rfl rfl) (code_ok x ht _ _ 0 0 rfl hN (by omega))) rfl ?_
  rintro v3 w3 hr
  apply WL_build (vs := [(0, .int .i64 24)]) rfl (buildI0 _) rfl
  refine WL_eff (OE_buildSlice (vs := [(0, agg (Ins.mk 24 0))]) rfl (buildSI _)) rfl ?_
  rintro u w4 hN4
  have hu : SlV (ob v3) w4 u [Ins.mk 24 0] := hN4.slv (fun b hb => (hr.ob_le b hb).2) rfl rfl (by simp [maxLen])
  have hT := NewSl.stp hN4
  clear hN4
  replace hr := hr.up hT
  refine WL_eff (OE_appF rfl (by decide) rfl rfl hr hu (by simp only [List.length_cons, List.length_nil]; omega) (by simp only [List.length_cons, List.length_nil, maxLen]; omega)) rfl ?_
  clear hu hr hT
  rintro v5 w5 ⟨hr, -, -⟩
  replace hr := hr.pre hS
  replace hr : RwI w w5 v5 (exprF x) := hr
  have hslv := hr.slv (X := []) (by simp)
  by_cases hg : (exprF x).length > 200
  · have he : errX x = 2 := by rw [errX, if_pos hn, if_neg ht, if_pos hg]
    repeat' (first | refine W1 ?_ | (exfalso; omega) | refine WL_split rfl rfl (fun hg => ?_) (fun hg => ?_) | refine WL_splitB rfl rfl (fun hg => ?_) (fun hg => ?_) | refine WC_cond rfl (fun hc => ?_) (fun hc => ?_) | refine WC_condB rfl (fun hc => ?_) (fun hc => ?_))
    first | refine WQ_ret1 rfl rfl ?_ | refine WQ_ret2 rfl rfl rfl ?_ | refine WQ_ret3 rfl rfl rfl rfl ?_ | refine WQ_ret0 rfl ?_ | refine WQ_end0 rfl ?_
    refine .mk ⟨_, by rw [he], fun X hX => ?_, hr.2⟩
    rw [he, if_neg (by decide)]
    exact nilSlv _ _
  · have he : errX x = 0 := by rw [errX, if_pos hn, if_neg ht, if_neg hg]
    repeat' (first | refine W1 ?_ | (exfalso; omega) | refine WL_split rfl rfl (fun hg => ?_) (fun hg => ?_) | refine WL_splitB rfl rfl (fun hg => ?_) (fun hg => ?_) | refine WC_cond rfl (fun hc => ?_) (fun hc => ?_) | refine WC_condB rfl (fun hc => ?_) (fun hc => ?_))
    first | refine WQ_ret1 rfl rfl ?_ | refine WQ_ret2 rfl rfl rfl ?_ | refine WQ_ret3 rfl rfl rfl rfl ?_ | refine WQ_ret0 rfl ?_ | refine WQ_end0 rfl ?_
    refine .mk ⟨_, by rw [he], fun X hX => ?_, hr.2⟩
    rw [he, if_pos rfl]
    exact hr.slv hX
end Go.Proofs.YtfjmlobgjdmecaaDoor
namespace Go.Eng
open Go Go.RowKit Go.Proofs
set_option linter.unusedVariables false
theorem NewSl.slvG {α : Type} [GoRep α] {w w' : World} {X : List Nat} {T len : Nat} {cs : List Value} {v : Value} {ys : List α} {css : List (List Value)} (h : NewSl w T len cs v w') (hX : ∀ b ∈ X, b < w.heap.size) (hl : len = ys.length) (hcl : css.length = ys.length)
    (hc : cs = css.flatten) (hr : ∀ i (hi : i < ys.length) (hi' : i < css.length), GoRep.rep X w ys[i] css[i]) (hm : ys.length ≤ maxLen) : SlV X w' v ys := by
  obtain ⟨b, rfl, hb, hblk, hS⟩ := h
  subst hl
  subst hc
  have hk : ∀ c ∈ css, c.length = GoRep.k α := by
    intro c hc
    obtain ⟨i, hi, rfl⟩ := List.getElem_of_mem hc
    exact GoRep.len (hr i (by omega) hi)
  refine ⟨some ⟨b, 0, none⟩, ys.length, rfl, Nat.le_refl _, hm, fun h => by simp at h, fun i hi => ⟨b, 0, css[i]'(by omega), rfl, hblk.lt, fun hx => by have := hX b hx; omega, GoRep.ext (hr i hi (by omega)) hS (by simp) (fun b hb => .inl hb), fun j u hu => ?_⟩⟩
  refine hblk.cell ?_
  have := flatten_at css hk i (by omega) j u hu
  rw [Nat.zero_add]
  exact this
theorem SlV.wk {α : Type} [GoRep α] {X X' : List Nat} {w : World} {v : Value} {l : List α} (h : SlV X w v l) (hs : ∀ b ∈ X', b ∈ X) : SlV X' w v l := h.ext (Stp.refl [] w) (by simp) (fun b hb => .inl (hs b hb))
end Go.Eng
namespace Go.Proofs.YtfjmlobgjdmecaaDoor
open Go Go.Eng Go.RowKit
set_option linter.unusedVariables false

theorem nest_le_size (x : Nd) : nestN x ≤ sizeN x := by
  induction x using Nd.ind with
  | h k n s l ih =>
  rw [nestN_eq, sizeN_eq]
  show 1 + (l.map nestN).foldl max 0 ≤ 1 + (l.map sizeN).sum
  have : ∀ (l : List Nd) (a : Nat), (∀ x ∈ l, nestN x ≤ sizeN x) → (l.map nestN).foldl max a ≤ a + (l.map sizeN).sum := by
    intro l
    induction l with
    | nil => intro a _; simp
    | cons y r ihr =>
      intro a h
      simp only [List.map_cons, List.foldl_cons, List.sum_cons]
      have h1 := ihr (max a (nestN y)) (fun x hx => h x (by simp [hx]))
      have h2 := h y (by simp)
      omega
  have := this l 0 ih
  omega
theorem buildN3 (k n : Int) (s : Str) (w : World) : (Instr.build 24 #[(0, .int .i64 k), (1, .int .i64 n), (2, str s)]).run Tryd.prog w = .ok (.agg #[.int .i64 k, .int .i64 n, str s, .slice none 0 0]) w := by kernel_rfl
theorem buildSN1 (k n : Int) (s : Str) (p : Option Addr) (l c : Nat) (w : World) : (Instr.buildSlice 22 1 #[(0, .agg #[.int .i64 k, .int .i64 n, str s, .slice p l c])]).run Tryd.prog w = .ok (.slice (some ⟨w.heap.size, 0, none⟩) 1 1) (w.alloc (.cells #[.int .i64 k, .int .i64 n, str s, .slice p l c] 24)) := by kernel_rfl
def szs (ys : List Nd) : Nat := 1 + (ys.map sizeN).sum
theorem szs_app (ys : List Nd) (y : Nd) : szs (ys ++ [y]) = szs ys + sizeN y := by simp [szs]; omega
theorem szs_len (ys : List Nd) : ys.length < szs ys := by have := len_le_sum ys; unfold szs; omega
theorem pruned_any (x : Nd) : ∀ (X : List Nat) (v : Value) (w : World) (z mi : Int) (m : Nat), -1000 ≤ z → z ≤ 1000 → 1 ≤ m → m ≤ 400 → mi = (m : Int) → (∀ b ∈ X, b < w.heap.size) → NdV [] w v x →
    Calls Tryd.prog 52 #[v, .int .i64 z, .int .i64 mi] w (Ret fun r w' => ∃ u y, r = .tuple #[u, .int .i64 (sizeN y : Int)] ∧ NdV X w' u y ∧ sizeN y ≤ m ∧ Stp [] w w') := by
  induction x using Nd.ind with
  | h k n s l ih =>
  have hih : ∀ i (h : i < (Nd.mk k n s l).kids.length), ∀ (X : List Nat) (v : Value) (w : World) (z mi : Int) (m : Nat), -1000 ≤ z → z ≤ 1000 → 1 ≤ m → m ≤ 400 → mi = (m : Int) → (∀ b ∈ X, b < w.heap.size) → NdV [] w v (Nd.mk k n s l).kids[i] →
    Calls Tryd.prog 52 #[v, .int .i64 z, .int .i64 mi] w (Ret fun r w' => ∃ u y, r = .tuple #[u, .int .i64 (sizeN y : Int)] ∧ NdV X w' u y ∧ sizeN y ≤ m ∧ Stp [] w w') := fun i h => ih _ (List.getElem_mem h)
  generalize (Nd.mk k n s l) = x at *
  clear ih
  intro X v w z mi m hz1 hz2 hm1 hm2 hmi hX hx
  subst hmi
  obtain ⟨kv, rfl, hs⟩ := hx
  refine calls_of_WC3 (n := 65) Tryd.func52 rfl rfl rfl ?_
  refine W ?_
  refine WL_eff (OE_box rfl) rfl ?_
  rintro _ w1 ⟨b, rfl, hb, hblk, hS⟩
  replace hblk : Blk w1 b _ (ndC x kv) := hblk
  refine WL_eff OE_alloc rfl ?_
  rintro _ w2 ⟨b6, rfl, hb6, hblk6, hS2⟩
  replace hblk := hblk.up hS2
  replace hs := (hs.up hS).up hS2
  have hsz1 := hS.size
  replace hS := hS.trans hS2
  have hl6 := hblk6.lt
  have hlb := hblk.lt
  refine W ?_
  apply WL_build (vs := [(0, .int .i64 x.kind), (1, .int .i64 x.num), (2, str x.word)]) rfl (buildN3 _ _ _) rfl
  refine WL_eff OE_alloc rfl ?_
  rintro _ w3 ⟨b8, rfl, hb8, hblk8, hS3⟩
  refine WL_eff0 (OE_storeA (us := [.int .i64 x.kind, .int .i64 x.num, str x.word, .slice none 0 0]) rfl rfl rfl rfl (by simp; refine ⟨rfl, rfl, rfl, rfl⟩) hblk8 rfl) ?_
  rintro _ w4 ⟨hS4, hblk8⟩
  have hT : Stp [] w2 w4 := hS3.own hS4 (fun c hc => .inr (by simp at hc; omega))
  clear hS3 hS4
  have hlo : ∀ c ∈ b8 :: b6 :: X, c < w4.heap.size := fun c hc => by
    have h8 := hblk8.lt
    have := hT.size
    simp only [List.mem_cons] at hc
    rcases hc with rfl | rfl | hc
    · exact h8
    · omega
    · have := hX c hc
      have := hS.size
      omega
  refine W ?_
  refine WC_loop (σ := Nat × Value × List Nd) (fun q => [(1, .int .i64 z), (2, .int .i64 (m : Int)), (3, .pointer (some ⟨b, 0, none⟩)), (6, .pointer (some ⟨b6, 0, none⟩)), (8, .pointer (some ⟨b8, 0, none⟩)), (9, .int .i64 (szs q.2.2 : Int)), (10, .int .i64 (q.1 : Int))])
    (fun q w' => q.1 ≤ x.kids.length ∧ szs q.2.2 ≤ m ∧ Row (b8 :: b6 :: X) w' w4.heap.size 24 q.2.1 q.2.2 ∧ Blk w' b8 24 [.int .i64 x.kind, .int .i64 x.num, str x.word, q.2.1] ∧ Stp [] w2 w' ∧ w4.heap.size ≤ w'.heap.size) (fun q => x.kids.length - q.1) (0, .slice none 0 0, []) ⟨rfl, rfl, rfl, rfl, rfl, rfl, rfl, trivial⟩ ⟨Nat.zero_le _, by simpa [szs] using hm1, Row.nil, hblk8, hT, Nat.le_refl _⟩ ?_
  clear hblk8 hT
  rintro ⟨i, v, ys⟩ w5 ⟨hi, hsz, hrow, hblk8, hT, hsize⟩
  dsimp only at hi hsz hrow hblk8 ⊢
  have hs5 := hs.up hT
  have hb5 := hblk.up hT
  have hmax := hs.max
  by_cases hgo : i < x.kids.length ∧ i < 4 ∧ 1 < z ∧ szs ys < m
  · obtain ⟨hlt, h4, hz, hlm⟩ := hgo
    obtain ⟨kv2, hk2, hc2⟩ := hs5.nd hlt
    repeat' (first | refine W1 ?_ | (exfalso; omega) | refine WL_split rfl rfl (fun hg => ?_) (fun hg => ?_) | refine WL_splitB rfl rfl (fun hg => ?_) (fun hg => ?_) | refine WC_cond rfl (fun hc => ?_) (fun hc => ?_) | refine WC_condB rfl (fun hc => ?_) (fun hc => ?_))
    apply WL_pure (PR_loadNd rfl rfl hs5 hlt hc2) rfl
    refine W ?_
    have hobl := hrow.ob_le
    refine WL_eff (OE_call rfl (evs3 rfl rfl rfl) (hih i hlt (ob v ++ b8 :: b6 :: X) _ _ _ _ (m - szs ys) (by omega) (by omega) (by omega) (by omega) (by omega) (fun c hc => by
      rcases List.mem_append.1 hc with h | h
      · exact (hobl c h).2
      · have := hlo c h; omega) ⟨kv2, rfl, hk2⟩)) rfl ?_
    rintro _ w6 ⟨u, y, rfl, ⟨ky, rfl, hy⟩, hys, hT6⟩
    obtain ⟨py, cy, rfl, -⟩ := id hy
    refine W ?_
    refine WL_eff OE_alloc rfl ?_
    rintro _ w7 ⟨b11, rfl, hb11, hblk11, hT7⟩
    refine WL_eff0 (OE_storeA (us := ndC y _) rfl rfl rfl rfl (ndC_one hy) hblk11 rfl) ?_
    rintro _ w8 ⟨hT8, hblk11⟩
    have hT68 : Stp [] w6 w8 := hT7.own hT8 (fun c hc => .inr (by simp at hc; omega))
    clear hT7 hT8
    have hT58 := hT6.trans hT68
    replace hy := hy.up hT68
    replace hrow := hrow.up hT58
    replace hblk8 := hblk8.up hT58
    replace hT := hT.trans hT58
    replace hsize := Nat.le_trans hsize hT58.size
    clear hT6 hT68 hT58
    refine W ?_
    refine WL_eff (OE_buildSlice (vs := [(0, .agg #[.int .i64 y.kind, .int .i64 y.num, str y.word, .slice py y.kids.length cy])]) rfl (buildSN1 _ _ _ _ _ _)) rfl ?_
    rintro bv w9 hN
    have hbv : SlV (ob v ++ b8 :: b6 :: X) w9 bv [y] := hN.slvG (css := [ndC y _]) (fun c hc => by
      rcases List.mem_append.1 hc with h | h
      · exact (hrow.ob_le c h).2
      · have := hlo c h; omega) rfl rfl rfl (fun i hi hi' => by
        have : i = 0 := by simp at hi; exact hi
        subst this
        show NRep _ _ y _
        rw [y.eta]
        exact slv_nrep hy) (by simp [maxLen])
    have hT9 := NewSl.stp hN
    clear hN
    replace hrow := hrow.up hT9
    replace hblk8 := hblk8.up hT9
    replace hT := hT.trans hT9
    replace hsize := Nat.le_trans hsize hT9.size
    clear hT9
    have hyl := szs_len ys
    refine WL_eff (OE_append (X := b8 :: b6 :: X) (base := w4.heap.size) rfl (by decide) rfl rfl hrow hbv (by simp only [List.length_cons, List.length_nil]; omega) (by simp only [List.length_cons, List.length_nil, maxLen]; omega) hsize) rfl ?_
    rintro v' w10 ⟨hrow', hT10, hob⟩
    have n8 : b8 ∉ ob v := fun h => by have := (hrow.ob_le b8 h).1; have := hlo b8 (by simp); omega
    replace hblk8 := hblk8.ext hT10 n8
    have hob4 : ∀ c ∈ ob v, w2.heap.size ≤ c := fun c h => by have := (hrow.ob_le c h).1; have := hlo b8 (by simp); omega
    replace hT := hT.own hT10 (fun c h => .inr (hob4 c h))
    replace hsize := Nat.le_trans hsize hT10.size
    clear hT10 hob hbv hrow
    have n8' : b8 ∉ ob v' := fun h => by have := (hrow'.ob_le b8 h).1; have := hlo b8 (by simp); omega
    have hsl' := hrow'.slv hlo
    refine W ?_
    refine WL_eff0 (OE_store1 (u := v') rfl rfl hsl'.cells hsl'.one hblk8 (by simp)) ?_
    rintro _ w11 ⟨hT11, hblk8⟩
    replace hrow' := hrow'.ext (X' := b8 :: b6 :: X) hT11 (fun c hc => by simp at hc; subst hc; exact ⟨by simp, n8'⟩) (fun c hc => .inl hc)
    replace hT := hT.own hT11 (fun c hc => .inr (by simp at hc; omega))
    replace hsize := Nat.le_trans hsize hT11.size
    have hza := szs_app ys y
    refine W ?_
    refine WQ_loop (i + 1, v', ys ++ [y]) ⟨rfl, rfl, rfl, rfl, rfl, ?_, rfl, trivial⟩ ⟨hlt, by dsimp only; omega, hrow', hblk8, hT, hsize⟩ (by dsimp only; omega)
    rw [hza, Int.natCast_add]
    rfl
  · repeat' (first | refine W1 ?_ | (exfalso; omega) | refine WL_split rfl rfl (fun hg => ?_) (fun hg => ?_) | refine WL_splitB rfl rfl (fun hg => ?_) (fun hg => ?_) | refine WC_cond rfl (fun hc => ?_) (fun hc => ?_) | refine WC_condB rfl (fun hc => ?_) (fun hc => ?_))
    all_goals
      refine WL_eff0 (OE_storeA (us := [.int .i64 x.kind, .int .i64 x.num, str x.word, v]) rfl rfl rfl rfl (ndC_one (x := x) (hrow.slv hlo)) (hblk6.up hT) rfl) ?_
      rintro _ w6 ⟨hT6, hblk6'⟩
      refine W ?_
      refine WQ_retct rfl rfl rfl hblk6' rfl rfl ?_
      refine .mk ⟨_, .mk x.kind x.num x.word ys, by rw [sizeN_eq]; rfl, ⟨v, rfl, ?_⟩, by rw [sizeN_eq]; exact hsz, (hS.trans hT).own hT6 (fun c hc => .inr (by simp at hc; omega))⟩
      have := (hrow.slv (fun c hc => hlo c hc)).ext (X' := b6 :: X) hT6 (fun c hc => by simp at hc; simp [hc]) (fun c hc => .inl (List.mem_cons_of_mem _ hc))
      exact this.wk (fun c hc => List.mem_cons_of_mem _ hc)
theorem Pruned_any (X : List Nat) (v : Value) (x : Nd) (w : World) (z : Int) (hz1 : -1000 ≤ z) (hz2 : z ≤ 1000) (hX : ∀ b ∈ X, b < w.heap.size) (hx : NdV [] w v x) :
    Calls Tryd.prog 15 #[v, .int .i64 z] w (Ret fun r w' => ∃ y, NdV X w' r y ∧ sizeN y ≤ 400 ∧ Stp [] w w') := by
  obtain ⟨kv, rfl, hs⟩ := hx
  refine calls_of_WC2 (n := 14) Tryd.func15 rfl rfl rfl ?_
  refine W ?_
  refine WL_eff (OE_box rfl) rfl ?_
  rintro _ w1 ⟨b, rfl, hb, hblk, hS⟩
  replace hblk : Blk w1 b _ (ndC x kv) := hblk
  refine WL_eff OE_alloc rfl ?_
  rintro _ w2 ⟨b4, rfl, hb4, hblk4, hS2⟩
  replace hblk := hblk.up hS2
  replace hs := (hs.up hS).up hS2
  have hsz1 := hS.size
  replace hS := hS.trans hS2
  have hl4 := hblk4.lt
  refine W ?_
  refine WL_eff (OE_call rfl (evs3 rfl rfl rfl) (pruned_any x (b4 :: X) _ _ _ _ 400 hz1 hz2 (by decide) (by decide) rfl (fun c hc => by
    rcases List.mem_cons.1 hc with rfl | h
    · exact hl4
    · have := hX c h; have := hS.size; omega) ⟨kv, rfl, hs⟩)) rfl ?_
  rintro _ w3 ⟨u, y, rfl, ⟨ky, rfl, hy⟩, hys, hT⟩
  refine W ?_
  refine WL_eff OE_alloc rfl ?_
  rintro _ w4 ⟨b5, rfl, hb5, hblk5, hS4⟩
  refine WL_eff0 (OE_storeA (us := ndC y ky) rfl rfl rfl rfl (ndC_one hy) hblk5 rfl) ?_
  rintro _ w5 ⟨hS5, hblk5⟩
  have hT35 : Stp [] w3 w5 := hS4.own hS5 (fun c hc => .inr (by simp at hc; omega))
  replace hblk4 := (hblk4.up hT).up hT35
  replace hy := hy.up hT35
  replace hS := (hS.trans hT).trans hT35
  clear hS4 hS5 hT35 hT
  refine W ?_
  refine WL_eff0 (OE_storeA (us := ndC y ky) rfl rfl rfl rfl (ndC_one hy) hblk4 rfl) ?_
  rintro _ w6 ⟨hS6, hblk4⟩
  refine W ?_
  refine WQ_retc rfl rfl rfl hblk4 rfl ?_
  refine .mk ⟨y, ⟨ky, rfl, ?_⟩, hys, hS.own hS6 (fun c hc => .inr (by simp at hc; omega))⟩
  exact (hy.ext (X' := b4 :: X) hS6 (fun c hc => by simp at hc; simp [hc]) (fun c hc => .inl hc)).wk (fun c hc => List.mem_cons_of_mem _ hc)
end Go.Proofs.YtfjmlobgjdmecaaDoor
namespace Go.Proofs.YtfjmlobgjdmecaaDoor
open Go Go.Eng Go.RowKit
set_option linter.unusedVariables false

theorem Around01_any (z : Int) (m : Int) (w : World) (hm : 0 < m) (hz : I64 z) : Calls Tryd.prog 39 #[.int .i64 z, .int .i64 m] w (Ret fun r w' => r = .int .i64 ((if z < 0 then -(z + 1) else z) % m) ∧ Stp [] w w') := by
  unfold I64 at hz
  refine calls_of_WC2 (n := 13) Tryd.func39 rfl rfl rfl ?_
  by_cases h : z < 0
  · repeat' (first | refine W1 ?_ | (exfalso; omega) | refine WL_split rfl rfl (fun hg => ?_) (fun hg => ?_) | refine WL_splitB rfl rfl (fun hg => ?_) (fun hg => ?_) | refine WC_cond rfl (fun hc => ?_) (fun hc => ?_) | refine WC_condB rfl (fun hc => ?_) (fun hc => ?_))
    first | refine WQ_ret1 rfl rfl ?_ | refine WQ_ret2 rfl rfl rfl ?_ | refine WQ_ret3 rfl rfl rfl rfl ?_ | refine WQ_ret0 rfl ?_ | refine WQ_end0 rfl ?_
    exact .mk ⟨by rw [if_pos h], Stp.refl _ _⟩
  · repeat' (first | refine W1 ?_ | (exfalso; omega) | refine WL_split rfl rfl (fun hg => ?_) (fun hg => ?_) | refine WL_splitB rfl rfl (fun hg => ?_) (fun hg => ?_) | refine WC_cond rfl (fun hc => ?_) (fun hc => ?_) | refine WC_condB rfl (fun hc => ?_) (fun hc => ?_))
    first | refine WQ_ret1 rfl rfl ?_ | refine WQ_ret2 rfl rfl rfl ?_ | refine WQ_ret3 rfl rfl rfl rfl ?_ | refine WQ_ret0 rfl ?_ | refine WQ_end0 rfl ?_
    exact .mk ⟨by rw [if_neg h], Stp.refl _ _⟩
theorem around_range (z m : Int) (hm : 0 < m) : 0 ≤ z % m ∧ z % m < m := ⟨Int.emod_nonneg _ (by omega), Int.emod_lt_of_pos _ hm⟩
/-- an int list in memory: each of its numbers fits -/
theorem Pick01_any (X : List Nat) (v : Value) (l : List Int) (i m : Int) (w : World) (hm : 0 < m) (hi : I64 i) (hs : SlV X w v l) (hl : ∀ a ∈ l, I64 a) : Calls Tryd.prog 40 #[v, .int .i64 i, .int .i64 m] w (Ret fun r w' => ∃ q : Nat, r = .int .i64 (q : Int) ∧ (q : Int) < m ∧ Stp [] w w') := by
  unfold I64 at hi
  have hmax := hs.max
  refine calls_of_WC3 (n := 21) Tryd.func40 rfl rfl rfl ?_
  refine W ?_
  by_cases hgo : 0 ≤ i ∧ i < l.length
  · obtain ⟨h0, h1⟩ := hgo
    obtain ⟨k, rfl⟩ : ∃ k : Nat, i = (k : Int) := ⟨i.toNat, by omega⟩
    have hk : k < l.length := by omega
    repeat' (first | refine W1 ?_ | (exfalso; omega) | refine WL_split rfl rfl (fun hg => ?_) (fun hg => ?_) | refine WL_splitB rfl rfl (fun hg => ?_) (fun hg => ?_) | refine WC_cond rfl (fun hc => ?_) (fun hc => ?_) | refine WC_condB rfl (fun hc => ?_) (fun hc => ?_))
    refine WL_eff (OE_call rfl (evs2 rfl rfl) (Around01_any _ m _ hm (hl _ (List.getElem_mem hk)))) rfl ?_
    rintro _ w2 ⟨rfl, hS⟩
    refine W ?_
    first | refine WQ_ret1 rfl rfl ?_ | refine WQ_ret2 rfl rfl rfl ?_ | refine WQ_ret3 rfl rfl rfl rfl ?_ | refine WQ_ret0 rfl ?_ | refine WQ_end0 rfl ?_
    have := around_range (if l[k] < 0 then -(l[k] + 1) else l[k]) m hm
    exact .mk ⟨_, by rw [Int.toNat_of_nonneg this.1], by rw [Int.toNat_of_nonneg this.1]; exact this.2, hS⟩
  · repeat' (first | refine W1 ?_ | (exfalso; omega) | refine WL_split rfl rfl (fun hg => ?_) (fun hg => ?_) | refine WL_splitB rfl rfl (fun hg => ?_) (fun hg => ?_) | refine WC_cond rfl (fun hc => ?_) (fun hc => ?_) | refine WC_condB rfl (fun hc => ?_) (fun hc => ?_))
    all_goals first
      | (first | refine WQ_ret1 rfl rfl ?_ | refine WQ_ret2 rfl rfl rfl ?_ | refine WQ_ret3 rfl rfl rfl rfl ?_ | refine WQ_ret0 rfl ?_ | refine WQ_end0 rfl ?_
         exact .mk ⟨0, rfl, by simpa using hm, Stp.refl _ _⟩)
theorem buildN023 (k : Int) (s : Str) (p : Option Addr) (l c : Nat) (w : World) : (Instr.build 24 #[(0, .int .i64 k), (2, str s), (3, .slice p l c)]).run Tryd.prog w = .ok (.agg #[.int .i64 k, .int .i64 0, str s, .slice p l c]) w := by kernel_rfl
theorem node14_any (X : List Nat) (k : Int) (s : Str) (kv : Value) (kids : List Nd) (w : World) (hX : ∀ b ∈ X, b < w.heap.size) (hs : SlV X w kv kids) : Calls Tryd.prog 100 #[.int .i64 k, str s, kv] w (Ret fun r w' => NdV X w' r (.mk k 0 s kids) ∧ Stp [] w w') := by
  obtain ⟨p, c, rfl, -⟩ := id hs
  refine calls_of_WC3 (n := 11) Tryd.func100 rfl rfl rfl ?_
  refine W ?_
  refine WL_eff OE_alloc rfl ?_
  rintro _ w1 ⟨b, rfl, hb, hblk, hS⟩
  refine W ?_
  apply WL_build (vs := [(0, .int .i64 k), (2, str s), (3, .slice p kids.length c)]) rfl (buildN023 _ _ _ _ _) rfl
  refine WL_eff0 (OE_storeA (us := ndC (.mk k 0 s kids) (.slice p kids.length c)) rfl rfl rfl rfl (ndC_one hs) hblk rfl) ?_
  rintro _ w2 ⟨hS2, hblk2⟩
  have hT := hS.own hS2 (fun c hc => .inr (by simp at hc; omega))
  refine W ?_
  refine WQ_retc rfl rfl rfl hblk2 rfl ?_
  exact .mk ⟨⟨_, rfl, hs.up hT⟩, hT⟩
end Go.Proofs.YtfjmlobgjdmecaaDoor
namespace Go.Proofs.YtfjmlobgjdmecaaDoor
open Go Go.Eng Go.RowKit
set_option linter.unusedVariables false

/-- a maker: its block holds the numbers and how many it has used -/
abbrev Mk (w : World) (bm : Nat) (lv : Value) (i : Nat) : Prop := Blk w bm 90 [lv, .int .i64 (i : Int)]
theorem Next_any (bm : Nat) (lv : Value) (l : List Int) (i : Nat) (n : Int) (w : World) (hn : 0 < n) (hi : i ≤ 1000000) (hb : Mk w bm lv i) (hs : SlV [bm] w lv l) (hl : ∀ a ∈ l, I64 a) :
    Calls Tryd.prog 68 #[.pointer (some ⟨bm, 0, none⟩), .int .i64 n] w (Ret fun r w' => ∃ q : Nat, r = .int .i64 (q : Int) ∧ (q : Int) < n ∧ Mk w' bm lv (i + 1) ∧ Stp [bm] w w') := by
  refine calls_of_WC2 (n := 23) Tryd.func68 rfl rfl rfl ?_
  refine W ?_
  refine WL_eff0 (OE_store1 (u := .int .i64 ((i : Int) + 1)) rfl rfl rfl rfl hb (by simp)) ?_
  rintro _ w1 ⟨hS1', hb1⟩
  replace hb1 : Mk w1 bm lv (i + 1) := hb1
  replace hs := hs.ext hS1' (fun _ h => h) (fun _ h => .inl h)
  replace hs : SlV [] w1 lv l := hs.wk (by simp)
  refine W ?_
  refine WC_drawn 12 [] [] [(0, 0), (1, 0), (2, 0), (3, 1), (4, 0), (5, 0), (6, 0), (7, 1), (8, 0), (9, 0), (10, 2), (11, 0)] rfl mixed (by kernel_rfl) (by kernel_rfl) (by kernel_rfl) (fun w1 hS1 => ?_)
  replace hb1 := hb1.up hS1
  replace hs := hs.up hS1
  refine D ?_
  refine WD_eff rfl trivial (OE_call rfl (evs3 rfl rfl rfl) (Pick01_any [] _ l _ n _ hn (by unfold I64; omega) hs hl)) (fun _ _ h => h.choose_spec.2.2) rfl ?_
  rintro _ w3 ⟨q, rfl, hq, hS3⟩
  replace hb1 := hb1.up hS3
  refine D ?_
  refine W ?_
  first | refine WQ_ret1 rfl rfl ?_ | refine WQ_ret2 rfl rfl rfl ?_ | refine WQ_ret3 rfl rfl rfl rfl ?_ | refine WQ_ret0 rfl ?_ | refine WQ_end0 rfl ?_
  exact .mk ⟨q, rfl, hq, hb1, (hS1'.trans (hS1.mono (by simp))).trans (hS3.mono (by simp))⟩
end Go.Proofs.YtfjmlobgjdmecaaDoor
namespace Go.Proofs.YtfjmlobgjdmecaaDoor
open Go Go.Eng Go.RowKit
set_option linter.unusedVariables false

def szD : Nat → Nat
  | 0 => 0
  | d + 1 => 1 + 3 * szD d
theorem szD_eq {d : Nat} (h : 1 ≤ d) : szD d = 1 + 3 * szD (d - 1) := by
  cases d with
  | zero => omega
  | succ d => rfl
theorem szD_mono {a b : Nat} (h : a ≤ b) : szD a ≤ szD b := by
  induction b generalizing a with
  | zero => simp at h; subst h; exact Nat.le_refl _
  | succ b ih =>
    rcases Nat.lt_or_ge a (b + 1) with h1 | h1
    · have := ih (a := a) (by omega)
      show szD a ≤ 1 + 3 * szD b
      omega
    · have : a = b + 1 := by omega
      subst this
      exact Nat.le_refl _
/-- the type of what a maker's method gives -/
def tyG (f : Nat) : Int := if f = 58 then 1 else if f = 57 then 2 else 3
/-- a maker's method gives a node -/
def GenP (f : Nat) (d : Nat) : Prop := ∀ (X : List Nat) (w : World) (bm : Nat) (lv : Value) (l : List Int) (i : Nat) (z : Int), z = (d : Int) → Mk w bm lv i → SlV [bm] w lv l → (∀ a ∈ l, I64 a) → i + 2 * szD d ≤ 100000 → (∀ b ∈ X, b < w.heap.size) →
  Calls Tryd.prog f #[.pointer (some ⟨bm, 0, none⟩), .int .i64 z] w (Ret fun r w' => ∃ y i', NdV X w' r y ∧ sizeN y ≤ szD d ∧ (typeT y = tyG f ∧ nestN y ≤ d) ∧ Mk w' bm lv i' ∧ i' ≤ i + 2 * szD d ∧ Stp [bm] w w')
/-- a maker at work, the cell of the result beside it -/
structure G (X : List Nat) (w0 w : World) (bm b4 : Nat) (lv : Value) (l : List Int) (i : Nat) : Prop where
  mkr : Mk w bm lv i
  sl : SlV [bm] w lv l
  stp : Stp [bm] w0 w
  blk : ∃ cs : List Value, cs.length = 4 ∧ Blk w b4 24 cs
  ne : b4 ≠ bm
  hX : ∀ b ∈ X, b < w.heap.size
theorem G.nxt {X : List Nat} {w0 w w' : World} {bm b4 : Nat} {lv : Value} {l : List Int} {i i' : Nat} (h : G X w0 w bm b4 lv l i) (hm : Mk w' bm lv i') (hS : Stp [bm] w w') : G X w0 w' bm b4 lv l i' :=
  ⟨hm, h.sl.ext hS (fun _ h => h) (fun _ h => .inl h), h.stp.trans hS, h.blk.imp (fun cs hc => ⟨hc.1, hc.2.ext hS (by simpa using h.ne)⟩), h.ne, fun b hb => Nat.lt_of_lt_of_le (h.hX b hb) hS.size⟩
theorem G.up {X : List Nat} {w0 w w' : World} {bm b4 : Nat} {lv : Value} {l : List Int} {i : Nat} (h : G X w0 w bm b4 lv l i) (hS : Stp [] w w') : G X w0 w' bm b4 lv l i :=
  h.nxt (h.mkr.up hS) (hS.mono (by simp))
theorem G.fin {X : List Nat} {w0 w1 w w' : World} {bm b4 : Nat} {lv : Value} {l : List Int} {i : Nat} {y : Nd} {ky : Value} (h : G (b4 :: bm :: X) w1 w bm b4 lv l i) (hw : Stp [] w0 w1) (hb : w0.heap.size ≤ b4) (hy : SlV (b4 :: bm :: X) w ky y.kids) (hS : Stp [b4] w w') :
    NdV X w' (.agg (ndC y ky).toArray) y ∧ Mk w' bm lv i ∧ Stp [bm] w0 w' :=
  ⟨⟨ky, rfl, (hy.ext (X' := b4 :: bm :: X) hS (by simp) (fun _ h => .inl h)).wk (fun c hc => by simp [hc])⟩, h.mkr.ext hS (by simpa using h.ne.symm), ((hw.mono (by simp)).trans h.stp).own hS (fun c hc => .inr (by simp at hc; omega))⟩
theorem reps1 {X : List Nat} {w : World} {y0 : Nd} {k0 : Value} (s0 : SlV X w k0 y0.kids) : ∀ i (hi : i < [y0].length) (hi' : i < [ndC y0 k0].length), GoRep.rep X w [y0][i] [ndC y0 k0][i]
  | 0, _, _ => (show NRep X w y0 (ndC y0 k0) by rw [y0.eta]; exact slv_nrep s0)
theorem reps2 {X : List Nat} {w : World} {y0 y1 : Nd} {k0 k1 : Value} (s0 : SlV X w k0 y0.kids) (s1 : SlV X w k1 y1.kids) : ∀ i (hi : i < [y0, y1].length) (hi' : i < [ndC y0 k0, ndC y1 k1].length), GoRep.rep X w [y0, y1][i] [ndC y0 k0, ndC y1 k1][i]
  | 0, _, _ => (show NRep X w y0 (ndC y0 k0) by rw [y0.eta]; exact slv_nrep s0)
  | 1, _, _ => (show NRep X w y1 (ndC y1 k1) by rw [y1.eta]; exact slv_nrep s1)
theorem reps3 {X : List Nat} {w : World} {y0 y1 y2 : Nd} {k0 k1 k2 : Value} (s0 : SlV X w k0 y0.kids) (s1 : SlV X w k1 y1.kids) (s2 : SlV X w k2 y2.kids) : ∀ i (hi : i < [y0, y1, y2].length) (hi' : i < [ndC y0 k0, ndC y1 k1, ndC y2 k2].length), GoRep.rep X w [y0, y1, y2][i] [ndC y0 k0, ndC y1 k1, ndC y2 k2][i]
  | 0, _, _ => (show NRep X w y0 (ndC y0 k0) by rw [y0.eta]; exact slv_nrep s0)
  | 1, _, _ => (show NRep X w y1 (ndC y1 k1) by rw [y1.eta]; exact slv_nrep s1)
  | 2, _, _ => (show NRep X w y2 (ndC y2 k2) by rw [y2.eta]; exact slv_nrep s2)
theorem buildN01 (k n : Int) (w : World) : (Instr.build 24 #[(0, .int .i64 k), (1, .int .i64 n)]).run Tryd.prog w = .ok (.agg #[.int .i64 k, .int .i64 n, str [], .slice none 0 0]) w := by kernel_rfl
theorem buildN02 (k : Int) (s : Str) (w : World) : (Instr.build 24 #[(0, .int .i64 k), (2, str s)]).run Tryd.prog w = .ok (.agg #[.int .i64 k, .int .i64 0, str s, .slice none 0 0]) w := by kernel_rfl
theorem buildSN2 (k n : Int) (s : Str) (p : Option Addr) (l c : Nat) (k' n' : Int) (s' : Str) (p' : Option Addr) (l' c' : Nat) (w : World) : (Instr.buildSlice 22 2 #[(0, .agg #[.int .i64 k, .int .i64 n, str s, .slice p l c]), (1, .agg #[.int .i64 k', .int .i64 n', str s', .slice p' l' c'])]).run Tryd.prog w = .ok (.slice (some ⟨w.heap.size, 0, none⟩) 2 2) (w.alloc (.cells #[.int .i64 k, .int .i64 n, str s, .slice p l c, .int .i64 k', .int .i64 n', str s', .slice p' l' c'] 24)) := by kernel_rfl
theorem buildSN3 (k n : Int) (s : Str) (p : Option Addr) (l c : Nat) (k' n' : Int) (s' : Str) (p' : Option Addr) (l' c' : Nat) (k'' n'' : Int) (s'' : Str) (p'' : Option Addr) (l'' c'' : Nat) (w : World) : (Instr.buildSlice 22 3 #[(0, .agg #[.int .i64 k, .int .i64 n, str s, .slice p l c]), (1, .agg #[.int .i64 k', .int .i64 n', str s', .slice p' l' c']), (2, .agg #[.int .i64 k'', .int .i64 n'', str s'', .slice p'' l'' c''])]).run Tryd.prog w = .ok (.slice (some ⟨w.heap.size, 0, none⟩) 3 3) (w.alloc (.cells #[.int .i64 k, .int .i64 n, str s, .slice p l c, .int .i64 k', .int .i64 n', str s', .slice p' l' c', .int .i64 k'', .int .i64 n'', str s'', .slice p'' l'' c''] 24)) := by kernel_rfl
theorem buildSI8 (a b c d e f g h : Int) (w : World) : (Instr.buildSlice 25 8 #[(0, .int .i64 a), (1, .int .i64 b), (2, .int .i64 c), (3, .int .i64 d), (4, .int .i64 e), (5, .int .i64 f), (6, .int .i64 g), (7, .int .i64 h)]).run Tryd.prog w = .ok (.slice (some ⟨w.heap.size, 0, none⟩) 8 8) (w.alloc (.cells #[.int .i64 a, .int .i64 b, .int .i64 c, .int .i64 d, .int .i64 e, .int .i64 f, .int .i64 g, .int .i64 h] 3)) := by kernel_rfl
theorem size1 (k n : Int) (s : Str) (y0 : Nd) : sizeN (.mk k n s [y0]) = 1 + sizeN y0 := by rw [sizeN_eq]; simp [Nd.kids]
theorem size2 (k n : Int) (s : Str) (y0 y1 : Nd) : sizeN (.mk k n s [y0, y1]) = 1 + sizeN y0 + sizeN y1 := by rw [sizeN_eq]; simp [Nd.kids]; omega
theorem size3 (k n : Int) (s : Str) (y0 y1 y2 : Nd) : sizeN (.mk k n s [y0, y1, y2]) = 1 + sizeN y0 + sizeN y1 + sizeN y2 := by rw [sizeN_eq]; simp [Nd.kids]; omega
theorem size0 (k n : Int) (s : Str) : sizeN (.mk k n s []) = 1 := by rw [sizeN_eq]; simp [Nd.kids]
theorem nest0 (k n : Int) (s : Str) : nestN (.mk k n s []) = 1 := by rw [nestN_eq]; simp [Nd.kids]
theorem nest1 (k n : Int) (s : Str) (y0 : Nd) : nestN (.mk k n s [y0]) = 1 + nestN y0 := by rw [nestN_eq]; simp [Nd.kids]
theorem nest2 (k n : Int) (s : Str) (y0 y1 : Nd) : nestN (.mk k n s [y0, y1]) = 1 + max (nestN y0) (nestN y1) := by rw [nestN_eq]; simp [Nd.kids]
theorem nest3 (k n : Int) (s : Str) (y0 y1 y2 : Nd) : nestN (.mk k n s [y0, y1, y2]) = 1 + max (max (nestN y0) (nestN y1)) (nestN y2) := by rw [nestN_eq]; simp [Nd.kids]
theorem ty0 {k n τ : Int} {s : Str} (h : leafN k n s = τ) : typeT (.mk k n s []) = τ := by rw [typeT_eq]; exact h
theorem ty1 {k τ a : Int} {s : Str} {y0 : Nd} (h0 : typeT y0 = a) (h : combT k 0 s [a] = τ) : typeT (.mk k 0 s [y0]) = τ := by rw [typeT_eq]; simp only [Nd.kind, Nd.num, Nd.word, Nd.kids, List.map_cons, List.map_nil, h0]; exact h
theorem ty2 {k τ a b : Int} {s : Str} {y0 y1 : Nd} (h0 : typeT y0 = a) (h1 : typeT y1 = b) (h : combT k 0 s [a, b] = τ) : typeT (.mk k 0 s [y0, y1]) = τ := by rw [typeT_eq]; simp only [Nd.kind, Nd.num, Nd.word, Nd.kids, List.map_cons, List.map_nil, h0, h1]; exact h
theorem ty3 {k τ a b c : Int} {s : Str} {y0 y1 y2 : Nd} (h0 : typeT y0 = a) (h1 : typeT y1 = b) (h2 : typeT y2 = c) (h : combT k 0 s [a, b, c] = τ) : typeT (.mk k 0 s [y0, y1, y2]) = τ := by rw [typeT_eq]; simp only [Nd.kind, Nd.num, Nd.word, Nd.kids, List.map_cons, List.map_nil, h0, h1, h2]; exact h
theorem tA : ∀ q (h : q < opsA.length), combT 6 0 opsA[q] [1, 1] = 1 := by
  intro q h
  match q, h with
  | 0, _ => rfl
  | 1, _ => rfl
  | 2, _ => rfl
theorem tL : ∀ q (h : q < opsL.length), combT 6 0 opsL[q] [2, 2] = 2 := by
  intro q h
  match q, h with
  | 0, _ => rfl
  | 1, _ => rfl
theorem tCd : ∀ q (h : q < opsC.length), combT 6 0 opsC[q] [3, 3] = 2 := by
  intro q h
  match q, h with
  | 0, _ => rfl
  | 1, _ => rfl
  | 2, _ => rfl
  | 3, _ => rfl
  | 4, _ => rfl
  | 5, _ => rfl
theorem tCn : ∀ q (h : q < opsC.length), combT 6 0 opsC[q] [1, 1] = 2 := by
  intro q h
  match q, h with
  | 0, _ => rfl
  | 1, _ => rfl
  | 2, _ => rfl
  | 3, _ => rfl
  | 4, _ => rfl
  | 5, _ => rfl
theorem tN : ∀ q (h : q < opsN.length), combT 10 0 opsN[q] [3] = 3 := by
  intro q h
  match q, h with
  | 0, _ => rfl
  | 1, _ => rfl
theorem tE : ∀ q (h : q < opsE.length), combT 10 0 opsE[q] [3, 3] = 3 := by
  intro q h
  match q, h with
  | 0, _ => rfl
  | 1, _ => rfl
theorem tU8 : ∀ q (h : q < units.length), combT 8 0 units[q] [3, 1] = 3 := by
  intro q h
  match q, h with
  | 0, _ => rfl
  | 1, _ => rfl
  | 2, _ => rfl
  | 3, _ => rfl
theorem tU7 : ∀ q (h : q < units.length), combT 7 0 units[q] [3, 1] = 3 := by
  intro q h
  match q, h with
  | 0, _ => rfl
  | 1, _ => rfl
  | 2, _ => rfl
  | 3, _ => rfl
theorem lN1 : ∀ q (h : q < [(1 : Int), 2, 7, 14, 30, 0, 60, 365].length), leafN 1 [(1 : Int), 2, 7, 14, 30, 0, 60, 365][q] [] = 1 := by
  intro q h
  match q, h with
  | 0, _ => rfl
  | 1, _ => rfl
  | 2, _ => rfl
  | 3, _ => rfl
  | 4, _ => rfl
  | 5, _ => rfl
  | 6, _ => rfl
  | 7, _ => rfl
theorem lF1 : ∀ q, q < 5 → ∀ (h : 2 + q < fieldNames.length), leafN 4 0 fieldNames[2 + q] = 1 := by
  intro q hq h
  match q, hq, h with
  | 0, _, _ => rfl
  | 1, _, _ => rfl
  | 2, _, _ => rfl
  | 3, _, _ => rfl
  | 4, _, _ => rfl
theorem lF3 : ∀ q, q < 3 → ∀ (h : q / 2 < fieldNames.length), leafN 4 0 (fieldNames[q / 2]) = 3 := by
  intro q hq h
  match q, hq, h with
  | 0, _, _ => rfl
  | 1, _, _ => rfl
  | 2, _, _ => rfl
theorem lB2 : ∀ q : Nat, q < 2 → leafN 2 (q : Int) [] = 2 := by
  intro q hq
  match q, hq with
  | 0, _ => rfl
  | 1, _ => rfl
theorem lD3 : ∀ q : Nat, q < 200 → leafN 3 (739600 + (q : Int)) [] = 3 := by
  intro q hq
  unfold leafN
  rw [if_neg (by decide), if_neg (by simp), if_neg (by decide), if_neg (by decide), if_pos rfl, if_pos (by omega)]
end Go.Proofs.YtfjmlobgjdmecaaDoor
namespace Go.Proofs.YtfjmlobgjdmecaaDoor
open Go Go.Eng Go.RowKit
set_option linter.unusedVariables false

theorem number_step (d : Nat) (hd1 : 1 ≤ d) (hd2 : d ≤ 6) (ih : 2 ≤ d → GenP 58 (d - 1) ∧ GenP 57 (d - 1) ∧ GenP 56 (d - 1)) : GenP 58 d := by
  intro X w bm lv l i z hz hmk hsl hl hi hX
  subst hz
  have hsz := szD_eq hd1
  have hsp : 2 ≤ d → 1 ≤ szD (d - 1) := fun h => by have := szD_eq (d := d - 1) (by omega); omega
  refine calls_of_WC2 (n := 82) Tryd.func58 rfl rfl rfl ?_
  refine W ?_
  refine WL_eff OE_alloc rfl ?_
  rintro _ w1 ⟨b4, rfl, hb4, hblk4, hS0⟩
  have gm : G (b4 :: bm :: X) w1 w1 bm b4 lv l i := ⟨hmk.up hS0, hsl.up hS0, Stp.refl _ _, ⟨_, rfl, hblk4⟩, fun h => by have := hmk.lt; omega, fun c hc => by
    simp only [List.mem_cons] at hc
    have h1 := hblk4.lt
    have h2 := hmk.lt
    have h3 := hS0.size
    rcases hc with rfl | rfl | hc
    · exact h1
    · omega
    · have := hX c hc; omega⟩
  clear hblk4
  refine W ?_
  refine WL_eff (OE_call rfl (evs2 rfl rfl) (Next_any bm lv l _ 8 _ (by decide) (by omega) gm.mkr gm.sl hl)) rfl ?_
  rintro _ w2 ⟨q, rfl, hq, hm, hS⟩
  replace gm := gm.nxt hm hS
  clear hm hS
  refine W ?_
  refine WC_cutQ (σ := Nat) (fun k => [(0, .pointer (some ⟨bm, 0, none⟩)), (1, .int .i64 (d : Int)), (4, .pointer (some ⟨b4, 0, none⟩)), (5, .int .i64 (k : Int))]) (fun k w' => w' = w2 ∧ k < 8 ∧ (d = 1 → k < 3)) ?_ ?_
  · by_cases h1 : d = 1
    · repeat' (first | refine W1 ?_ | (exfalso; omega) | refine WL_split rfl rfl (fun hg => ?_) (fun hg => ?_) | refine WL_splitB rfl rfl (fun hg => ?_) (fun hg => ?_) | refine WC_cond rfl (fun hc => ?_) (fun hc => ?_) | refine WC_condB rfl (fun hc => ?_) (fun hc => ?_))
      exact WQ_cut (q % 3) ⟨rfl, rfl, rfl, rfl, trivial⟩ ⟨rfl, by omega, fun _ => by omega⟩
    · repeat' (first | refine W1 ?_ | (exfalso; omega) | refine WL_split rfl rfl (fun hg => ?_) (fun hg => ?_) | refine WL_splitB rfl rfl (fun hg => ?_) (fun hg => ?_) | refine WC_cond rfl (fun hc => ?_) (fun hc => ?_) | refine WC_condB rfl (fun hc => ?_) (fun hc => ?_))
      exact WQ_cut q ⟨rfl, rfl, rfl, rfl, trivial⟩ ⟨rfl, by omega, fun h => absurd h h1⟩
  rintro k w3 ⟨rfl, hkn, hk1⟩
  clear hq
  by_cases k0 : k ≤ 1
  · repeat' (first | refine W1 ?_ | (exfalso; omega) | refine WL_split rfl rfl (fun hg => ?_) (fun hg => ?_) | refine WL_splitB rfl rfl (fun hg => ?_) (fun hg => ?_) | refine WC_cond rfl (fun hc => ?_) (fun hc => ?_) | refine WC_condB rfl (fun hc => ?_) (fun hc => ?_))
    all_goals
      refine WL_eff (OE_buildSlice (vs := [(0, .int .i64 1), (1, .int .i64 2), (2, .int .i64 7), (3, .int .i64 14), (4, .int .i64 30), (5, .int .i64 0), (6, .int .i64 60), (7, .int .i64 365)]) rfl (buildSI8 _ _ _ _ _ _ _ _)) rfl ?_
      rintro iv wq hN
      have hws : SlV [bm] wq iv [(1 : Int), 2, 7, 14, 30, 0, 60, 365] := hN.slv (fun c hc => gm.hX c (by simp at hc; subst hc; simp)) rfl rfl (by decide)
      have hT := NewSl.stp hN
      clear hN
      replace gm := gm.up hT
      clear hT
      refine W ?_
      refine WL_eff (OE_call rfl (evs2 rfl rfl) (Next_any bm lv l _ 8 _ (by decide) (by omega) gm.mkr gm.sl hl)) rfl ?_
      rintro _ wq ⟨q', rfl, hq', hm, hS⟩
      replace gm := gm.nxt hm hS
      replace hws := hws.ext hS (by simp) (fun _ h => .inl h)
      clear hm hS
      have hqn : q' < [(1 : Int), 2, 7, 14, 30, 0, 60, 365].length := by show q' < 8; omega
      refine W ?_
      apply WL_build (vs := [(0, .int .i64 1), (1, .int .i64 _)]) rfl (buildN01 _ _) rfl
      have hy : SlV (α := Nd) (b4 :: bm :: X) wq (.slice none 0 0) [] := nilSlv _ _
      obtain ⟨cs, hcl, hcb⟩ := gm.blk
      refine WL_eff0 (OE_storeA (us := ndC (.mk 1 [(1 : Int), 2, 7, 14, 30, 0, 60, 365][q'] [] []) _) rfl rfl rfl rfl (ndC_one (x := (.mk 1 [(1 : Int), 2, 7, 14, 30, 0, 60, 365][q'] [] [])) hy) hcb hcl.symm) ?_
      rintro _ wz ⟨hz, hbz⟩
      refine W ?_
      refine WQ_retc rfl rfl rfl hbz rfl ?_
      have hf := gm.fin (y := (.mk 1 [(1 : Int), 2, 7, 14, 30, 0, 60, 365][q'] [] [])) hS0 hb4 hy hz
      exact .mk ⟨_, _, hf.1, by rw [size0]; omega, ⟨ty0 (lN1 _ hqn), by rw [nest0]; omega⟩, hf.2.1, by omega, hf.2.2⟩
  by_cases k2 : k = 2
  · repeat' (first | refine W1 ?_ | (exfalso; omega) | refine WL_split rfl rfl (fun hg => ?_) (fun hg => ?_) | refine WL_splitB rfl rfl (fun hg => ?_) (fun hg => ?_) | refine WC_cond rfl (fun hc => ?_) (fun hc => ?_) | refine WC_condB rfl (fun hc => ?_) (fun hc => ?_))
    refine WL_eff (OE_call rfl evs0 (Fields_any [bm] _ (fun c hc => gm.hX c (by simp at hc; subst hc; simp)))) rfl ?_
    rintro fv wq ⟨hr, hT⟩
    have hws := hr.slv (fun c hc => gm.hX c (by simp at hc; subst hc; simp))
    replace gm := gm.up hT
    clear hr hT
    refine W ?_
    refine WL_eff (OE_call rfl (evs2 rfl rfl) (Next_any bm lv l _ 5 _ (by decide) (by omega) gm.mkr gm.sl hl)) rfl ?_
    rintro _ wq ⟨q', rfl, hq', hm, hS⟩
    replace gm := gm.nxt hm hS
    replace hws := hws.ext hS (by simp) (fun _ h => .inl h)
    clear hm hS
    have hqn : 2 + q' < fieldNames.length := by show 2 + q' < 7; omega
    refine W ?_
    apply WL_build (vs := [(0, .int .i64 4), (2, str _)]) rfl (buildN02 _ _) rfl
    have hy : SlV (α := Nd) (b4 :: bm :: X) wq (.slice none 0 0) [] := nilSlv _ _
    obtain ⟨cs, hcl, hcb⟩ := gm.blk
    refine WL_eff0 (OE_storeA (us := ndC (.mk 4 0 fieldNames[2 + q'] []) _) rfl rfl rfl rfl (ndC_one (x := (.mk 4 0 fieldNames[2 + q'] [])) hy) hcb hcl.symm) ?_
    rintro _ wz ⟨hz, hbz⟩
    refine W ?_
    refine WQ_retc rfl rfl rfl hbz rfl ?_
    have hf := gm.fin (y := (.mk 4 0 fieldNames[2 + q'] [])) hS0 hb4 hy hz
    exact .mk ⟨_, _, hf.1, by rw [size0]; omega, ⟨ty0 (lF1 _ (by omega) hqn), by rw [nest0]; omega⟩, hf.2.1, by omega, hf.2.2⟩
  by_cases k3 : k = 3
  · have h2 : 2 ≤ d := by omega
    replace ih := ih h2
    replace hsp := hsp h2
    repeat' (first | refine W1 ?_ | (exfalso; omega) | refine WL_split rfl rfl (fun hg => ?_) (fun hg => ?_) | refine WL_splitB rfl rfl (fun hg => ?_) (fun hg => ?_) | refine WC_cond rfl (fun hc => ?_) (fun hc => ?_) | refine WC_condB rfl (fun hc => ?_) (fun hc => ?_))
    refine W ?_
    refine WL_eff (OE_call rfl (evs2 rfl rfl) ((ih.1) (b4 :: bm :: X) _ bm lv l _ _ (by omega) gm.mkr gm.sl hl (by omega) gm.hX)) rfl ?_
    rintro _ wq ⟨y0, i0, ⟨k0, rfl, s0⟩, z0, ⟨ty0, ne0⟩, hm, hi0, hS⟩
    obtain ⟨p0, c0, rfl, -⟩ := id s0
    replace gm := gm.nxt hm hS
    clear hm hS
    refine W ?_
    refine WL_eff (OE_buildSlice (vs := [(0, .agg #[.int .i64 y0.kind, .int .i64 y0.num, str y0.word, .slice p0 y0.kids.length c0])]) rfl (buildSN1 _ _ _ _ _ _)) rfl ?_
    rintro bv wq hN
    have hbv : SlV (b4 :: bm :: X) wq bv [y0] := hN.slvG (css := [ndC y0 _]) gm.hX rfl rfl rfl (reps1 s0) (by simp [maxLen])
    have hT := NewSl.stp hN
    clear hN
    replace gm := gm.up hT
    clear hT
    refine W ?_
    refine WL_eff (OE_call rfl (evs3 rfl rfl rfl) (node14_any (b4 :: bm :: X) 5 [45] bv [y0] _ gm.hX hbv)) rfl ?_
    rintro _ wq ⟨⟨ky, rfl, hy⟩, hT⟩
    replace gm := gm.up hT
    clear hT hbv
    refine W ?_
    obtain ⟨cs, hcl, hcb⟩ := gm.blk
    refine WL_eff0 (OE_storeA (us := ndC (.mk 5 0 [45] [y0]) _) rfl rfl rfl rfl (ndC_one (x := (.mk 5 0 [45] [y0])) hy) hcb hcl.symm) ?_
    rintro _ wz ⟨hz, hbz⟩
    refine W ?_
    refine WQ_retc rfl rfl rfl hbz rfl ?_
    have hf := gm.fin (y := (.mk 5 0 [45] [y0])) hS0 hb4 hy hz
    exact .mk ⟨_, _, hf.1, by rw [size1]; omega, ⟨ty1 ty0 (rfl), by rw [nest1]; omega⟩, hf.2.1, by omega, hf.2.2⟩
  by_cases k4 : k = 4
  · have h2 : 2 ≤ d := by omega
    replace ih := ih h2
    replace hsp := hsp h2
    repeat' (first | refine W1 ?_ | (exfalso; omega) | refine WL_split rfl rfl (fun hg => ?_) (fun hg => ?_) | refine WL_splitB rfl rfl (fun hg => ?_) (fun hg => ?_) | refine WC_cond rfl (fun hc => ?_) (fun hc => ?_) | refine WC_condB rfl (fun hc => ?_) (fun hc => ?_))
    refine W ?_
    refine WL_eff (OE_call rfl (evs2 rfl rfl) ((ih.2.2) (b4 :: bm :: X) _ bm lv l _ _ (by omega) gm.mkr gm.sl hl (by omega) gm.hX)) rfl ?_
    rintro _ wq ⟨y0, i0, ⟨k0, rfl, s0⟩, z0, ⟨ty0, ne0⟩, hm, hi0, hS⟩
    obtain ⟨p0, c0, rfl, -⟩ := id s0
    replace gm := gm.nxt hm hS
    clear hm hS
    refine W ?_
    refine WL_eff (OE_call rfl (evs2 rfl rfl) ((ih.2.2) (b4 :: bm :: X) _ bm lv l _ _ (by omega) gm.mkr gm.sl hl (by omega) gm.hX)) rfl ?_
    rintro _ wq ⟨y1, i1, ⟨k1, rfl, s1⟩, z1, ⟨ty1, ne1⟩, hm, hi1, hS⟩
    obtain ⟨p1, c1, rfl, -⟩ := id s1
    replace gm := gm.nxt hm hS
    replace s0 := s0.ext hS (by simp) (fun _ h => .inl h)
    clear hm hS
    refine W ?_
    refine WL_eff (OE_buildSlice (vs := [(0, .agg #[.int .i64 y0.kind, .int .i64 y0.num, str y0.word, .slice p0 y0.kids.length c0]), (1, .agg #[.int .i64 y1.kind, .int .i64 y1.num, str y1.word, .slice p1 y1.kids.length c1])]) rfl (buildSN2 _ _ _ _ _ _ _ _ _ _ _ _)) rfl ?_
    rintro bv wq hN
    have hbv : SlV (b4 :: bm :: X) wq bv [y0, y1] := hN.slvG (css := [ndC y0 _, ndC y1 _]) gm.hX rfl rfl rfl (reps2 s0 s1) (by simp [maxLen])
    have hT := NewSl.stp hN
    clear hN
    replace gm := gm.up hT
    clear hT
    refine W ?_
    refine WL_eff (OE_call rfl (evs3 rfl rfl rfl) (node14_any (b4 :: bm :: X) 10 [98, 101, 116, 119, 101, 101, 110] bv [y0, y1] _ gm.hX hbv)) rfl ?_
    rintro _ wq ⟨⟨ky, rfl, hy⟩, hT⟩
    replace gm := gm.up hT
    clear hT hbv
    refine W ?_
    obtain ⟨cs, hcl, hcb⟩ := gm.blk
    refine WL_eff0 (OE_storeA (us := ndC (.mk 10 0 [98, 101, 116, 119, 101, 101, 110] [y0, y1]) _) rfl rfl rfl rfl (ndC_one (x := (.mk 10 0 [98, 101, 116, 119, 101, 101, 110] [y0, y1])) hy) hcb hcl.symm) ?_
    rintro _ wz ⟨hz, hbz⟩
    refine W ?_
    refine WQ_retc rfl rfl rfl hbz rfl ?_
    have hf := gm.fin (y := (.mk 10 0 [98, 101, 116, 119, 101, 101, 110] [y0, y1])) hS0 hb4 hy hz
    exact .mk ⟨_, _, hf.1, by rw [size2]; omega, ⟨ty2 ty0 ty1 (rfl), by rw [nest2]; omega⟩, hf.2.1, by omega, hf.2.2⟩
  by_cases k5 : k = 5
  · have h2 : 2 ≤ d := by omega
    replace ih := ih h2
    replace hsp := hsp h2
    repeat' (first | refine W1 ?_ | (exfalso; omega) | refine WL_split rfl rfl (fun hg => ?_) (fun hg => ?_) | refine WL_splitB rfl rfl (fun hg => ?_) (fun hg => ?_) | refine WC_cond rfl (fun hc => ?_) (fun hc => ?_) | refine WC_condB rfl (fun hc => ?_) (fun hc => ?_))
    refine W ?_
    refine WL_eff (OE_call rfl (evs2 rfl rfl) ((ih.2.1) (b4 :: bm :: X) _ bm lv l _ _ (by omega) gm.mkr gm.sl hl (by omega) gm.hX)) rfl ?_
    rintro _ wq ⟨y0, i0, ⟨k0, rfl, s0⟩, z0, ⟨ty0, ne0⟩, hm, hi0, hS⟩
    obtain ⟨p0, c0, rfl, -⟩ := id s0
    replace gm := gm.nxt hm hS
    clear hm hS
    refine W ?_
    refine WL_eff (OE_call rfl (evs2 rfl rfl) ((ih.1) (b4 :: bm :: X) _ bm lv l _ _ (by omega) gm.mkr gm.sl hl (by omega) gm.hX)) rfl ?_
    rintro _ wq ⟨y1, i1, ⟨k1, rfl, s1⟩, z1, ⟨ty1, ne1⟩, hm, hi1, hS⟩
    obtain ⟨p1, c1, rfl, -⟩ := id s1
    replace gm := gm.nxt hm hS
    replace s0 := s0.ext hS (by simp) (fun _ h => .inl h)
    clear hm hS
    refine W ?_
    refine WL_eff (OE_call rfl (evs2 rfl rfl) ((ih.1) (b4 :: bm :: X) _ bm lv l _ _ (by omega) gm.mkr gm.sl hl (by omega) gm.hX)) rfl ?_
    rintro _ wq ⟨y2, i2, ⟨k2, rfl, s2⟩, z2, ⟨ty2, ne2⟩, hm, hi2, hS⟩
    obtain ⟨p2, c2, rfl, -⟩ := id s2
    replace gm := gm.nxt hm hS
    replace s0 := s0.ext hS (by simp) (fun _ h => .inl h)
    replace s1 := s1.ext hS (by simp) (fun _ h => .inl h)
    clear hm hS
    refine W ?_
    refine WL_eff (OE_buildSlice (vs := [(0, .agg #[.int .i64 y0.kind, .int .i64 y0.num, str y0.word, .slice p0 y0.kids.length c0]), (1, .agg #[.int .i64 y1.kind, .int .i64 y1.num, str y1.word, .slice p1 y1.kids.length c1]), (2, .agg #[.int .i64 y2.kind, .int .i64 y2.num, str y2.word, .slice p2 y2.kids.length c2])]) rfl (buildSN3 _ _ _ _ _ _ _ _ _ _ _ _ _ _ _ _ _ _)) rfl ?_
    rintro bv wq hN
    have hbv : SlV (b4 :: bm :: X) wq bv [y0, y1, y2] := hN.slvG (css := [ndC y0 _, ndC y1 _, ndC y2 _]) gm.hX rfl rfl rfl (reps3 s0 s1 s2) (by simp [maxLen])
    have hT := NewSl.stp hN
    clear hN
    replace gm := gm.up hT
    clear hT
    refine W ?_
    refine WL_eff (OE_call rfl (evs3 rfl rfl rfl) (node14_any (b4 :: bm :: X) 9 [] bv [y0, y1, y2] _ gm.hX hbv)) rfl ?_
    rintro _ wq ⟨⟨ky, rfl, hy⟩, hT⟩
    replace gm := gm.up hT
    clear hT hbv
    refine W ?_
    obtain ⟨cs, hcl, hcb⟩ := gm.blk
    refine WL_eff0 (OE_storeA (us := ndC (.mk 9 0 [] [y0, y1, y2]) _) rfl rfl rfl rfl (ndC_one (x := (.mk 9 0 [] [y0, y1, y2])) hy) hcb hcl.symm) ?_
    rintro _ wz ⟨hz, hbz⟩
    refine W ?_
    refine WQ_retc rfl rfl rfl hbz rfl ?_
    have hf := gm.fin (y := (.mk 9 0 [] [y0, y1, y2])) hS0 hb4 hy hz
    exact .mk ⟨_, _, hf.1, by rw [size3]; omega, ⟨ty3 ty0 ty1 ty2 (rfl), by rw [nest3]; omega⟩, hf.2.1, by omega, hf.2.2⟩
  have h2 : 2 ≤ d := by omega
  replace ih := ih h2
  replace hsp := hsp h2
  repeat' (first | refine W1 ?_ | (exfalso; omega) | refine WL_split rfl rfl (fun hg => ?_) (fun hg => ?_) | refine WL_splitB rfl rfl (fun hg => ?_) (fun hg => ?_) | refine WC_cond rfl (fun hc => ?_) (fun hc => ?_) | refine WC_condB rfl (fun hc => ?_) (fun hc => ?_))
  refine WC_drawn 16 ([b4, bm]) [] [(1, 0), (5, 0), (6, 0), (7, 0), (9, 0), (10, 0), (11, 0), (0, 2), (2, 2), (3, 0), (4, 1), (8, 2), (12, 2), (13, 2), (14, 2), (15, 2)] rfl mixed (by kernel_rfl) (by kernel_rfl) (by kernel_rfl) (fun w1 hS1 => ?_)
  replace gm := gm.up hS1
  refine D ?_
  refine WD_eff rfl trivial (OE_call rfl (evs1 rfl) (words_any [b4, bm] [43, 32, 45, 32, 42] _ (fun c hc => gm.hX c (by simp at hc; rcases hc with rfl | rfl <;> simp)) (by decide))) (fun _ _ h => h.2.mono (by simp)) rfl ?_
  rintro wv wq ⟨hr, hT⟩
  rw [show wordsOf [43, 32, 45, 32, 42] = opsA by decide] at hr
  have hws := hr.slv (fun c hc => gm.hX c (by simp at hc; rcases hc with rfl | rfl <;> simp))
  replace gm := gm.up hT
  clear hr hT
  refine D ?_
  refine WD_eff rfl trivial (OE_call rfl (evs2 rfl rfl) (Next_any bm lv l _ 3 _ (by decide) (by omega) gm.mkr gm.sl hl)) (fun _ _ h => h.choose_spec.2.2.2.mono (by simp)) rfl ?_
  rintro _ wq ⟨q, rfl, hq, hm, hS⟩
  replace gm := gm.nxt hm hS
  replace hws := hws.ext hS (by simp) (fun _ h => .inl h)
  clear hm hS
  have hqn : q < opsA.length := by show q < 3; omega
  refine D ?_
  refine WD_eff rfl trivial (OE_call rfl (evs2 rfl rfl) ((ih.1) (b4 :: bm :: X) _ bm lv l _ _ (by omega) gm.mkr gm.sl hl (by omega) gm.hX)) (fun _ _ h => by obtain ⟨_, _, _, _, _, _, _, h⟩ := h; exact h.mono (by simp)) rfl ?_
  rintro _ wq ⟨y0, i0, ⟨k0, rfl, s0⟩, z0, ⟨ty0, ne0⟩, hm, hi0, hS⟩
  obtain ⟨p0, c0, rfl, -⟩ := id s0
  replace gm := gm.nxt hm hS
  replace hws := hws.ext hS (by simp) (fun _ h => .inl h)
  clear hm hS
  refine D ?_
  refine WD_eff rfl trivial (OE_call rfl (evs2 rfl rfl) ((ih.1) (b4 :: bm :: X) _ bm lv l _ _ (by omega) gm.mkr gm.sl hl (by omega) gm.hX)) (fun _ _ h => by obtain ⟨_, _, _, _, _, _, _, h⟩ := h; exact h.mono (by simp)) rfl ?_
  rintro _ wq ⟨y1, i1, ⟨k1, rfl, s1⟩, z1, ⟨ty1, ne1⟩, hm, hi1, hS⟩
  obtain ⟨p1, c1, rfl, -⟩ := id s1
  replace gm := gm.nxt hm hS
  replace hws := hws.ext hS (by simp) (fun _ h => .inl h)
  replace s0 := s0.ext hS (by simp) (fun _ h => .inl h)
  clear hm hS
  refine D ?_
  refine WD_eff rfl trivial (OE_buildSlice (vs := [(0, .agg #[.int .i64 y0.kind, .int .i64 y0.num, str y0.word, .slice p0 y0.kids.length c0]), (1, .agg #[.int .i64 y1.kind, .int .i64 y1.num, str y1.word, .slice p1 y1.kids.length c1])]) rfl (buildSN2 _ _ _ _ _ _ _ _ _ _ _ _)) (fun _ _ h => (NewSl.stp h).mono (by simp)) rfl ?_
  rintro bv wq hN
  have hbv : SlV (b4 :: bm :: X) wq bv [y0, y1] := hN.slvG (css := [ndC y0 _, ndC y1 _]) gm.hX rfl rfl rfl (reps2 s0 s1) (by simp [maxLen])
  have hT := NewSl.stp hN
  clear hN
  replace gm := gm.up hT
  replace hws := hws.up hT
  clear hT
  refine D ?_
  refine WD_eff rfl trivial (OE_call rfl (evs3 rfl rfl rfl) (node14_any (b4 :: bm :: X) 6 opsA[q] bv [y0, y1] _ gm.hX hbv)) (fun _ _ h => h.2.mono (by simp)) rfl ?_
  rintro _ wq ⟨⟨ky, rfl, hy⟩, hT⟩
  replace gm := gm.up hT
  clear hT hbv
  refine D ?_
  obtain ⟨cs, hcl, hcb⟩ := gm.blk
  refine WD_eff0 rfl trivial (OE_storeA (us := ndC (.mk 6 0 opsA[q] [y0, y1]) _) rfl rfl rfl rfl (ndC_one (x := (.mk 6 0 opsA[q] [y0, y1])) hy) hcb hcl.symm) (fun _ _ h => h.1.mono (by simp)) ?_
  rintro _ wz ⟨hz, hbz⟩
  refine D ?_
  refine W ?_
  refine WQ_retc rfl rfl rfl hbz rfl ?_
  have hf := gm.fin (y := (.mk 6 0 opsA[q] [y0, y1])) hS0 hb4 hy hz
  exact .mk ⟨_, _, hf.1, by rw [size2]; omega, ⟨ty2 ty0 ty1 (tA _ hqn), by rw [nest2]; omega⟩, hf.2.1, by omega, hf.2.2⟩
end Go.Proofs.YtfjmlobgjdmecaaDoor
namespace Go.Proofs.YtfjmlobgjdmecaaDoor
open Go Go.Eng Go.RowKit
set_option linter.unusedVariables false

theorem boolean_step (d : Nat) (hd1 : 1 ≤ d) (hd2 : d ≤ 6) (ih : 2 ≤ d → GenP 58 (d - 1) ∧ GenP 57 (d - 1) ∧ GenP 56 (d - 1)) : GenP 57 d := by
  intro X w bm lv l i z hz hmk hsl hl hi hX
  subst hz
  have hsz := szD_eq hd1
  have hsp : 2 ≤ d → 1 ≤ szD (d - 1) := fun h => by have := szD_eq (d := d - 1) (by omega); omega
  refine calls_of_WC2 (n := 89) Tryd.func57 rfl rfl rfl ?_
  refine W ?_
  refine WL_eff OE_alloc rfl ?_
  rintro _ w1 ⟨b4, rfl, hb4, hblk4, hS0⟩
  have gm : G (b4 :: bm :: X) w1 w1 bm b4 lv l i := ⟨hmk.up hS0, hsl.up hS0, Stp.refl _ _, ⟨_, rfl, hblk4⟩, fun h => by have := hmk.lt; omega, fun c hc => by
    simp only [List.mem_cons] at hc
    have h1 := hblk4.lt
    have h2 := hmk.lt
    have h3 := hS0.size
    rcases hc with rfl | rfl | hc
    · exact h1
    · omega
    · have := hX c hc; omega⟩
  clear hblk4
  refine W ?_
  refine WL_eff (OE_call rfl (evs2 rfl rfl) (Next_any bm lv l _ 7 _ (by decide) (by omega) gm.mkr gm.sl hl)) rfl ?_
  rintro _ w2 ⟨q, rfl, hq, hm, hS⟩
  replace gm := gm.nxt hm hS
  clear hm hS
  refine W ?_
  refine WC_cutQ (σ := Nat) (fun k => [(0, .pointer (some ⟨bm, 0, none⟩)), (1, .int .i64 (d : Int)), (4, .pointer (some ⟨b4, 0, none⟩)), (5, .int .i64 (k : Int))]) (fun k w' => w' = w2 ∧ k < 7 ∧ (d = 1 → k = 0)) ?_ ?_
  · by_cases h1 : d = 1
    · repeat' (first | refine W1 ?_ | (exfalso; omega) | refine WL_split rfl rfl (fun hg => ?_) (fun hg => ?_) | refine WL_splitB rfl rfl (fun hg => ?_) (fun hg => ?_) | refine WC_cond rfl (fun hc => ?_) (fun hc => ?_) | refine WC_condB rfl (fun hc => ?_) (fun hc => ?_))
      exact WQ_cut 0 ⟨rfl, rfl, rfl, rfl, trivial⟩ ⟨rfl, by omega, fun _ => by omega⟩
    · repeat' (first | refine W1 ?_ | (exfalso; omega) | refine WL_split rfl rfl (fun hg => ?_) (fun hg => ?_) | refine WL_splitB rfl rfl (fun hg => ?_) (fun hg => ?_) | refine WC_cond rfl (fun hc => ?_) (fun hc => ?_) | refine WC_condB rfl (fun hc => ?_) (fun hc => ?_))
      exact WQ_cut q ⟨rfl, rfl, rfl, rfl, trivial⟩ ⟨rfl, by omega, fun h => absurd h h1⟩
  rintro k w3 ⟨rfl, hkn, hk1⟩
  clear hq
  by_cases k0 : k = 0
  · repeat' (first | refine W1 ?_ | (exfalso; omega) | refine WL_split rfl rfl (fun hg => ?_) (fun hg => ?_) | refine WL_splitB rfl rfl (fun hg => ?_) (fun hg => ?_) | refine WC_cond rfl (fun hc => ?_) (fun hc => ?_) | refine WC_condB rfl (fun hc => ?_) (fun hc => ?_))
    refine W ?_
    refine WL_eff (OE_call rfl (evs2 rfl rfl) (Next_any bm lv l _ 2 _ (by decide) (by omega) gm.mkr gm.sl hl)) rfl ?_
    rintro _ wq ⟨q', rfl, hq', hm, hS⟩
    replace gm := gm.nxt hm hS
    clear hm hS
    refine W ?_
    apply WL_build (vs := [(0, .int .i64 2), (1, .int .i64 _)]) rfl (buildN01 _ _) rfl
    have hy : SlV (α := Nd) (b4 :: bm :: X) wq (.slice none 0 0) [] := nilSlv _ _
    obtain ⟨cs, hcl, hcb⟩ := gm.blk
    refine WL_eff0 (OE_storeA (us := ndC (.mk 2 (q' : Int) [] []) _) rfl rfl rfl rfl (ndC_one (x := (.mk 2 (q' : Int) [] [])) hy) hcb hcl.symm) ?_
    rintro _ wz ⟨hz, hbz⟩
    refine W ?_
    refine WQ_retc rfl rfl rfl hbz rfl ?_
    have hf := gm.fin (y := (.mk 2 (q' : Int) [] [])) hS0 hb4 hy hz
    exact .mk ⟨_, _, hf.1, by rw [size0]; omega, ⟨ty0 (lB2 _ (by omega)), by rw [nest0]; omega⟩, hf.2.1, by omega, hf.2.2⟩
  by_cases k1 : k = 1
  · have h2 : 2 ≤ d := by omega
    replace ih := ih h2
    replace hsp := hsp h2
    repeat' (first | refine W1 ?_ | (exfalso; omega) | refine WL_split rfl rfl (fun hg => ?_) (fun hg => ?_) | refine WL_splitB rfl rfl (fun hg => ?_) (fun hg => ?_) | refine WC_cond rfl (fun hc => ?_) (fun hc => ?_) | refine WC_condB rfl (fun hc => ?_) (fun hc => ?_))
    refine W ?_
    refine WL_eff (OE_call rfl (evs2 rfl rfl) ((ih.2.1) (b4 :: bm :: X) _ bm lv l _ _ (by omega) gm.mkr gm.sl hl (by omega) gm.hX)) rfl ?_
    rintro _ wq ⟨y0, i0, ⟨k0, rfl, s0⟩, z0, ⟨ty0, ne0⟩, hm, hi0, hS⟩
    obtain ⟨p0, c0, rfl, -⟩ := id s0
    replace gm := gm.nxt hm hS
    clear hm hS
    refine W ?_
    refine WL_eff (OE_buildSlice (vs := [(0, .agg #[.int .i64 y0.kind, .int .i64 y0.num, str y0.word, .slice p0 y0.kids.length c0])]) rfl (buildSN1 _ _ _ _ _ _)) rfl ?_
    rintro bv wq hN
    have hbv : SlV (b4 :: bm :: X) wq bv [y0] := hN.slvG (css := [ndC y0 _]) gm.hX rfl rfl rfl (reps1 s0) (by simp [maxLen])
    have hT := NewSl.stp hN
    clear hN
    replace gm := gm.up hT
    clear hT
    refine W ?_
    refine WL_eff (OE_call rfl (evs3 rfl rfl rfl) (node14_any (b4 :: bm :: X) 5 [110, 111, 116] bv [y0] _ gm.hX hbv)) rfl ?_
    rintro _ wq ⟨⟨ky, rfl, hy⟩, hT⟩
    replace gm := gm.up hT
    clear hT hbv
    refine W ?_
    obtain ⟨cs, hcl, hcb⟩ := gm.blk
    refine WL_eff0 (OE_storeA (us := ndC (.mk 5 0 [110, 111, 116] [y0]) _) rfl rfl rfl rfl (ndC_one (x := (.mk 5 0 [110, 111, 116] [y0])) hy) hcb hcl.symm) ?_
    rintro _ wz ⟨hz, hbz⟩
    refine W ?_
    refine WQ_retc rfl rfl rfl hbz rfl ?_
    have hf := gm.fin (y := (.mk 5 0 [110, 111, 116] [y0])) hS0 hb4 hy hz
    exact .mk ⟨_, _, hf.1, by rw [size1]; omega, ⟨ty1 ty0 (rfl), by rw [nest1]; omega⟩, hf.2.1, by omega, hf.2.2⟩
  by_cases k2 : k = 2
  · have h2 : 2 ≤ d := by omega
    replace ih := ih h2
    replace hsp := hsp h2
    repeat' (first | refine W1 ?_ | (exfalso; omega) | refine WL_split rfl rfl (fun hg => ?_) (fun hg => ?_) | refine WL_splitB rfl rfl (fun hg => ?_) (fun hg => ?_) | refine WC_cond rfl (fun hc => ?_) (fun hc => ?_) | refine WC_condB rfl (fun hc => ?_) (fun hc => ?_))
    refine WC_drawn 16 ([b4, bm]) [] [(1, 0), (5, 0), (6, 0), (7, 0), (9, 0), (10, 0), (11, 0), (0, 2), (2, 2), (3, 0), (4, 1), (8, 2), (12, 2), (13, 2), (14, 2), (15, 2)] rfl mixed (by kernel_rfl) (by kernel_rfl) (by kernel_rfl) (fun w1 hS1 => ?_)
    replace gm := gm.up hS1
    refine D ?_
    refine WD_eff rfl trivial (OE_call rfl (evs1 rfl) (words_any [b4, bm] [97, 110, 100, 32, 111, 114] _ (fun c hc => gm.hX c (by simp at hc; rcases hc with rfl | rfl <;> simp)) (by decide))) (fun _ _ h => h.2.mono (by simp)) rfl ?_
    rintro wv wq ⟨hr, hT⟩
    rw [show wordsOf [97, 110, 100, 32, 111, 114] = opsL by decide] at hr
    have hws := hr.slv (fun c hc => gm.hX c (by simp at hc; rcases hc with rfl | rfl <;> simp))
    replace gm := gm.up hT
    clear hr hT
    refine D ?_
    refine WD_eff rfl trivial (OE_call rfl (evs2 rfl rfl) (Next_any bm lv l _ 2 _ (by decide) (by omega) gm.mkr gm.sl hl)) (fun _ _ h => h.choose_spec.2.2.2.mono (by simp)) rfl ?_
    rintro _ wq ⟨q, rfl, hq, hm, hS⟩
    replace gm := gm.nxt hm hS
    replace hws := hws.ext hS (by simp) (fun _ h => .inl h)
    clear hm hS
    have hqn : q < opsL.length := by show q < 2; omega
    refine D ?_
    refine WD_eff rfl trivial (OE_call rfl (evs2 rfl rfl) ((ih.2.1) (b4 :: bm :: X) _ bm lv l _ _ (by omega) gm.mkr gm.sl hl (by omega) gm.hX)) (fun _ _ h => by obtain ⟨_, _, _, _, _, _, _, h⟩ := h; exact h.mono (by simp)) rfl ?_
    rintro _ wq ⟨y0, i0, ⟨k0, rfl, s0⟩, z0, ⟨ty0, ne0⟩, hm, hi0, hS⟩
    obtain ⟨p0, c0, rfl, -⟩ := id s0
    replace gm := gm.nxt hm hS
    replace hws := hws.ext hS (by simp) (fun _ h => .inl h)
    clear hm hS
    refine D ?_
    refine WD_eff rfl trivial (OE_call rfl (evs2 rfl rfl) ((ih.2.1) (b4 :: bm :: X) _ bm lv l _ _ (by omega) gm.mkr gm.sl hl (by omega) gm.hX)) (fun _ _ h => by obtain ⟨_, _, _, _, _, _, _, h⟩ := h; exact h.mono (by simp)) rfl ?_
    rintro _ wq ⟨y1, i1, ⟨k1, rfl, s1⟩, z1, ⟨ty1, ne1⟩, hm, hi1, hS⟩
    obtain ⟨p1, c1, rfl, -⟩ := id s1
    replace gm := gm.nxt hm hS
    replace hws := hws.ext hS (by simp) (fun _ h => .inl h)
    replace s0 := s0.ext hS (by simp) (fun _ h => .inl h)
    clear hm hS
    refine D ?_
    refine WD_eff rfl trivial (OE_buildSlice (vs := [(0, .agg #[.int .i64 y0.kind, .int .i64 y0.num, str y0.word, .slice p0 y0.kids.length c0]), (1, .agg #[.int .i64 y1.kind, .int .i64 y1.num, str y1.word, .slice p1 y1.kids.length c1])]) rfl (buildSN2 _ _ _ _ _ _ _ _ _ _ _ _)) (fun _ _ h => (NewSl.stp h).mono (by simp)) rfl ?_
    rintro bv wq hN
    have hbv : SlV (b4 :: bm :: X) wq bv [y0, y1] := hN.slvG (css := [ndC y0 _, ndC y1 _]) gm.hX rfl rfl rfl (reps2 s0 s1) (by simp [maxLen])
    have hT := NewSl.stp hN
    clear hN
    replace gm := gm.up hT
    replace hws := hws.up hT
    clear hT
    refine D ?_
    refine WD_eff rfl trivial (OE_call rfl (evs3 rfl rfl rfl) (node14_any (b4 :: bm :: X) 6 opsL[q] bv [y0, y1] _ gm.hX hbv)) (fun _ _ h => h.2.mono (by simp)) rfl ?_
    rintro _ wq ⟨⟨ky, rfl, hy⟩, hT⟩
    replace gm := gm.up hT
    clear hT hbv
    refine D ?_
    obtain ⟨cs, hcl, hcb⟩ := gm.blk
    refine WD_eff0 rfl trivial (OE_storeA (us := ndC (.mk 6 0 opsL[q] [y0, y1]) _) rfl rfl rfl rfl (ndC_one (x := (.mk 6 0 opsL[q] [y0, y1])) hy) hcb hcl.symm) (fun _ _ h => h.1.mono (by simp)) ?_
    rintro _ wz ⟨hz, hbz⟩
    refine D ?_
    refine W ?_
    refine WQ_retc rfl rfl rfl hbz rfl ?_
    have hf := gm.fin (y := (.mk 6 0 opsL[q] [y0, y1])) hS0 hb4 hy hz
    exact .mk ⟨_, _, hf.1, by rw [size2]; omega, ⟨ty2 ty0 ty1 (tL _ hqn), by rw [nest2]; omega⟩, hf.2.1, by omega, hf.2.2⟩
  by_cases k3 : k = 3
  · have h2 : 2 ≤ d := by omega
    replace ih := ih h2
    replace hsp := hsp h2
    repeat' (first | refine W1 ?_ | (exfalso; omega) | refine WL_split rfl rfl (fun hg => ?_) (fun hg => ?_) | refine WL_splitB rfl rfl (fun hg => ?_) (fun hg => ?_) | refine WC_cond rfl (fun hc => ?_) (fun hc => ?_) | refine WC_condB rfl (fun hc => ?_) (fun hc => ?_))
    refine W ?_
    refine WL_eff (OE_call rfl (evs2 rfl rfl) ((ih.2.1) (b4 :: bm :: X) _ bm lv l _ _ (by omega) gm.mkr gm.sl hl (by omega) gm.hX)) rfl ?_
    rintro _ wq ⟨y0, i0, ⟨k0, rfl, s0⟩, z0, ⟨ty0, ne0⟩, hm, hi0, hS⟩
    obtain ⟨p0, c0, rfl, -⟩ := id s0
    replace gm := gm.nxt hm hS
    clear hm hS
    refine W ?_
    refine WL_eff (OE_call rfl (evs2 rfl rfl) ((ih.2.1) (b4 :: bm :: X) _ bm lv l _ _ (by omega) gm.mkr gm.sl hl (by omega) gm.hX)) rfl ?_
    rintro _ wq ⟨y1, i1, ⟨k1, rfl, s1⟩, z1, ⟨ty1, ne1⟩, hm, hi1, hS⟩
    obtain ⟨p1, c1, rfl, -⟩ := id s1
    replace gm := gm.nxt hm hS
    replace s0 := s0.ext hS (by simp) (fun _ h => .inl h)
    clear hm hS
    refine W ?_
    refine WL_eff (OE_call rfl (evs2 rfl rfl) ((ih.2.1) (b4 :: bm :: X) _ bm lv l _ _ (by omega) gm.mkr gm.sl hl (by omega) gm.hX)) rfl ?_
    rintro _ wq ⟨y2, i2, ⟨k2, rfl, s2⟩, z2, ⟨ty2, ne2⟩, hm, hi2, hS⟩
    obtain ⟨p2, c2, rfl, -⟩ := id s2
    replace gm := gm.nxt hm hS
    replace s0 := s0.ext hS (by simp) (fun _ h => .inl h)
    replace s1 := s1.ext hS (by simp) (fun _ h => .inl h)
    clear hm hS
    refine W ?_
    refine WL_eff (OE_buildSlice (vs := [(0, .agg #[.int .i64 y0.kind, .int .i64 y0.num, str y0.word, .slice p0 y0.kids.length c0]), (1, .agg #[.int .i64 y1.kind, .int .i64 y1.num, str y1.word, .slice p1 y1.kids.length c1]), (2, .agg #[.int .i64 y2.kind, .int .i64 y2.num, str y2.word, .slice p2 y2.kids.length c2])]) rfl (buildSN3 _ _ _ _ _ _ _ _ _ _ _ _ _ _ _ _ _ _)) rfl ?_
    rintro bv wq hN
    have hbv : SlV (b4 :: bm :: X) wq bv [y0, y1, y2] := hN.slvG (css := [ndC y0 _, ndC y1 _, ndC y2 _]) gm.hX rfl rfl rfl (reps3 s0 s1 s2) (by simp [maxLen])
    have hT := NewSl.stp hN
    clear hN
    replace gm := gm.up hT
    clear hT
    refine W ?_
    refine WL_eff (OE_call rfl (evs3 rfl rfl rfl) (node14_any (b4 :: bm :: X) 9 [] bv [y0, y1, y2] _ gm.hX hbv)) rfl ?_
    rintro _ wq ⟨⟨ky, rfl, hy⟩, hT⟩
    replace gm := gm.up hT
    clear hT hbv
    refine W ?_
    obtain ⟨cs, hcl, hcb⟩ := gm.blk
    refine WL_eff0 (OE_storeA (us := ndC (.mk 9 0 [] [y0, y1, y2]) _) rfl rfl rfl rfl (ndC_one (x := (.mk 9 0 [] [y0, y1, y2])) hy) hcb hcl.symm) ?_
    rintro _ wz ⟨hz, hbz⟩
    refine W ?_
    refine WQ_retc rfl rfl rfl hbz rfl ?_
    have hf := gm.fin (y := (.mk 9 0 [] [y0, y1, y2])) hS0 hb4 hy hz
    exact .mk ⟨_, _, hf.1, by rw [size3]; omega, ⟨ty3 ty0 ty1 ty2 (rfl), by rw [nest3]; omega⟩, hf.2.1, by omega, hf.2.2⟩
  by_cases k4 : k = 4
  · have h2 : 2 ≤ d := by omega
    replace ih := ih h2
    replace hsp := hsp h2
    repeat' (first | refine W1 ?_ | (exfalso; omega) | refine WL_split rfl rfl (fun hg => ?_) (fun hg => ?_) | refine WL_splitB rfl rfl (fun hg => ?_) (fun hg => ?_) | refine WC_cond rfl (fun hc => ?_) (fun hc => ?_) | refine WC_condB rfl (fun hc => ?_) (fun hc => ?_))
    refine WC_drawn 16 ([b4, bm]) [] [(1, 0), (5, 0), (6, 0), (7, 0), (9, 0), (10, 0), (11, 0), (0, 2), (2, 2), (3, 0), (4, 1), (8, 2), (12, 2), (13, 2), (14, 2), (15, 2)] rfl mixed (by kernel_rfl) (by kernel_rfl) (by kernel_rfl) (fun w1 hS1 => ?_)
    replace gm := gm.up hS1
    refine D ?_
    refine WD_eff rfl trivial (OE_call rfl (evs1 rfl) (words_any [b4, bm] [60, 32, 60, 61, 32, 61, 32, 33, 61, 32, 62, 32, 62, 61] _ (fun c hc => gm.hX c (by simp at hc; rcases hc with rfl | rfl <;> simp)) (by decide))) (fun _ _ h => h.2.mono (by simp)) rfl ?_
    rintro wv wq ⟨hr, hT⟩
    rw [show wordsOf [60, 32, 60, 61, 32, 61, 32, 33, 61, 32, 62, 32, 62, 61] = opsC by decide] at hr
    have hws := hr.slv (fun c hc => gm.hX c (by simp at hc; rcases hc with rfl | rfl <;> simp))
    replace gm := gm.up hT
    clear hr hT
    refine D ?_
    refine WD_eff rfl trivial (OE_call rfl (evs2 rfl rfl) (Next_any bm lv l _ 6 _ (by decide) (by omega) gm.mkr gm.sl hl)) (fun _ _ h => h.choose_spec.2.2.2.mono (by simp)) rfl ?_
    rintro _ wq ⟨q, rfl, hq, hm, hS⟩
    replace gm := gm.nxt hm hS
    replace hws := hws.ext hS (by simp) (fun _ h => .inl h)
    clear hm hS
    have hqn : q < opsC.length := by show q < 6; omega
    refine D ?_
    refine WD_eff rfl trivial (OE_call rfl (evs2 rfl rfl) ((ih.2.2) (b4 :: bm :: X) _ bm lv l _ _ (by omega) gm.mkr gm.sl hl (by omega) gm.hX)) (fun _ _ h => by obtain ⟨_, _, _, _, _, _, _, h⟩ := h; exact h.mono (by simp)) rfl ?_
    rintro _ wq ⟨y0, i0, ⟨k0, rfl, s0⟩, z0, ⟨ty0, ne0⟩, hm, hi0, hS⟩
    obtain ⟨p0, c0, rfl, -⟩ := id s0
    replace gm := gm.nxt hm hS
    replace hws := hws.ext hS (by simp) (fun _ h => .inl h)
    clear hm hS
    refine D ?_
    refine WD_eff rfl trivial (OE_call rfl (evs2 rfl rfl) ((ih.2.2) (b4 :: bm :: X) _ bm lv l _ _ (by omega) gm.mkr gm.sl hl (by omega) gm.hX)) (fun _ _ h => by obtain ⟨_, _, _, _, _, _, _, h⟩ := h; exact h.mono (by simp)) rfl ?_
    rintro _ wq ⟨y1, i1, ⟨k1, rfl, s1⟩, z1, ⟨ty1, ne1⟩, hm, hi1, hS⟩
    obtain ⟨p1, c1, rfl, -⟩ := id s1
    replace gm := gm.nxt hm hS
    replace hws := hws.ext hS (by simp) (fun _ h => .inl h)
    replace s0 := s0.ext hS (by simp) (fun _ h => .inl h)
    clear hm hS
    refine D ?_
    refine WD_eff rfl trivial (OE_buildSlice (vs := [(0, .agg #[.int .i64 y0.kind, .int .i64 y0.num, str y0.word, .slice p0 y0.kids.length c0]), (1, .agg #[.int .i64 y1.kind, .int .i64 y1.num, str y1.word, .slice p1 y1.kids.length c1])]) rfl (buildSN2 _ _ _ _ _ _ _ _ _ _ _ _)) (fun _ _ h => (NewSl.stp h).mono (by simp)) rfl ?_
    rintro bv wq hN
    have hbv : SlV (b4 :: bm :: X) wq bv [y0, y1] := hN.slvG (css := [ndC y0 _, ndC y1 _]) gm.hX rfl rfl rfl (reps2 s0 s1) (by simp [maxLen])
    have hT := NewSl.stp hN
    clear hN
    replace gm := gm.up hT
    replace hws := hws.up hT
    clear hT
    refine D ?_
    refine WD_eff rfl trivial (OE_call rfl (evs3 rfl rfl rfl) (node14_any (b4 :: bm :: X) 6 opsC[q] bv [y0, y1] _ gm.hX hbv)) (fun _ _ h => h.2.mono (by simp)) rfl ?_
    rintro _ wq ⟨⟨ky, rfl, hy⟩, hT⟩
    replace gm := gm.up hT
    clear hT hbv
    refine D ?_
    obtain ⟨cs, hcl, hcb⟩ := gm.blk
    refine WD_eff0 rfl trivial (OE_storeA (us := ndC (.mk 6 0 opsC[q] [y0, y1]) _) rfl rfl rfl rfl (ndC_one (x := (.mk 6 0 opsC[q] [y0, y1])) hy) hcb hcl.symm) (fun _ _ h => h.1.mono (by simp)) ?_
    rintro _ wz ⟨hz, hbz⟩
    refine D ?_
    refine W ?_
    refine WQ_retc rfl rfl rfl hbz rfl ?_
    have hf := gm.fin (y := (.mk 6 0 opsC[q] [y0, y1])) hS0 hb4 hy hz
    exact .mk ⟨_, _, hf.1, by rw [size2]; omega, ⟨ty2 ty0 ty1 (tCd _ hqn), by rw [nest2]; omega⟩, hf.2.1, by omega, hf.2.2⟩
  have h2 : 2 ≤ d := by omega
  replace ih := ih h2
  replace hsp := hsp h2
  repeat' (first | refine W1 ?_ | (exfalso; omega) | refine WL_split rfl rfl (fun hg => ?_) (fun hg => ?_) | refine WL_splitB rfl rfl (fun hg => ?_) (fun hg => ?_) | refine WC_cond rfl (fun hc => ?_) (fun hc => ?_) | refine WC_condB rfl (fun hc => ?_) (fun hc => ?_))
  refine WC_drawn 16 ([b4, bm]) [] [(1, 0), (5, 0), (6, 0), (7, 0), (9, 0), (10, 0), (11, 0), (0, 2), (2, 2), (3, 0), (4, 1), (8, 2), (12, 2), (13, 2), (14, 2), (15, 2)] rfl mixed (by kernel_rfl) (by kernel_rfl) (by kernel_rfl) (fun w1 hS1 => ?_)
  replace gm := gm.up hS1
  refine D ?_
  refine WD_eff rfl trivial (OE_call rfl (evs1 rfl) (words_any [b4, bm] [60, 32, 60, 61, 32, 61, 32, 33, 61, 32, 62, 32, 62, 61] _ (fun c hc => gm.hX c (by simp at hc; rcases hc with rfl | rfl <;> simp)) (by decide))) (fun _ _ h => h.2.mono (by simp)) rfl ?_
  rintro wv wq ⟨hr, hT⟩
  rw [show wordsOf [60, 32, 60, 61, 32, 61, 32, 33, 61, 32, 62, 32, 62, 61] = opsC by decide] at hr
  have hws := hr.slv (fun c hc => gm.hX c (by simp at hc; rcases hc with rfl | rfl <;> simp))
  replace gm := gm.up hT
  clear hr hT
  refine D ?_
  refine WD_eff rfl trivial (OE_call rfl (evs2 rfl rfl) (Next_any bm lv l _ 6 _ (by decide) (by omega) gm.mkr gm.sl hl)) (fun _ _ h => h.choose_spec.2.2.2.mono (by simp)) rfl ?_
  rintro _ wq ⟨q, rfl, hq, hm, hS⟩
  replace gm := gm.nxt hm hS
  replace hws := hws.ext hS (by simp) (fun _ h => .inl h)
  clear hm hS
  have hqn : q < opsC.length := by show q < 6; omega
  refine D ?_
  refine WD_eff rfl trivial (OE_call rfl (evs2 rfl rfl) ((ih.1) (b4 :: bm :: X) _ bm lv l _ _ (by omega) gm.mkr gm.sl hl (by omega) gm.hX)) (fun _ _ h => by obtain ⟨_, _, _, _, _, _, _, h⟩ := h; exact h.mono (by simp)) rfl ?_
  rintro _ wq ⟨y0, i0, ⟨k0, rfl, s0⟩, z0, ⟨ty0, ne0⟩, hm, hi0, hS⟩
  obtain ⟨p0, c0, rfl, -⟩ := id s0
  replace gm := gm.nxt hm hS
  replace hws := hws.ext hS (by simp) (fun _ h => .inl h)
  clear hm hS
  refine D ?_
  refine WD_eff rfl trivial (OE_call rfl (evs2 rfl rfl) ((ih.1) (b4 :: bm :: X) _ bm lv l _ _ (by omega) gm.mkr gm.sl hl (by omega) gm.hX)) (fun _ _ h => by obtain ⟨_, _, _, _, _, _, _, h⟩ := h; exact h.mono (by simp)) rfl ?_
  rintro _ wq ⟨y1, i1, ⟨k1, rfl, s1⟩, z1, ⟨ty1, ne1⟩, hm, hi1, hS⟩
  obtain ⟨p1, c1, rfl, -⟩ := id s1
  replace gm := gm.nxt hm hS
  replace hws := hws.ext hS (by simp) (fun _ h => .inl h)
  replace s0 := s0.ext hS (by simp) (fun _ h => .inl h)
  clear hm hS
  refine D ?_
  refine WD_eff rfl trivial (OE_buildSlice (vs := [(0, .agg #[.int .i64 y0.kind, .int .i64 y0.num, str y0.word, .slice p0 y0.kids.length c0]), (1, .agg #[.int .i64 y1.kind, .int .i64 y1.num, str y1.word, .slice p1 y1.kids.length c1])]) rfl (buildSN2 _ _ _ _ _ _ _ _ _ _ _ _)) (fun _ _ h => (NewSl.stp h).mono (by simp)) rfl ?_
  rintro bv wq hN
  have hbv : SlV (b4 :: bm :: X) wq bv [y0, y1] := hN.slvG (css := [ndC y0 _, ndC y1 _]) gm.hX rfl rfl rfl (reps2 s0 s1) (by simp [maxLen])
  have hT := NewSl.stp hN
  clear hN
  replace gm := gm.up hT
  replace hws := hws.up hT
  clear hT
  refine D ?_
  refine WD_eff rfl trivial (OE_call rfl (evs3 rfl rfl rfl) (node14_any (b4 :: bm :: X) 6 opsC[q] bv [y0, y1] _ gm.hX hbv)) (fun _ _ h => h.2.mono (by simp)) rfl ?_
  rintro _ wq ⟨⟨ky, rfl, hy⟩, hT⟩
  replace gm := gm.up hT
  clear hT hbv
  refine D ?_
  obtain ⟨cs, hcl, hcb⟩ := gm.blk
  refine WD_eff0 rfl trivial (OE_storeA (us := ndC (.mk 6 0 opsC[q] [y0, y1]) _) rfl rfl rfl rfl (ndC_one (x := (.mk 6 0 opsC[q] [y0, y1])) hy) hcb hcl.symm) (fun _ _ h => h.1.mono (by simp)) ?_
  rintro _ wz ⟨hz, hbz⟩
  refine D ?_
  refine W ?_
  refine WQ_retc rfl rfl rfl hbz rfl ?_
  have hf := gm.fin (y := (.mk 6 0 opsC[q] [y0, y1])) hS0 hb4 hy hz
  exact .mk ⟨_, _, hf.1, by rw [size2]; omega, ⟨ty2 ty0 ty1 (tCn _ hqn), by rw [nest2]; omega⟩, hf.2.1, by omega, hf.2.2⟩
end Go.Proofs.YtfjmlobgjdmecaaDoor
namespace Go.Proofs.YtfjmlobgjdmecaaDoor
open Go Go.Eng Go.RowKit
set_option linter.unusedVariables false

theorem date_step (d : Nat) (hd1 : 1 ≤ d) (hd2 : d ≤ 6) (ih : 2 ≤ d → GenP 58 (d - 1) ∧ GenP 57 (d - 1) ∧ GenP 56 (d - 1)) : GenP 56 d := by
  intro X w bm lv l i z hz hmk hsl hl hi hX
  subst hz
  have hsz := szD_eq hd1
  have hsp : 2 ≤ d → 1 ≤ szD (d - 1) := fun h => by have := szD_eq (d := d - 1) (by omega); omega
  refine calls_of_WC2 (n := 94) Tryd.func56 rfl rfl rfl ?_
  refine W ?_
  refine WL_eff OE_alloc rfl ?_
  rintro _ w1 ⟨b4, rfl, hb4, hblk4, hS0⟩
  have gm : G (b4 :: bm :: X) w1 w1 bm b4 lv l i := ⟨hmk.up hS0, hsl.up hS0, Stp.refl _ _, ⟨_, rfl, hblk4⟩, fun h => by have := hmk.lt; omega, fun c hc => by
    simp only [List.mem_cons] at hc
    have h1 := hblk4.lt
    have h2 := hmk.lt
    have h3 := hS0.size
    rcases hc with rfl | rfl | hc
    · exact h1
    · omega
    · have := hX c hc; omega⟩
  clear hblk4
  refine W ?_
  refine WL_eff (OE_call rfl (evs2 rfl rfl) (Next_any bm lv l _ 9 _ (by decide) (by omega) gm.mkr gm.sl hl)) rfl ?_
  rintro _ w2 ⟨q, rfl, hq, hm, hS⟩
  replace gm := gm.nxt hm hS
  clear hm hS
  refine W ?_
  refine WC_cutQ (σ := Nat) (fun k => [(0, .pointer (some ⟨bm, 0, none⟩)), (1, .int .i64 (d : Int)), (4, .pointer (some ⟨b4, 0, none⟩)), (5, .int .i64 (k : Int))]) (fun k w' => w' = w2 ∧ k < 9 ∧ (d = 1 → k < 3)) ?_ ?_
  · by_cases h1 : d = 1
    · repeat' (first | refine W1 ?_ | (exfalso; omega) | refine WL_split rfl rfl (fun hg => ?_) (fun hg => ?_) | refine WL_splitB rfl rfl (fun hg => ?_) (fun hg => ?_) | refine WC_cond rfl (fun hc => ?_) (fun hc => ?_) | refine WC_condB rfl (fun hc => ?_) (fun hc => ?_))
      exact WQ_cut (q % 3) ⟨rfl, rfl, rfl, rfl, trivial⟩ ⟨rfl, by omega, fun _ => by omega⟩
    · repeat' (first | refine W1 ?_ | (exfalso; omega) | refine WL_split rfl rfl (fun hg => ?_) (fun hg => ?_) | refine WL_splitB rfl rfl (fun hg => ?_) (fun hg => ?_) | refine WC_cond rfl (fun hc => ?_) (fun hc => ?_) | refine WC_condB rfl (fun hc => ?_) (fun hc => ?_))
      exact WQ_cut q ⟨rfl, rfl, rfl, rfl, trivial⟩ ⟨rfl, by omega, fun h => absurd h h1⟩
  rintro k w3 ⟨rfl, hkn, hk1⟩
  clear hq
  by_cases k0 : k ≤ 1
  · repeat' (first | refine W1 ?_ | (exfalso; omega) | refine WL_split rfl rfl (fun hg => ?_) (fun hg => ?_) | refine WL_splitB rfl rfl (fun hg => ?_) (fun hg => ?_) | refine WC_cond rfl (fun hc => ?_) (fun hc => ?_) | refine WC_condB rfl (fun hc => ?_) (fun hc => ?_))
    all_goals
      refine WL_eff (OE_call rfl evs0 (Fields_any [bm] _ (fun c hc => gm.hX c (by simp at hc; subst hc; simp)))) rfl ?_
      rintro fv wq ⟨hr, hT⟩
      have hws := hr.slv (fun c hc => gm.hX c (by simp at hc; subst hc; simp))
      replace gm := gm.up hT
      clear hr hT
      refine W ?_
      refine WL_eff (OE_call rfl (evs2 rfl rfl) (Next_any bm lv l _ 3 _ (by decide) (by omega) gm.mkr gm.sl hl)) rfl ?_
      rintro _ wq ⟨q', rfl, hq', hm, hS⟩
      replace gm := gm.nxt hm hS
      replace hws := hws.ext hS (by simp) (fun _ h => .inl h)
      clear hm hS
      have hqn : q' / 2 < fieldNames.length := by show q' / 2 < 7; omega
      refine W ?_
      apply WL_build (vs := [(0, .int .i64 4), (2, str _)]) rfl (buildN02 _ _) rfl
      have hy : SlV (α := Nd) (b4 :: bm :: X) wq (.slice none 0 0) [] := nilSlv _ _
      obtain ⟨cs, hcl, hcb⟩ := gm.blk
      refine WL_eff0 (OE_storeA (us := ndC (.mk 4 0 fieldNames[q' / 2] []) _) rfl rfl rfl rfl (ndC_one (x := (.mk 4 0 fieldNames[q' / 2] [])) hy) hcb hcl.symm) ?_
      rintro _ wz ⟨hz, hbz⟩
      refine W ?_
      refine WQ_retc rfl rfl rfl hbz rfl ?_
      have hf := gm.fin (y := (.mk 4 0 fieldNames[q' / 2] [])) hS0 hb4 hy hz
      exact .mk ⟨_, _, hf.1, by rw [size0]; omega, ⟨ty0 (lF3 _ (by omega) hqn), by rw [nest0]; omega⟩, hf.2.1, by omega, hf.2.2⟩
  by_cases k2 : k = 2
  · repeat' (first | refine W1 ?_ | (exfalso; omega) | refine WL_split rfl rfl (fun hg => ?_) (fun hg => ?_) | refine WL_splitB rfl rfl (fun hg => ?_) (fun hg => ?_) | refine WC_cond rfl (fun hc => ?_) (fun hc => ?_) | refine WC_condB rfl (fun hc => ?_) (fun hc => ?_))
    refine W ?_
    refine WL_eff (OE_call rfl (evs2 rfl rfl) (Next_any bm lv l _ 200 _ (by decide) (by omega) gm.mkr gm.sl hl)) rfl ?_
    rintro _ wq ⟨q', rfl, hq', hm, hS⟩
    replace gm := gm.nxt hm hS
    clear hm hS
    refine W ?_
    apply WL_build (vs := [(0, .int .i64 3), (1, .int .i64 _)]) rfl (buildN01 _ _) rfl
    have hy : SlV (α := Nd) (b4 :: bm :: X) wq (.slice none 0 0) [] := nilSlv _ _
    obtain ⟨cs, hcl, hcb⟩ := gm.blk
    refine WL_eff0 (OE_storeA (us := ndC (.mk 3 (739600 + (q' : Int)) [] []) _) rfl rfl rfl rfl (ndC_one (x := (.mk 3 (739600 + (q' : Int)) [] [])) hy) hcb hcl.symm) ?_
    rintro _ wz ⟨hz, hbz⟩
    refine W ?_
    refine WQ_retc rfl rfl rfl hbz rfl ?_
    have hf := gm.fin (y := (.mk 3 (739600 + (q' : Int)) [] [])) hS0 hb4 hy hz
    exact .mk ⟨_, _, hf.1, by rw [size0]; omega, ⟨ty0 (lD3 _ (by omega)), by rw [nest0]; omega⟩, hf.2.1, by omega, hf.2.2⟩
  by_cases k3 : k = 3
  · have h2 : 2 ≤ d := by omega
    replace ih := ih h2
    replace hsp := hsp h2
    repeat' (first | refine W1 ?_ | (exfalso; omega) | refine WL_split rfl rfl (fun hg => ?_) (fun hg => ?_) | refine WL_splitB rfl rfl (fun hg => ?_) (fun hg => ?_) | refine WC_cond rfl (fun hc => ?_) (fun hc => ?_) | refine WC_condB rfl (fun hc => ?_) (fun hc => ?_))
    refine WC_drawn 12 ([b4, bm]) [] [(1, 0), (5, 0), (6, 0), (7, 0), (0, 2), (2, 2), (3, 0), (4, 1), (8, 2), (9, 2), (10, 2), (11, 2)] rfl mixed (by kernel_rfl) (by kernel_rfl) (by kernel_rfl) (fun w1 hS1 => ?_)
    replace gm := gm.up hS1
    refine D ?_
    refine WD_eff rfl trivial (OE_call rfl (evs1 rfl) (words_any [b4, bm] [110, 101, 120, 116, 32, 112, 114, 101, 118] _ (fun c hc => gm.hX c (by simp at hc; rcases hc with rfl | rfl <;> simp)) (by decide))) (fun _ _ h => h.2.mono (by simp)) rfl ?_
    rintro wv wq ⟨hr, hT⟩
    rw [show wordsOf [110, 101, 120, 116, 32, 112, 114, 101, 118] = opsN by decide] at hr
    have hws := hr.slv (fun c hc => gm.hX c (by simp at hc; rcases hc with rfl | rfl <;> simp))
    replace gm := gm.up hT
    clear hr hT
    refine D ?_
    refine WD_eff rfl trivial (OE_call rfl (evs2 rfl rfl) (Next_any bm lv l _ 2 _ (by decide) (by omega) gm.mkr gm.sl hl)) (fun _ _ h => h.choose_spec.2.2.2.mono (by simp)) rfl ?_
    rintro _ wq ⟨q, rfl, hq, hm, hS⟩
    replace gm := gm.nxt hm hS
    replace hws := hws.ext hS (by simp) (fun _ h => .inl h)
    clear hm hS
    have hqn : q < opsN.length := by show q < 2; omega
    refine D ?_
    refine WD_eff rfl trivial (OE_call rfl (evs2 rfl rfl) ((ih.2.2) (b4 :: bm :: X) _ bm lv l _ _ (by omega) gm.mkr gm.sl hl (by omega) gm.hX)) (fun _ _ h => by obtain ⟨_, _, _, _, _, _, _, h⟩ := h; exact h.mono (by simp)) rfl ?_
    rintro _ wq ⟨y0, i0, ⟨k0, rfl, s0⟩, z0, ⟨ty0, ne0⟩, hm, hi0, hS⟩
    obtain ⟨p0, c0, rfl, -⟩ := id s0
    replace gm := gm.nxt hm hS
    replace hws := hws.ext hS (by simp) (fun _ h => .inl h)
    clear hm hS
    refine D ?_
    refine WD_eff rfl trivial (OE_buildSlice (vs := [(0, .agg #[.int .i64 y0.kind, .int .i64 y0.num, str y0.word, .slice p0 y0.kids.length c0])]) rfl (buildSN1 _ _ _ _ _ _)) (fun _ _ h => (NewSl.stp h).mono (by simp)) rfl ?_
    rintro bv wq hN
    have hbv : SlV (b4 :: bm :: X) wq bv [y0] := hN.slvG (css := [ndC y0 _]) gm.hX rfl rfl rfl (reps1 s0) (by simp [maxLen])
    have hT := NewSl.stp hN
    clear hN
    replace gm := gm.up hT
    replace hws := hws.up hT
    clear hT
    refine D ?_
    refine WD_eff rfl trivial (OE_call rfl (evs3 rfl rfl rfl) (node14_any (b4 :: bm :: X) 10 opsN[q] bv [y0] _ gm.hX hbv)) (fun _ _ h => h.2.mono (by simp)) rfl ?_
    rintro _ wq ⟨⟨ky, rfl, hy⟩, hT⟩
    replace gm := gm.up hT
    clear hT hbv
    refine D ?_
    obtain ⟨cs, hcl, hcb⟩ := gm.blk
    refine WD_eff0 rfl trivial (OE_storeA (us := ndC (.mk 10 0 opsN[q] [y0]) _) rfl rfl rfl rfl (ndC_one (x := (.mk 10 0 opsN[q] [y0])) hy) hcb hcl.symm) (fun _ _ h => h.1.mono (by simp)) ?_
    rintro _ wz ⟨hz, hbz⟩
    refine D ?_
    refine W ?_
    refine WQ_retc rfl rfl rfl hbz rfl ?_
    have hf := gm.fin (y := (.mk 10 0 opsN[q] [y0])) hS0 hb4 hy hz
    exact .mk ⟨_, _, hf.1, by rw [size1]; omega, ⟨ty1 ty0 (tN _ hqn), by rw [nest1]; omega⟩, hf.2.1, by omega, hf.2.2⟩
  by_cases k4 : k = 4
  · have h2 : 2 ≤ d := by omega
    replace ih := ih h2
    replace hsp := hsp h2
    repeat' (first | refine W1 ?_ | (exfalso; omega) | refine WL_split rfl rfl (fun hg => ?_) (fun hg => ?_) | refine WL_splitB rfl rfl (fun hg => ?_) (fun hg => ?_) | refine WC_cond rfl (fun hc => ?_) (fun hc => ?_) | refine WC_condB rfl (fun hc => ?_) (fun hc => ?_))
    refine WC_drawn 16 ([b4, bm]) [] [(1, 0), (5, 0), (6, 0), (7, 0), (9, 0), (10, 0), (11, 0), (0, 2), (2, 2), (3, 0), (4, 1), (8, 2), (12, 2), (13, 2), (14, 2), (15, 2)] rfl mixed (by kernel_rfl) (by kernel_rfl) (by kernel_rfl) (fun w1 hS1 => ?_)
    replace gm := gm.up hS1
    refine D ?_
    refine WD_eff rfl trivial (OE_call rfl (evs1 rfl) (words_any [b4, bm] [108, 97, 116, 101, 114, 32, 101, 97, 114, 108, 105, 101, 114] _ (fun c hc => gm.hX c (by simp at hc; rcases hc with rfl | rfl <;> simp)) (by decide))) (fun _ _ h => h.2.mono (by simp)) rfl ?_
    rintro wv wq ⟨hr, hT⟩
    rw [show wordsOf [108, 97, 116, 101, 114, 32, 101, 97, 114, 108, 105, 101, 114] = opsE by decide] at hr
    have hws := hr.slv (fun c hc => gm.hX c (by simp at hc; rcases hc with rfl | rfl <;> simp))
    replace gm := gm.up hT
    clear hr hT
    refine D ?_
    refine WD_eff rfl trivial (OE_call rfl (evs2 rfl rfl) (Next_any bm lv l _ 2 _ (by decide) (by omega) gm.mkr gm.sl hl)) (fun _ _ h => h.choose_spec.2.2.2.mono (by simp)) rfl ?_
    rintro _ wq ⟨q, rfl, hq, hm, hS⟩
    replace gm := gm.nxt hm hS
    replace hws := hws.ext hS (by simp) (fun _ h => .inl h)
    clear hm hS
    have hqn : q < opsE.length := by show q < 2; omega
    refine D ?_
    refine WD_eff rfl trivial (OE_call rfl (evs2 rfl rfl) ((ih.2.2) (b4 :: bm :: X) _ bm lv l _ _ (by omega) gm.mkr gm.sl hl (by omega) gm.hX)) (fun _ _ h => by obtain ⟨_, _, _, _, _, _, _, h⟩ := h; exact h.mono (by simp)) rfl ?_
    rintro _ wq ⟨y0, i0, ⟨k0, rfl, s0⟩, z0, ⟨ty0, ne0⟩, hm, hi0, hS⟩
    obtain ⟨p0, c0, rfl, -⟩ := id s0
    replace gm := gm.nxt hm hS
    replace hws := hws.ext hS (by simp) (fun _ h => .inl h)
    clear hm hS
    refine D ?_
    refine WD_eff rfl trivial (OE_call rfl (evs2 rfl rfl) ((ih.2.2) (b4 :: bm :: X) _ bm lv l _ _ (by omega) gm.mkr gm.sl hl (by omega) gm.hX)) (fun _ _ h => by obtain ⟨_, _, _, _, _, _, _, h⟩ := h; exact h.mono (by simp)) rfl ?_
    rintro _ wq ⟨y1, i1, ⟨k1, rfl, s1⟩, z1, ⟨ty1, ne1⟩, hm, hi1, hS⟩
    obtain ⟨p1, c1, rfl, -⟩ := id s1
    replace gm := gm.nxt hm hS
    replace hws := hws.ext hS (by simp) (fun _ h => .inl h)
    replace s0 := s0.ext hS (by simp) (fun _ h => .inl h)
    clear hm hS
    refine D ?_
    refine WD_eff rfl trivial (OE_buildSlice (vs := [(0, .agg #[.int .i64 y0.kind, .int .i64 y0.num, str y0.word, .slice p0 y0.kids.length c0]), (1, .agg #[.int .i64 y1.kind, .int .i64 y1.num, str y1.word, .slice p1 y1.kids.length c1])]) rfl (buildSN2 _ _ _ _ _ _ _ _ _ _ _ _)) (fun _ _ h => (NewSl.stp h).mono (by simp)) rfl ?_
    rintro bv wq hN
    have hbv : SlV (b4 :: bm :: X) wq bv [y0, y1] := hN.slvG (css := [ndC y0 _, ndC y1 _]) gm.hX rfl rfl rfl (reps2 s0 s1) (by simp [maxLen])
    have hT := NewSl.stp hN
    clear hN
    replace gm := gm.up hT
    replace hws := hws.up hT
    clear hT
    refine D ?_
    refine WD_eff rfl trivial (OE_call rfl (evs3 rfl rfl rfl) (node14_any (b4 :: bm :: X) 10 opsE[q] bv [y0, y1] _ gm.hX hbv)) (fun _ _ h => h.2.mono (by simp)) rfl ?_
    rintro _ wq ⟨⟨ky, rfl, hy⟩, hT⟩
    replace gm := gm.up hT
    clear hT hbv
    refine D ?_
    obtain ⟨cs, hcl, hcb⟩ := gm.blk
    refine WD_eff0 rfl trivial (OE_storeA (us := ndC (.mk 10 0 opsE[q] [y0, y1]) _) rfl rfl rfl rfl (ndC_one (x := (.mk 10 0 opsE[q] [y0, y1])) hy) hcb hcl.symm) (fun _ _ h => h.1.mono (by simp)) ?_
    rintro _ wz ⟨hz, hbz⟩
    refine D ?_
    refine W ?_
    refine WQ_retc rfl rfl rfl hbz rfl ?_
    have hf := gm.fin (y := (.mk 10 0 opsE[q] [y0, y1])) hS0 hb4 hy hz
    exact .mk ⟨_, _, hf.1, by rw [size2]; omega, ⟨ty2 ty0 ty1 (tE _ hqn), by rw [nest2]; omega⟩, hf.2.1, by omega, hf.2.2⟩
  by_cases k5 : k = 5
  · have h2 : 2 ≤ d := by omega
    replace ih := ih h2
    replace hsp := hsp h2
    repeat' (first | refine W1 ?_ | (exfalso; omega) | refine WL_split rfl rfl (fun hg => ?_) (fun hg => ?_) | refine WL_splitB rfl rfl (fun hg => ?_) (fun hg => ?_) | refine WC_cond rfl (fun hc => ?_) (fun hc => ?_) | refine WC_condB rfl (fun hc => ?_) (fun hc => ?_))
    refine W ?_
    refine WL_eff (OE_call rfl (evs2 rfl rfl) ((ih.2.1) (b4 :: bm :: X) _ bm lv l _ _ (by omega) gm.mkr gm.sl hl (by omega) gm.hX)) rfl ?_
    rintro _ wq ⟨y0, i0, ⟨k0, rfl, s0⟩, z0, ⟨ty0, ne0⟩, hm, hi0, hS⟩
    obtain ⟨p0, c0, rfl, -⟩ := id s0
    replace gm := gm.nxt hm hS
    clear hm hS
    refine W ?_
    refine WL_eff (OE_call rfl (evs2 rfl rfl) ((ih.2.2) (b4 :: bm :: X) _ bm lv l _ _ (by omega) gm.mkr gm.sl hl (by omega) gm.hX)) rfl ?_
    rintro _ wq ⟨y1, i1, ⟨k1, rfl, s1⟩, z1, ⟨ty1, ne1⟩, hm, hi1, hS⟩
    obtain ⟨p1, c1, rfl, -⟩ := id s1
    replace gm := gm.nxt hm hS
    replace s0 := s0.ext hS (by simp) (fun _ h => .inl h)
    clear hm hS
    refine W ?_
    refine WL_eff (OE_call rfl (evs2 rfl rfl) ((ih.2.2) (b4 :: bm :: X) _ bm lv l _ _ (by omega) gm.mkr gm.sl hl (by omega) gm.hX)) rfl ?_
    rintro _ wq ⟨y2, i2, ⟨k2, rfl, s2⟩, z2, ⟨ty2, ne2⟩, hm, hi2, hS⟩
    obtain ⟨p2, c2, rfl, -⟩ := id s2
    replace gm := gm.nxt hm hS
    replace s0 := s0.ext hS (by simp) (fun _ h => .inl h)
    replace s1 := s1.ext hS (by simp) (fun _ h => .inl h)
    clear hm hS
    refine W ?_
    refine WL_eff (OE_buildSlice (vs := [(0, .agg #[.int .i64 y0.kind, .int .i64 y0.num, str y0.word, .slice p0 y0.kids.length c0]), (1, .agg #[.int .i64 y1.kind, .int .i64 y1.num, str y1.word, .slice p1 y1.kids.length c1]), (2, .agg #[.int .i64 y2.kind, .int .i64 y2.num, str y2.word, .slice p2 y2.kids.length c2])]) rfl (buildSN3 _ _ _ _ _ _ _ _ _ _ _ _ _ _ _ _ _ _)) rfl ?_
    rintro bv wq hN
    have hbv : SlV (b4 :: bm :: X) wq bv [y0, y1, y2] := hN.slvG (css := [ndC y0 _, ndC y1 _, ndC y2 _]) gm.hX rfl rfl rfl (reps3 s0 s1 s2) (by simp [maxLen])
    have hT := NewSl.stp hN
    clear hN
    replace gm := gm.up hT
    clear hT
    refine W ?_
    refine WL_eff (OE_call rfl (evs3 rfl rfl rfl) (node14_any (b4 :: bm :: X) 9 [] bv [y0, y1, y2] _ gm.hX hbv)) rfl ?_
    rintro _ wq ⟨⟨ky, rfl, hy⟩, hT⟩
    replace gm := gm.up hT
    clear hT hbv
    refine W ?_
    obtain ⟨cs, hcl, hcb⟩ := gm.blk
    refine WL_eff0 (OE_storeA (us := ndC (.mk 9 0 [] [y0, y1, y2]) _) rfl rfl rfl rfl (ndC_one (x := (.mk 9 0 [] [y0, y1, y2])) hy) hcb hcl.symm) ?_
    rintro _ wz ⟨hz, hbz⟩
    refine W ?_
    refine WQ_retc rfl rfl rfl hbz rfl ?_
    have hf := gm.fin (y := (.mk 9 0 [] [y0, y1, y2])) hS0 hb4 hy hz
    exact .mk ⟨_, _, hf.1, by rw [size3]; omega, ⟨ty3 ty0 ty1 ty2 (rfl), by rw [nest3]; omega⟩, hf.2.1, by omega, hf.2.2⟩
  by_cases k6 : k = 6
  · have h2 : 2 ≤ d := by omega
    replace ih := ih h2
    replace hsp := hsp h2
    repeat' (first | refine W1 ?_ | (exfalso; omega) | refine WL_split rfl rfl (fun hg => ?_) (fun hg => ?_) | refine WL_splitB rfl rfl (fun hg => ?_) (fun hg => ?_) | refine WC_cond rfl (fun hc => ?_) (fun hc => ?_) | refine WC_condB rfl (fun hc => ?_) (fun hc => ?_))
    refine WC_drawn 17 ([b4, bm]) [] [(0, 0), (2, 0), (6, 0), (7, 0), (8, 0), (10, 0), (11, 0), (12, 0), (1, 2), (3, 2), (4, 0), (5, 1), (9, 2), (13, 2), (14, 2), (15, 2), (16, 2)] rfl mixed (by kernel_rfl) (by kernel_rfl) (by kernel_rfl) (fun w1 hS1 => ?_)
    replace gm := gm.up hS1
    refine D ?_
    refine WD_eff rfl trivial (OE_call rfl (evs1 rfl) (words_any [b4, bm] [100, 97, 121, 115, 32, 119, 101, 101, 107, 115, 32, 109, 111, 110, 116, 104, 115, 32, 99, 111, 117, 114, 116, 100, 97, 121, 115] _ (fun c hc => gm.hX c (by simp at hc; rcases hc with rfl | rfl <;> simp)) (by decide))) (fun _ _ h => h.2.mono (by simp)) rfl ?_
    rintro wv wq ⟨hr, hT⟩
    rw [show wordsOf [100, 97, 121, 115, 32, 119, 101, 101, 107, 115, 32, 109, 111, 110, 116, 104, 115, 32, 99, 111, 117, 114, 116, 100, 97, 121, 115] = units by decide] at hr
    have hws := hr.slv (fun c hc => gm.hX c (by simp at hc; rcases hc with rfl | rfl <;> simp))
    replace gm := gm.up hT
    clear hr hT
    refine D ?_
    refine WD_eff rfl trivial (OE_call rfl (evs2 rfl rfl) (Next_any bm lv l _ 4 _ (by decide) (by omega) gm.mkr gm.sl hl)) (fun _ _ h => h.choose_spec.2.2.2.mono (by simp)) rfl ?_
    rintro _ wq ⟨q, rfl, hq, hm, hS⟩
    replace gm := gm.nxt hm hS
    replace hws := hws.ext hS (by simp) (fun _ h => .inl h)
    clear hm hS
    have hqn : q < units.length := by show q < 4; omega
    refine D ?_
    refine WD_eff rfl trivial (OE_call rfl (evs2 rfl rfl) ((ih.2.2) (b4 :: bm :: X) _ bm lv l _ _ (by omega) gm.mkr gm.sl hl (by omega) gm.hX)) (fun _ _ h => by obtain ⟨_, _, _, _, _, _, _, h⟩ := h; exact h.mono (by simp)) rfl ?_
    rintro _ wq ⟨y0, i0, ⟨k0, rfl, s0⟩, z0, ⟨ty0, ne0⟩, hm, hi0, hS⟩
    obtain ⟨p0, c0, rfl, -⟩ := id s0
    replace gm := gm.nxt hm hS
    replace hws := hws.ext hS (by simp) (fun _ h => .inl h)
    clear hm hS
    refine D ?_
    refine WD_eff rfl trivial (OE_call rfl (evs2 rfl rfl) ((ih.1) (b4 :: bm :: X) _ bm lv l _ _ (by omega) gm.mkr gm.sl hl (by omega) gm.hX)) (fun _ _ h => by obtain ⟨_, _, _, _, _, _, _, h⟩ := h; exact h.mono (by simp)) rfl ?_
    rintro _ wq ⟨y1, i1, ⟨k1, rfl, s1⟩, z1, ⟨ty1, ne1⟩, hm, hi1, hS⟩
    obtain ⟨p1, c1, rfl, -⟩ := id s1
    replace gm := gm.nxt hm hS
    replace hws := hws.ext hS (by simp) (fun _ h => .inl h)
    replace s0 := s0.ext hS (by simp) (fun _ h => .inl h)
    clear hm hS
    refine D ?_
    refine WD_eff rfl trivial (OE_buildSlice (vs := [(0, .agg #[.int .i64 y0.kind, .int .i64 y0.num, str y0.word, .slice p0 y0.kids.length c0]), (1, .agg #[.int .i64 y1.kind, .int .i64 y1.num, str y1.word, .slice p1 y1.kids.length c1])]) rfl (buildSN2 _ _ _ _ _ _ _ _ _ _ _ _)) (fun _ _ h => (NewSl.stp h).mono (by simp)) rfl ?_
    rintro bv wq hN
    have hbv : SlV (b4 :: bm :: X) wq bv [y0, y1] := hN.slvG (css := [ndC y0 _, ndC y1 _]) gm.hX rfl rfl rfl (reps2 s0 s1) (by simp [maxLen])
    have hT := NewSl.stp hN
    clear hN
    replace gm := gm.up hT
    replace hws := hws.up hT
    clear hT
    refine D ?_
    refine WD_eff rfl trivial (OE_call rfl (evs3 rfl rfl rfl) (node14_any (b4 :: bm :: X) 8 units[q] bv [y0, y1] _ gm.hX hbv)) (fun _ _ h => h.2.mono (by simp)) rfl ?_
    rintro _ wq ⟨⟨ky, rfl, hy⟩, hT⟩
    replace gm := gm.up hT
    clear hT hbv
    refine D ?_
    obtain ⟨cs, hcl, hcb⟩ := gm.blk
    refine WD_eff0 rfl trivial (OE_storeA (us := ndC (.mk 8 0 units[q] [y0, y1]) _) rfl rfl rfl rfl (ndC_one (x := (.mk 8 0 units[q] [y0, y1])) hy) hcb hcl.symm) (fun _ _ h => h.1.mono (by simp)) ?_
    rintro _ wz ⟨hz, hbz⟩
    refine D ?_
    refine W ?_
    refine WQ_retc rfl rfl rfl hbz rfl ?_
    have hf := gm.fin (y := (.mk 8 0 units[q] [y0, y1])) hS0 hb4 hy hz
    exact .mk ⟨_, _, hf.1, by rw [size2]; omega, ⟨ty2 ty0 ty1 (tU8 _ hqn), by rw [nest2]; omega⟩, hf.2.1, by omega, hf.2.2⟩
  have h2 : 2 ≤ d := by omega
  replace ih := ih h2
  replace hsp := hsp h2
  repeat' (first | refine W1 ?_ | (exfalso; omega) | refine WL_split rfl rfl (fun hg => ?_) (fun hg => ?_) | refine WL_splitB rfl rfl (fun hg => ?_) (fun hg => ?_) | refine WC_cond rfl (fun hc => ?_) (fun hc => ?_) | refine WC_condB rfl (fun hc => ?_) (fun hc => ?_))
  refine WC_drawn 17 ([b4, bm]) [] [(0, 0), (2, 0), (6, 0), (7, 0), (8, 0), (10, 0), (11, 0), (12, 0), (1, 2), (3, 2), (4, 0), (5, 1), (9, 2), (13, 2), (14, 2), (15, 2), (16, 2)] rfl mixed (by kernel_rfl) (by kernel_rfl) (by kernel_rfl) (fun w1 hS1 => ?_)
  replace gm := gm.up hS1
  refine D ?_
  refine WD_eff rfl trivial (OE_call rfl (evs1 rfl) (words_any [b4, bm] [100, 97, 121, 115, 32, 119, 101, 101, 107, 115, 32, 109, 111, 110, 116, 104, 115, 32, 99, 111, 117, 114, 116, 100, 97, 121, 115] _ (fun c hc => gm.hX c (by simp at hc; rcases hc with rfl | rfl <;> simp)) (by decide))) (fun _ _ h => h.2.mono (by simp)) rfl ?_
  rintro wv wq ⟨hr, hT⟩
  rw [show wordsOf [100, 97, 121, 115, 32, 119, 101, 101, 107, 115, 32, 109, 111, 110, 116, 104, 115, 32, 99, 111, 117, 114, 116, 100, 97, 121, 115] = units by decide] at hr
  have hws := hr.slv (fun c hc => gm.hX c (by simp at hc; rcases hc with rfl | rfl <;> simp))
  replace gm := gm.up hT
  clear hr hT
  refine D ?_
  refine WD_eff rfl trivial (OE_call rfl (evs2 rfl rfl) (Next_any bm lv l _ 4 _ (by decide) (by omega) gm.mkr gm.sl hl)) (fun _ _ h => h.choose_spec.2.2.2.mono (by simp)) rfl ?_
  rintro _ wq ⟨q, rfl, hq, hm, hS⟩
  replace gm := gm.nxt hm hS
  replace hws := hws.ext hS (by simp) (fun _ h => .inl h)
  clear hm hS
  have hqn : q < units.length := by show q < 4; omega
  refine D ?_
  refine WD_eff rfl trivial (OE_call rfl (evs2 rfl rfl) ((ih.2.2) (b4 :: bm :: X) _ bm lv l _ _ (by omega) gm.mkr gm.sl hl (by omega) gm.hX)) (fun _ _ h => by obtain ⟨_, _, _, _, _, _, _, h⟩ := h; exact h.mono (by simp)) rfl ?_
  rintro _ wq ⟨y0, i0, ⟨k0, rfl, s0⟩, z0, ⟨ty0, ne0⟩, hm, hi0, hS⟩
  obtain ⟨p0, c0, rfl, -⟩ := id s0
  replace gm := gm.nxt hm hS
  replace hws := hws.ext hS (by simp) (fun _ h => .inl h)
  clear hm hS
  refine D ?_
  refine WD_eff rfl trivial (OE_call rfl (evs2 rfl rfl) ((ih.1) (b4 :: bm :: X) _ bm lv l _ _ (by omega) gm.mkr gm.sl hl (by omega) gm.hX)) (fun _ _ h => by obtain ⟨_, _, _, _, _, _, _, h⟩ := h; exact h.mono (by simp)) rfl ?_
  rintro _ wq ⟨y1, i1, ⟨k1, rfl, s1⟩, z1, ⟨ty1, ne1⟩, hm, hi1, hS⟩
  obtain ⟨p1, c1, rfl, -⟩ := id s1
  replace gm := gm.nxt hm hS
  replace hws := hws.ext hS (by simp) (fun _ h => .inl h)
  replace s0 := s0.ext hS (by simp) (fun _ h => .inl h)
  clear hm hS
  refine D ?_
  refine WD_eff rfl trivial (OE_buildSlice (vs := [(0, .agg #[.int .i64 y0.kind, .int .i64 y0.num, str y0.word, .slice p0 y0.kids.length c0]), (1, .agg #[.int .i64 y1.kind, .int .i64 y1.num, str y1.word, .slice p1 y1.kids.length c1])]) rfl (buildSN2 _ _ _ _ _ _ _ _ _ _ _ _)) (fun _ _ h => (NewSl.stp h).mono (by simp)) rfl ?_
  rintro bv wq hN
  have hbv : SlV (b4 :: bm :: X) wq bv [y0, y1] := hN.slvG (css := [ndC y0 _, ndC y1 _]) gm.hX rfl rfl rfl (reps2 s0 s1) (by simp [maxLen])
  have hT := NewSl.stp hN
  clear hN
  replace gm := gm.up hT
  replace hws := hws.up hT
  clear hT
  refine D ?_
  refine WD_eff rfl trivial (OE_call rfl (evs3 rfl rfl rfl) (node14_any (b4 :: bm :: X) 7 units[q] bv [y0, y1] _ gm.hX hbv)) (fun _ _ h => h.2.mono (by simp)) rfl ?_
  rintro _ wq ⟨⟨ky, rfl, hy⟩, hT⟩
  replace gm := gm.up hT
  clear hT hbv
  refine D ?_
  obtain ⟨cs, hcl, hcb⟩ := gm.blk
  refine WD_eff0 rfl trivial (OE_storeA (us := ndC (.mk 7 0 units[q] [y0, y1]) _) rfl rfl rfl rfl (ndC_one (x := (.mk 7 0 units[q] [y0, y1])) hy) hcb hcl.symm) (fun _ _ h => h.1.mono (by simp)) ?_
  rintro _ wz ⟨hz, hbz⟩
  refine D ?_
  refine W ?_
  refine WQ_retc rfl rfl rfl hbz rfl ?_
  have hf := gm.fin (y := (.mk 7 0 units[q] [y0, y1])) hS0 hb4 hy hz
  exact .mk ⟨_, _, hf.1, by rw [size2]; omega, ⟨ty2 ty0 ty1 (tU7 _ hqn), by rw [nest2]; omega⟩, hf.2.1, by omega, hf.2.2⟩
end Go.Proofs.YtfjmlobgjdmecaaDoor
