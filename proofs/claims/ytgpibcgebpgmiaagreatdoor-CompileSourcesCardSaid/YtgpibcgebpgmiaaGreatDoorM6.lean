/-
Merged by program out of own texts: Shr1, Shr2, Shr3, Gn2, Gq5, Gq6, Ckc1, Flt1, Wir0, Wir1, Wir2, Wir3, Enc1, Dec0, Dec1, Part1, Tyo1, Cty0, Cty1, Enc2, Rdr1, Rdr2, Rdr3, Cso1.
-/
import Derived.Test.YtgpibcgebpgmiaaGreatDoorM5
set_option linter.unusedVariables false
set_option linter.unusedSimpArgs false
namespace Go.Proofs.YtgpibcgebpgmiaaGreatDoor
open Go Go.Eng Go.RowKit Go.Proofs
theorem among13_any (X : List Nat) (v : Value) (l : List Str) (s : Str) (w : World) (hs : SlV X w v l) : Calls Tryz.prog 201 #[v, str s] w (Ret fun r w' => r = .bool (decide (s ∈ l)) ∧ w' = w) := by
 have hmax := hs.max
 refine calls_of_WC2 (n := 18) Tryz.func201 rfl rfl rfl ?_
 refine W ?_
 refine WC_loop (σ := Nat) (fun i => [(0, v), (1, str s), (5, .int .i64 (i : Int))]) (fun i w' => w' = w ∧ i ≤ l.length ∧ s ∉ l.take i) (fun i => l.length - i) 0 ⟨rfl, rfl, rfl, trivial⟩ ⟨rfl, Nat.zero_le _, by simp⟩ ?_
 rintro i w1 ⟨rfl, hi, hno⟩
 by_cases hlt : i < l.length
 · repeat' (first | refine W1 ?_ | (exfalso; omega) | (refine VG ?_ ?_ <;> intro hg) | (refine VC ?_ ?_ <;> intro hc))
   · have he := hc
     refine WR ?_
     exact .mk ⟨by rw [decide_eq_true (he ▸ List.getElem_mem hlt)], rfl⟩
   · have he := hc
     exact WQ_loop (i + 1) ⟨rfl, rfl, rfl, trivial⟩ ⟨rfl, hlt, by
      rw [List.take_succ_eq_append_getElem hlt]
      simp only [List.mem_append, List.mem_singleton, not_or]
      exact ⟨hno, fun h => he h.symm⟩⟩ (by omega)
 · obtain rfl : i = l.length := by omega
   rw [List.take_length] at hno
   repeat' (first | refine W1 ?_ | (exfalso; omega) | (refine VG ?_ ?_ <;> intro hg) | (refine VC ?_ ?_ <;> intro hc))
   refine WR ?_
   exact .mk ⟨by rw [decide_eq_false hno], rfl⟩
theorem lev_in {s : Str} {k : Nat} (hk : 1 ≤ k) (hk5 : k ≤ 5) (h3 : k ≠ 3) (h : s ∈ levS (k : Int)) : levelO s = k := by
 have : k = 1 ∨ k = 2 ∨ k = 4 ∨ k = 5 := by omega
 rcases this with rfl | rfl | rfl | rfl
 · revert h; have : ∀ s ∈ levS 1, levelO s = 1 := by decide
   exact this s
 · revert h; have : ∀ s ∈ levS 2, levelO s = 2 := by decide
   exact this s
 · revert h; have : ∀ s ∈ levS 4, levelO s = 4 := by decide
   exact this s
 · revert h; have : ∀ s ∈ levS 5, levelO s = 5 := by decide
   exact this s
theorem lev_out {s : Str} (hm : s ∈ opsAll) (h : ∀ k : Nat, 1 ≤ k → k < 6 → k ≠ 3 → s ∉ levS (k : Int)) : levelO s = 6 := by
 have h1 := h 1 (by omega) (by omega) (by omega)
 have h2 := h 2 (by omega) (by omega) (by omega)
 have h4 := h 4 (by omega) (by omega) (by omega)
 have h5 := h 5 (by omega) (by omega) (by omega)
 have key : ∀ s ∈ opsAll, s ∉ levS 1 → s ∉ levS 2 → s ∉ levS 4 → s ∉ levS 5 → levelO s = 6 := by decide
 exact key s hm h1 h2 h4 h5
theorem Level13_any (x : Nd) (hx : Wf x) (X : List Nat) (v : Value) (w : World) (hv : NdV X w v x) : Calls Tryz.prog 166 #[v] w (Ret fun r w' => r = .int .i64 (lvl x : Int) ∧ Stp [] w w') := by
 obtain ⟨kv, rfl, hs⟩ := hv
 have hop : x.kind = 6 → x.word ∈ opsAll := by
  intro h
  cases hx with
  | bin s a b hs1 ha hb => exact levelO_mem hs1
  | _ => exact absurd h (by simp only [Nd.kind]; decide)
 generalize hk : x.kind = k at *
 generalize hw : x.word = s at *
 have hlv : lvl x = if k = 6 then levelO s else if k = 7 ∨ k = 8 then 5 else if k = 5 then (if s = [110, 111, 116] then 3 else 7) else 8 := by unfold lvl; rw [hk, hw]
 rw [hlv]
 refine calls_of_WC1 (n := 30) Tryz.func166 rfl rfl rfl ?_
 refine W ?_
 refine WL_eff (OE_box rfl) rfl ?_
 rintro _ w1 ⟨b, rfl, hb, hblk, hS⟩
 replace hblk : Blk w1 b _ [.int .i64 k, .int .i64 x.num, str s, kv] := hblk
 by_cases h78 : k = 7 ∨ k = 8
 · rw [if_neg (by omega), if_pos h78]
   repeat' (first | refine W1 ?_ | (exfalso; omega) | (refine VG ?_ ?_ <;> intro hg) | (refine VC ?_ ?_ <;> intro hc))
   all_goals refine WR ?_
   all_goals exact .mk ⟨rfl, hS⟩
 by_cases h5 : k = 5
 · rw [if_neg (by omega), if_neg h78, if_pos h5]
   repeat' (first | refine W1 ?_ | (exfalso; omega) | (refine VG ?_ ?_ <;> intro hg) | (refine VC ?_ ?_ <;> intro hc))
   · have hn := hc
     refine WR ?_
     exact .mk ⟨by rw [if_pos hn]; rfl, hS⟩
   · have hn := hc
     refine WR ?_
     exact .mk ⟨by rw [if_neg hn]; rfl, hS⟩
 by_cases h6 : k = 6
 · rw [if_pos h6]
   have hop := hop h6
   repeat' (first | refine W1 ?_ | (exfalso; omega) | (refine VG ?_ ?_ <;> intro hg) | (refine VC ?_ ?_ <;> intro hc))
   refine WC_loop (σ := Nat) (fun j => [(1, .pointer (some ⟨b, 0, none⟩)), (3, .int .i64 (j : Int))]) (fun j w' => 1 ≤ j ∧ j ≤ 6 ∧ (∀ i : Nat, 1 ≤ i → i < j → i ≠ 3 → s ∉ levS (i : Int)) ∧ Blk w' b 36 [.int .i64 k, .int .i64 x.num, str s, kv] ∧ Stp [] w w') (fun j => 6 - j) 1 ⟨rfl, rfl, trivial⟩ ⟨Nat.le_refl _, by omega, fun i h1 h2 => by omega, hblk, hS⟩ ?_
   clear hblk hS
   rintro j w2 ⟨hj1, hj6, hno, hblk, hS⟩
   by_cases hlt : j < 6
   · repeat' (first | refine W1 ?_ | (exfalso; omega) | (refine VG ?_ ?_ <;> intro hg) | (refine VC ?_ ?_ <;> intro hc))
     by_cases h3 : j = 3
     · refine WC_drawn 9 [] [] [(0, 0), (1, 0), (2, 0), (3, 0), (5, 0), (6, 1), (4, 2), (7, 2), (8, 0)] rfl mixed (by kernel_rfl) (by kernel_rfl) (by kernel_rfl) (fun w1 hS1 => ?_)
       replace hblk := hblk.up hS1
       replace hS := hS.trans hS1
       clear hS1
       have e3 : ¬ ((j : Int) ≠ 3) := by omega
       repeat' (first | refine D1 ?_ | (exfalso; omega) | refine WD_splitN rfl rfl rfl rfl (fun hg => ?_) (fun hg => ?_) | (refine WD_splitBN rfl rfl rfl rfl (fun hg => ?_) (fun hg => ?_) <;> refine D1 ?_) | fail)
       repeat' (first | refine W1 ?_ | (exfalso; omega) | (refine VG ?_ ?_ <;> intro hg) | (refine VC ?_ ?_ <;> intro hc))
       exact WQ_loop (j + 1) ⟨rfl, rfl, trivial⟩ ⟨by omega, by omega, fun i h1 h2 hi => hno i h1 (by omega) hi, hblk, hS⟩ (by omega)
     · refine WC_drawn 9 [] [] [(0, 0), (1, 0), (2, 0), (3, 0), (5, 0), (6, 1), (4, 2), (7, 2), (8, 0)] rfl mixed (by kernel_rfl) (by kernel_rfl) (by kernel_rfl) (fun w1 hS1 => ?_)
       replace hblk := hblk.up hS1
       replace hS := hS.trans hS1
       clear hS1
       repeat' (first | refine D1 ?_ | (exfalso; omega) | refine WD_splitN rfl rfl rfl rfl (fun hg => ?_) (fun hg => ?_) | (refine WD_splitBN rfl rfl rfl rfl (fun hg => ?_) (fun hg => ?_) <;> refine D1 ?_) | fail)
       refine WD_eff rfl rfl (OE_call rfl (evs1 rfl) (operators13_any [] (j : Int) _ (by simp))) (fun _ _ h => h.2) rfl ?_
       rintro lv w3 ⟨hlv', hT⟩
       replace hblk := hblk.up hT
       replace hS := hS.trans hT
       clear hT
       repeat' (first | refine D1 ?_ | (exfalso; omega) | refine WD_splitN rfl rfl rfl rfl (fun hg => ?_) (fun hg => ?_) | (refine WD_splitBN rfl rfl rfl rfl (fun hg => ?_) (fun hg => ?_) <;> refine D1 ?_) | fail)
       refine WD_eff rfl rfl (OE_call rfl (evs2 rfl rfl) (among13_any [] lv _ s _ hlv')) (fun _ _ h => by rw [h.2]; exact Stp.refl _ _) rfl ?_
       rintro _ w4 ⟨rfl, rfl⟩
       by_cases hin : s ∈ levS (j : Int)
       · simp only [hin, decide_true]
         repeat' (first | refine D1 ?_ | (exfalso; omega) | refine WD_splitN rfl rfl rfl rfl (fun hg => ?_) (fun hg => ?_) | (refine WD_splitBN rfl rfl rfl rfl (fun hg => ?_) (fun hg => ?_) <;> refine D1 ?_) | fail)
         repeat' (first | refine W1 ?_ | (exfalso; omega) | (refine VG ?_ ?_ <;> intro hg) | (refine VC ?_ ?_ <;> intro hc))
         refine WR ?_
         exact .mk ⟨by rw [lev_in hj1 (by omega) h3 hin], hS⟩
       · simp only [hin, decide_false]
         repeat' (first | refine D1 ?_ | (exfalso; omega) | refine WD_splitN rfl rfl rfl rfl (fun hg => ?_) (fun hg => ?_) | (refine WD_splitBN rfl rfl rfl rfl (fun hg => ?_) (fun hg => ?_) <;> refine D1 ?_) | fail)
         repeat' (first | refine W1 ?_ | (exfalso; omega) | (refine VG ?_ ?_ <;> intro hg) | (refine VC ?_ ?_ <;> intro hc))
         exact WQ_loop (j + 1) ⟨rfl, rfl, trivial⟩ ⟨by omega, by omega, fun i h1 h2 hi => by
          by_cases e : i = j
          · subst e; exact hin
          · exact hno i h1 (by omega) hi, hblk, hS⟩ (by omega)
   · obtain rfl : j = 6 := by omega
     repeat' (first | refine W1 ?_ | (exfalso; omega) | (refine VG ?_ ?_ <;> intro hg) | (refine VC ?_ ?_ <;> intro hc))
     refine WR ?_
     exact .mk ⟨by rw [lev_out hop hno]; rfl, hS⟩
 · rw [if_neg h6, if_neg h78, if_neg h5]
   repeat' (first | refine W1 ?_ | (exfalso; omega) | (refine VG ?_ ?_ <;> intro hg) | (refine VC ?_ ?_ <;> intro hc))
   refine WR ?_
   exact .mk ⟨rfl, hS⟩
def ShowR (x : Nd) : Prop := ∀ (X : List Nat) (v : Value) (w : World), NdV X w v x → (showN dateS x).length ≤ 1000000000 → Calls Tryz.prog 78 #[v] w (Ret fun r w' => r = str (showN dateS x) ∧ Stp [] w w')
theorem operand13_any (x : Nd) (hx : Wf x) (hsh : ShowR x) (least : Nat) (X : List Nat) (v : Value) (w : World) (hv : NdV X w v x) (hl : (showN dateS x).length ≤ 1000000000) :
 Calls Tryz.prog 123 #[v, .int .i64 (least : Int)] w (Ret fun r w' => r = str (parS least (lvl x, showN dateS x)) ∧ Stp [] w w') := by
 obtain ⟨kv, rfl, hs⟩ := hv
 unfold parS
 simp only
 generalize hsx : showN dateS x = sx at *
 refine calls_of_WC2 (n := 15) Tryz.func123 rfl rfl rfl ?_
 refine W ?_
 refine WL_eff (OE_box rfl) rfl ?_
 rintro _ w1 ⟨b, rfl, hb, hblk, hS⟩
 replace hblk : Blk w1 b _ (ndC x kv) := hblk
 replace hs := hs.up hS
 refine W ?_
 refine CL rfl (evs1 rfl) rfl (Level13_any x hx X _ _ ⟨kv, rfl, hs⟩) ?_
 rintro _ w2 ⟨rfl, hT2⟩
 replace hs := hs.up hT2; replace hblk := hblk.up hT2
 replace hS := hS.trans hT2
 clear hT2
 by_cases hlt : lvl x < least
 · rw [if_pos hlt]
   repeat' (first | refine W1 ?_ | (exfalso; omega) | (refine VG ?_ ?_ <;> intro hg) | (refine VC ?_ ?_ <;> intro hc))
   have hsh' := hsh X _ _ ⟨kv, rfl, hs⟩ (by rw [hsx]; exact hl)
   rw [hsx] at hsh'
   refine WL_eff (OE_call rfl (evs1 rfl) hsh') rfl ?_
   rintro _ w3 ⟨rfl, hT3⟩
   replace hS := hS.trans hT3
   refine WL_addT rfl rfl (by simp; omega) rfl ?_
   refine WL_addT rfl rfl (by simp; omega) rfl ?_
   refine W ?_
   refine WR ?_
   exact .mk ⟨rfl, hS⟩
 · rw [if_neg hlt]
   repeat' (first | refine W1 ?_ | (exfalso; omega) | (refine VG ?_ ?_ <;> intro hg) | (refine VC ?_ ?_ <;> intro hc))
   have hsh' := hsh X _ _ ⟨kv, rfl, hs⟩ (by rw [hsx]; exact hl)
   rw [hsx] at hsh'
   refine WL_eff (OE_call rfl (evs1 rfl) hsh') rfl ?_
   rintro _ w3 ⟨rfl, hT3⟩
   replace hS := hS.trans hT3
   refine W ?_
   refine WR ?_
   exact .mk ⟨rfl, hS⟩
theorem binary7_any (s : Str) (a b : Nd) (hu : s ∈ unitW) (ha : Wf a) (hb : Wf b) (sa : ShowR a) (sb : ShowR b) (X : List Nat) (v : Value) (w : World) (hv : NdV X w v (.mk 7 0 s [a, b])) (hl : (showN dateS (.mk 7 0 s [a, b])).length ≤ 1000000000) :
 Calls Tryz.prog 124 #[v] w (Ret fun r w' => r = str (showN dateS (.mk 7 0 s [a, b])) ∧ Stp [] w w') := by
 have hwf : Wf (.mk 7 0 s [a, b]) := .after s a b hu ha hb
 rw [showN_mk] at hl ⊢
 replace hl : (parS 5 (lvl a, showN dateS a) ++ [32, 43, 32] ++ parS 6 (lvl b, showN dateS b) ++ [32] ++ s).length ≤ 1000000000 := hl
 have hpa := parS_len 5 (lvl a, showN dateS a)
 have hpb := parS_len 6 (lvl b, showN dateS b)
 show Calls _ _ _ _ (Ret fun r w' => r = str (parS 5 (lvl a, showN dateS a) ++ [32, 43, 32] ++ parS 6 (lvl b, showN dateS b) ++ [32] ++ s) ∧ _)
 simp only [List.length_append, List.length_cons, List.length_nil] at hl hpa hpb
 obtain ⟨kv, rfl, hs⟩ := hv
 replace hs : SlV X w kv [a, b] := hs
 refine calls_of_WC1 (n := 55) Tryz.func124 rfl rfl rfl ?_
 refine W ?_
 refine WL_eff (OE_box rfl) rfl ?_
 rintro _ w1 ⟨bk, rfl, hbk, hblk, hS⟩
 replace hblk : Blk w1 bk _ [.int .i64 7, .int .i64 0, str s, kv] := hblk
 replace hs := hs.up hS
 refine W ?_
 refine CL rfl (evs1 rfl) rfl (Level13_any (.mk 7 0 s [a, b]) hwf X _ _ ⟨kv, rfl, hs⟩) ?_
 rintro _ w2 ⟨rfl, hT2⟩
 replace hs := hs.up hT2; replace hblk := hblk.up hT2
 replace hS := hS.trans hT2
 clear hT2
 rw [show lvl (.mk 7 0 s [a, b]) = 5 from rfl]
 have h0 : 0 < ([a, b] : List Nd).length := by simp
 have h1 : 1 < ([a, b] : List Nd).length := by simp
 obtain ⟨k0, g0, c0⟩ := hs.nd h0
 replace g0 : SlV X w2 k0 a.kids := g0
 repeat' (first | refine W1 ?_ | (exfalso; omega) | (refine VG ?_ ?_ <;> intro hg) | (refine VC ?_ ?_ <;> intro hc))
 refine WL_pure (PR_loadNd rfl rfl hs h0 c0) rfl ?_
 refine W ?_
 refine CL rfl (evs2 rfl rfl) rfl (operand13_any a ha sa 5 X _ _ ⟨k0, rfl, g0⟩ (by omega)) ?_
 rintro _ w3 ⟨rfl, hT3⟩
 replace hs := hs.up hT3; replace hblk := hblk.up hT3
 replace hS := hS.trans hT3
 clear hT3
 obtain ⟨k1, g1, c1⟩ := hs.nd h1
 replace g1 : SlV X w3 k1 b.kids := g1
 refine W ?_
 refine WL_pure (PR_loadNd rfl rfl hs h1 c1) rfl ?_
 refine W ?_
 refine CL rfl (evs2 rfl rfl) rfl (operand13_any b hb sb 6 X _ _ ⟨k1, rfl, g1⟩ (by omega)) ?_
 rintro _ w4 ⟨rfl, hT4⟩
 replace hs := hs.up hT4; replace hblk := hblk.up hT4
 replace hS := hS.trans hT4
 repeat' (first | refine W1 ?_ | (exfalso; omega) | (refine VG ?_ ?_ <;> intro hg) | (refine VC ?_ ?_ <;> intro hc))
 repeat' (first | refine W1 ?_ | refine WL_addT rfl rfl (by simp; omega) rfl ?_)
 refine WR ?_
 exact .mk ⟨by simp, hS⟩
theorem binary8_any (s : Str) (a b : Nd) (hu : s ∈ unitW) (ha : Wf a) (hb : Wf b) (sa : ShowR a) (sb : ShowR b) (X : List Nat) (v : Value) (w : World) (hv : NdV X w v (.mk 8 0 s [a, b])) (hl : (showN dateS (.mk 8 0 s [a, b])).length ≤ 1000000000) :
 Calls Tryz.prog 124 #[v] w (Ret fun r w' => r = str (showN dateS (.mk 8 0 s [a, b])) ∧ Stp [] w w') := by
 have hwf : Wf (.mk 8 0 s [a, b]) := .before s a b hu ha hb
 rw [showN_mk] at hl ⊢
 replace hl : (parS 5 (lvl a, showN dateS a) ++ [32, 45, 32] ++ parS 6 (lvl b, showN dateS b) ++ [32] ++ s).length ≤ 1000000000 := hl
 have hpa := parS_len 5 (lvl a, showN dateS a)
 have hpb := parS_len 6 (lvl b, showN dateS b)
 show Calls _ _ _ _ (Ret fun r w' => r = str (parS 5 (lvl a, showN dateS a) ++ [32, 45, 32] ++ parS 6 (lvl b, showN dateS b) ++ [32] ++ s) ∧ _)
 simp only [List.length_append, List.length_cons, List.length_nil] at hl hpa hpb
 obtain ⟨kv, rfl, hs⟩ := hv
 replace hs : SlV X w kv [a, b] := hs
 refine calls_of_WC1 (n := 55) Tryz.func124 rfl rfl rfl ?_
 refine W ?_
 refine WL_eff (OE_box rfl) rfl ?_
 rintro _ w1 ⟨bk, rfl, hbk, hblk, hS⟩
 replace hblk : Blk w1 bk _ [.int .i64 8, .int .i64 0, str s, kv] := hblk
 replace hs := hs.up hS
 refine W ?_
 refine CL rfl (evs1 rfl) rfl (Level13_any (.mk 8 0 s [a, b]) hwf X _ _ ⟨kv, rfl, hs⟩) ?_
 rintro _ w2 ⟨rfl, hT2⟩
 replace hs := hs.up hT2; replace hblk := hblk.up hT2
 replace hS := hS.trans hT2
 clear hT2
 rw [show lvl (.mk 8 0 s [a, b]) = 5 from rfl]
 have h0 : 0 < ([a, b] : List Nd).length := by simp
 have h1 : 1 < ([a, b] : List Nd).length := by simp
 obtain ⟨k0, g0, c0⟩ := hs.nd h0
 replace g0 : SlV X w2 k0 a.kids := g0
 repeat' (first | refine W1 ?_ | (exfalso; omega) | (refine VG ?_ ?_ <;> intro hg) | (refine VC ?_ ?_ <;> intro hc))
 refine WL_pure (PR_loadNd rfl rfl hs h0 c0) rfl ?_
 refine W ?_
 refine CL rfl (evs2 rfl rfl) rfl (operand13_any a ha sa 5 X _ _ ⟨k0, rfl, g0⟩ (by omega)) ?_
 rintro _ w3 ⟨rfl, hT3⟩
 replace hs := hs.up hT3; replace hblk := hblk.up hT3
 replace hS := hS.trans hT3
 clear hT3
 obtain ⟨k1, g1, c1⟩ := hs.nd h1
 replace g1 : SlV X w3 k1 b.kids := g1
 refine W ?_
 refine WL_pure (PR_loadNd rfl rfl hs h1 c1) rfl ?_
 refine W ?_
 refine CL rfl (evs2 rfl rfl) rfl (operand13_any b hb sb 6 X _ _ ⟨k1, rfl, g1⟩ (by omega)) ?_
 rintro _ w4 ⟨rfl, hT4⟩
 replace hs := hs.up hT4; replace hblk := hblk.up hT4
 replace hS := hS.trans hT4
 repeat' (first | refine W1 ?_ | (exfalso; omega) | (refine VG ?_ ?_ <;> intro hg) | (refine VC ?_ ?_ <;> intro hc))
 repeat' (first | refine W1 ?_ | refine WL_addT rfl rfl (by simp; omega) rfl ?_)
 refine WR ?_
 exact .mk ⟨by simp, hS⟩
theorem binary6_any (s : Str) (a b : Nd) (hs1 : 1 ≤ levelO s) (ha : Wf a) (hb : Wf b) (sa : ShowR a) (sb : ShowR b) (X : List Nat) (v : Value) (w : World) (hv : NdV X w v (.mk 6 0 s [a, b])) (hl : (showN dateS (.mk 6 0 s [a, b])).length ≤ 1000000000) :
 Calls Tryz.prog 124 #[v] w (Ret fun r w' => r = str (showN dateS (.mk 6 0 s [a, b])) ∧ Stp [] w w') := by
 have hwf : Wf (.mk 6 0 s [a, b]) := .bin s a b hs1 ha hb
 rw [showN_mk] at hl ⊢
 replace hl : (parS (leftL (levelO s)) (lvl a, showN dateS a) ++ [32] ++ s ++ [32] ++ parS (levelO s + 1) (lvl b, showN dateS b)).length ≤ 1000000000 := hl
 have hpa := parS_len (leftL (levelO s)) (lvl a, showN dateS a)
 have hpb := parS_len (levelO s + 1) (lvl b, showN dateS b)
 show Calls _ _ _ _ (Ret fun r w' => r = str (parS (leftL (levelO s)) (lvl a, showN dateS a) ++ [32] ++ s ++ [32] ++ parS (levelO s + 1) (lvl b, showN dateS b)) ∧ _)
 simp only [List.length_append, List.length_cons, List.length_nil] at hl hpa hpb
 obtain ⟨kv, rfl, hs⟩ := hv
 replace hs : SlV X w kv [a, b] := hs
 have hlo := levelO_le s
 refine calls_of_WC1 (n := 55) Tryz.func124 rfl rfl rfl ?_
 refine W ?_
 refine WL_eff (OE_box rfl) rfl ?_
 rintro _ w1 ⟨bk, rfl, hbk, hblk, hS⟩
 replace hblk : Blk w1 bk _ [.int .i64 6, .int .i64 0, str s, kv] := hblk
 replace hs := hs.up hS
 refine W ?_
 refine CL rfl (evs1 rfl) rfl (Level13_any (.mk 6 0 s [a, b]) hwf X _ _ ⟨kv, rfl, hs⟩) ?_
 rintro _ w2 ⟨rfl, hT2⟩
 replace hs := hs.up hT2; replace hblk := hblk.up hT2
 replace hS := hS.trans hT2
 clear hT2
 rw [show lvl (.mk 6 0 s [a, b]) = levelO s from rfl]
 have h0 : 0 < ([a, b] : List Nd).length := by simp
 have h1 : 1 < ([a, b] : List Nd).length := by simp
 obtain ⟨k0, g0, c0⟩ := hs.nd h0
 replace g0 : SlV X w2 k0 a.kids := g0
 have hlf : leftL (levelO s) = if levelO s = 4 then 5 else levelO s := rfl
 generalize leftL (levelO s) = lf at *
 generalize levelO s = lv at *
 by_cases h4 : lv = 4
 · rw [if_pos h4] at hlf
   subst hlf
   repeat' (first | refine W1 ?_ | (exfalso; omega) | (refine VG ?_ ?_ <;> intro hg) | (refine VC ?_ ?_ <;> intro hc))
   refine WL_pure (PR_loadNd rfl rfl hs h0 c0) rfl ?_
   refine W ?_
   refine CL rfl (evs2 rfl rfl) rfl (operand13_any a ha sa 5 X _ _ ⟨k0, rfl, g0⟩ (by omega)) ?_
   rintro _ w3 ⟨rfl, hT3⟩
   replace hs := hs.up hT3; replace hblk := hblk.up hT3
   replace hS := hS.trans hT3
   clear hT3
   obtain ⟨k1, g1, c1⟩ := hs.nd h1
   replace g1 : SlV X w3 k1 b.kids := g1
   refine W ?_
   refine WL_pure (PR_loadNd rfl rfl hs h1 c1) rfl ?_
   refine W ?_
   refine CL rfl (evs2 rfl rfl) rfl (operand13_any b hb sb (lv + 1) X _ _ ⟨k1, rfl, g1⟩ (by omega)) ?_
   rintro _ w4 ⟨rfl, hT4⟩
   replace hs := hs.up hT4; replace hblk := hblk.up hT4
   replace hS := hS.trans hT4
   repeat' (first | refine W1 ?_ | (exfalso; omega) | (refine VG ?_ ?_ <;> intro hg) | (refine VC ?_ ?_ <;> intro hc))
   repeat' (first | refine W1 ?_ | refine WL_addT rfl rfl (by simp; omega) rfl ?_)
   refine WR ?_
   exact .mk ⟨by simp, hS⟩
 · rw [if_neg h4] at hlf
   subst hlf
   repeat' (first | refine W1 ?_ | (exfalso; omega) | (refine VG ?_ ?_ <;> intro hg) | (refine VC ?_ ?_ <;> intro hc))
   refine WL_pure (PR_loadNd rfl rfl hs h0 c0) rfl ?_
   refine W ?_
   refine CL rfl (evs2 rfl rfl) rfl (operand13_any a ha sa lf X _ _ ⟨k0, rfl, g0⟩ (by omega)) ?_
   rintro _ w3 ⟨rfl, hT3⟩
   replace hs := hs.up hT3; replace hblk := hblk.up hT3
   replace hS := hS.trans hT3
   clear hT3
   obtain ⟨k1, g1, c1⟩ := hs.nd h1
   replace g1 : SlV X w3 k1 b.kids := g1
   refine W ?_
   refine WL_pure (PR_loadNd rfl rfl hs h1 c1) rfl ?_
   refine W ?_
   refine CL rfl (evs2 rfl rfl) rfl (operand13_any b hb sb (lf + 1) X _ _ ⟨k1, rfl, g1⟩ (by omega)) ?_
   rintro _ w4 ⟨rfl, hT4⟩
   replace hs := hs.up hT4; replace hblk := hblk.up hT4
   replace hS := hS.trans hT4
   repeat' (first | refine W1 ?_ | (exfalso; omega) | (refine VG ?_ ?_ <;> intro hg) | (refine VC ?_ ?_ <;> intro hc))
   repeat' (first | refine W1 ?_ | refine WL_addT rfl rfl (by simp; omega) rfl ?_)
   refine WR ?_
   exact .mk ⟨by simp, hS⟩
theorem showR_any (x : Nd) : Wf x → ShowR x := by
 induction x using Nd.ind with
 | h k n s l ih =>
 intro hwf X v w hv hl
 cases hwf with
 | num n h =>
   rw [showN_mk] at hl ⊢
   replace hl : (Lib.itoa n).length ≤ 1000000000 := hl
   show Calls _ _ _ _ (Ret fun r w' => r = str (Lib.itoa n) ∧ _)
   obtain ⟨kv, rfl, hs⟩ := hv
   replace hs : SlV X w kv [] := hs
   refine calls_of_WC1 (n := 95) Tryz.func78 rfl rfl rfl ?_
   refine W ?_
   refine WL_eff (OE_box rfl) rfl ?_
   rintro _ w1 ⟨bk, rfl, hbk, hblk, hS⟩
   replace hblk : Blk w1 bk _ [.int .i64 1, .int .i64 n, str [], kv] := hblk
   replace hs := hs.up hS
   repeat' (first | refine W1 ?_ | (exfalso; omega) | (refine VG ?_ ?_ <;> intro hg) | (refine VC ?_ ?_ <;> intro hc))
   refine CL rfl (evs1 rfl) rfl (Decimal01_any n _ (by omega) (by omega)) ?_
   rintro _ w3 ⟨rfl, hT3⟩
   refine W ?_
   refine WR ?_
   exact .mk ⟨rfl, hS.trans hT3⟩
 | bool n h =>
   rw [showN_mk] at hl ⊢
   replace hl : ((if n = 1 then [116, 114, 117, 101] else [102, 97, 108, 115, 101] : Str)).length ≤ 1000000000 := hl
   show Calls _ _ _ _ (Ret fun r w' => r = str ((if n = 1 then [116, 114, 117, 101] else [102, 97, 108, 115, 101] : Str)) ∧ _)
   obtain ⟨kv, rfl, hs⟩ := hv
   replace hs : SlV X w kv [] := hs
   refine calls_of_WC1 (n := 95) Tryz.func78 rfl rfl rfl ?_
   refine W ?_
   refine WL_eff (OE_box rfl) rfl ?_
   rintro _ w1 ⟨bk, rfl, hbk, hblk, hS⟩
   replace hblk : Blk w1 bk _ [.int .i64 2, .int .i64 n, str [], kv] := hblk
   replace hs := hs.up hS
   repeat' (first | refine W1 ?_ | (exfalso; omega) | (refine VG ?_ ?_ <;> intro hg) | (refine VC ?_ ?_ <;> intro hc))
   · refine WR ?_
     exact .mk ⟨by rw [if_pos (by omega)], hS⟩
   · refine WR ?_
     exact .mk ⟨by rw [if_neg (by omega)], hS⟩
 | day n h =>
   rw [showN_mk] at hl ⊢
   replace hl : (64 :: dateS n).length ≤ 1000000000 := hl
   show Calls _ _ _ _ (Ret fun r w' => r = str (64 :: dateS n) ∧ _)
   obtain ⟨kv, rfl, hs⟩ := hv
   replace hs : SlV X w kv [] := hs
   refine calls_of_WC1 (n := 95) Tryz.func78 rfl rfl rfl ?_
   refine W ?_
   refine WL_eff (OE_box rfl) rfl ?_
   rintro _ w1 ⟨bk, rfl, hbk, hblk, hS⟩
   replace hblk : Blk w1 bk _ [.int .i64 3, .int .i64 n, str [], kv] := hblk
   replace hs := hs.up hS
   repeat' (first | refine W1 ?_ | (exfalso; omega) | (refine VG ?_ ?_ <;> intro hg) | (refine VC ?_ ?_ <;> intro hc))
   refine CL rfl (evs1 rfl) rfl (Print8_any n _ (by omega) (by omega)) ?_
   rintro _ w3 ⟨rfl, hT3⟩
   have hdl := dateS_len h.1 h.2
   refine WL_addT rfl rfl (by simp; omega) rfl ?_
   refine W ?_
   refine WR ?_
   exact .mk ⟨rfl, hS.trans hT3⟩
 | field s h =>
   rw [showN_mk] at hl ⊢
   replace hl : (s).length ≤ 1000000000 := hl
   show Calls _ _ _ _ (Ret fun r w' => r = str (s) ∧ _)
   obtain ⟨kv, rfl, hs⟩ := hv
   replace hs : SlV X w kv [] := hs
   refine calls_of_WC1 (n := 95) Tryz.func78 rfl rfl rfl ?_
   refine W ?_
   refine WL_eff (OE_box rfl) rfl ?_
   rintro _ w1 ⟨bk, rfl, hbk, hblk, hS⟩
   replace hblk : Blk w1 bk _ [.int .i64 4, .int .i64 0, str s, kv] := hblk
   replace hs := hs.up hS
   repeat' (first | refine W1 ?_ | (exfalso; omega) | (refine VG ?_ ?_ <;> intro hg) | (refine VC ?_ ?_ <;> intro hc))
   refine WR ?_
   exact .mk ⟨rfl, hS⟩
 | neg a ha =>
   rw [showN_mk] at hl ⊢
   replace hl : ([45] ++ parS 7 (lvl a, showN dateS a)).length ≤ 1000000000 := hl
   have hp := parS_len 7 (lvl a, showN dateS a)
   simp only [List.length_append, List.length_cons, List.length_nil] at hl hp
   show Calls _ _ _ _ (Ret fun r w' => r = str ([45] ++ parS 7 (lvl a, showN dateS a)) ∧ _)
   obtain ⟨kv, rfl, hs⟩ := hv
   replace hs : SlV X w kv [a] := hs
   refine calls_of_WC1 (n := 95) Tryz.func78 rfl rfl rfl ?_
   refine W ?_
   refine WL_eff (OE_box rfl) rfl ?_
   rintro _ w1 ⟨bk, rfl, hbk, hblk, hS⟩
   replace hblk : Blk w1 bk _ [.int .i64 5, .int .i64 0, str [45], kv] := hblk
   replace hs := hs.up hS
   have h0 : 0 < ([a] : List Nd).length := by simp
   obtain ⟨k0, g0, c0⟩ := hs.nd h0
   replace g0 : SlV X w1 k0 a.kids := g0
   repeat' (first | refine W1 ?_ | (exfalso; omega) | (refine VG ?_ ?_ <;> intro hg) | (refine VC ?_ ?_ <;> intro hc))
   refine WL_pure (PR_loadNd rfl rfl hs h0 c0) rfl ?_
   refine W ?_
   refine CL rfl (evs2 rfl rfl) rfl (operand13_any a ha (ih a (by simp) ha) 7 X _ _ ⟨k0, rfl, g0⟩ (by omega)) ?_
   rintro _ w3 ⟨rfl, hT3⟩
   refine WL_addT rfl rfl (by simp; omega) rfl ?_
   refine W ?_
   refine WR ?_
   exact .mk ⟨rfl, hS.trans hT3⟩
 | not a ha =>
   rw [showN_mk] at hl ⊢
   replace hl : ([110, 111, 116, 32] ++ parS 3 (lvl a, showN dateS a)).length ≤ 1000000000 := hl
   have hp := parS_len 3 (lvl a, showN dateS a)
   simp only [List.length_append, List.length_cons, List.length_nil] at hl hp
   show Calls _ _ _ _ (Ret fun r w' => r = str ([110, 111, 116, 32] ++ parS 3 (lvl a, showN dateS a)) ∧ _)
   obtain ⟨kv, rfl, hs⟩ := hv
   replace hs : SlV X w kv [a] := hs
   refine calls_of_WC1 (n := 95) Tryz.func78 rfl rfl rfl ?_
   refine W ?_
   refine WL_eff (OE_box rfl) rfl ?_
   rintro _ w1 ⟨bk, rfl, hbk, hblk, hS⟩
   replace hblk : Blk w1 bk _ [.int .i64 5, .int .i64 0, str [110, 111, 116], kv] := hblk
   replace hs := hs.up hS
   have h0 : 0 < ([a] : List Nd).length := by simp
   obtain ⟨k0, g0, c0⟩ := hs.nd h0
   replace g0 : SlV X w1 k0 a.kids := g0
   repeat' (first | refine W1 ?_ | (exfalso; omega) | (refine VG ?_ ?_ <;> intro hg) | (refine VC ?_ ?_ <;> intro hc))
   refine WL_pure (PR_loadNd rfl rfl hs h0 c0) rfl ?_
   refine W ?_
   refine CL rfl (evs2 rfl rfl) rfl (operand13_any a ha (ih a (by simp) ha) 3 X _ _ ⟨k0, rfl, g0⟩ (by omega)) ?_
   rintro _ w3 ⟨rfl, hT3⟩
   refine WL_addT rfl rfl (by simp; omega) rfl ?_
   refine W ?_
   refine WR ?_
   exact .mk ⟨rfl, hS.trans hT3⟩
 | after s a b hu ha hb =>
   have hl0 := hl
   obtain ⟨kv, rfl, hs⟩ := hv
   replace hs : SlV X w kv [a, b] := hs
   refine calls_of_WC1 (n := 95) Tryz.func78 rfl rfl rfl ?_
   refine W ?_
   refine WL_eff (OE_box rfl) rfl ?_
   rintro _ w1 ⟨bk, rfl, hbk, hblk, hS⟩
   replace hblk : Blk w1 bk _ [.int .i64 7, .int .i64 0, str s, kv] := hblk
   replace hs := hs.up hS
   repeat' (first | refine W1 ?_ | (exfalso; omega) | (refine VG ?_ ?_ <;> intro hg) | (refine VC ?_ ?_ <;> intro hc))
   refine CL rfl (evs1 rfl) rfl (binary7_any s a b hu ha hb (ih a (by simp) ha) (ih b (by simp) hb) X _ _ ⟨kv, rfl, hs⟩ hl0) ?_
   rintro _ w3 ⟨rfl, hT3⟩
   refine W ?_
   refine WR ?_
   exact .mk ⟨rfl, hS.trans hT3⟩
 | before s a b hu ha hb =>
   have hl0 := hl
   obtain ⟨kv, rfl, hs⟩ := hv
   replace hs : SlV X w kv [a, b] := hs
   refine calls_of_WC1 (n := 95) Tryz.func78 rfl rfl rfl ?_
   refine W ?_
   refine WL_eff (OE_box rfl) rfl ?_
   rintro _ w1 ⟨bk, rfl, hbk, hblk, hS⟩
   replace hblk : Blk w1 bk _ [.int .i64 8, .int .i64 0, str s, kv] := hblk
   replace hs := hs.up hS
   repeat' (first | refine W1 ?_ | (exfalso; omega) | (refine VG ?_ ?_ <;> intro hg) | (refine VC ?_ ?_ <;> intro hc))
   refine CL rfl (evs1 rfl) rfl (binary8_any s a b hu ha hb (ih a (by simp) ha) (ih b (by simp) hb) X _ _ ⟨kv, rfl, hs⟩ hl0) ?_
   rintro _ w3 ⟨rfl, hT3⟩
   refine W ?_
   refine WR ?_
   exact .mk ⟨rfl, hS.trans hT3⟩
 | bin s a b hs1 ha hb =>
   have hl0 := hl
   obtain ⟨kv, rfl, hs⟩ := hv
   replace hs : SlV X w kv [a, b] := hs
   refine calls_of_WC1 (n := 95) Tryz.func78 rfl rfl rfl ?_
   refine W ?_
   refine WL_eff (OE_box rfl) rfl ?_
   rintro _ w1 ⟨bk, rfl, hbk, hblk, hS⟩
   replace hblk : Blk w1 bk _ [.int .i64 6, .int .i64 0, str s, kv] := hblk
   replace hs := hs.up hS
   repeat' (first | refine W1 ?_ | (exfalso; omega) | (refine VG ?_ ?_ <;> intro hg) | (refine VC ?_ ?_ <;> intro hc))
   refine CL rfl (evs1 rfl) rfl (binary6_any s a b hs1 ha hb (ih a (by simp) ha) (ih b (by simp) hb) X _ _ ⟨kv, rfl, hs⟩ hl0) ?_
   rintro _ w3 ⟨rfl, hT3⟩
   refine W ?_
   refine WR ?_
   exact .mk ⟨rfl, hS.trans hT3⟩
 | cond a b c ha hb hc =>
   rw [showN_mk] at hl ⊢
   replace hl : ([105, 102, 32] ++ showN dateS a ++ [32, 116, 104, 101, 110, 32] ++ showN dateS b ++ [32, 101, 108, 115, 101, 32] ++ showN dateS c ++ [32, 101, 110, 100]).length ≤ 1000000000 := hl
   simp only [List.length_append, List.length_cons, List.length_nil] at hl
   show Calls _ _ _ _ (Ret fun r w' => r = str ([105, 102, 32] ++ showN dateS a ++ [32, 116, 104, 101, 110, 32] ++ showN dateS b ++ [32, 101, 108, 115, 101, 32] ++ showN dateS c ++ [32, 101, 110, 100]) ∧ _)
   obtain ⟨kv, rfl, hs⟩ := hv
   replace hs : SlV X w kv [a, b, c] := hs
   refine calls_of_WC1 (n := 95) Tryz.func78 rfl rfl rfl ?_
   refine W ?_
   refine WL_eff (OE_box rfl) rfl ?_
   rintro _ w1 ⟨bk, rfl, hbk, hblk, hS⟩
   replace hblk : Blk w1 bk _ [.int .i64 9, .int .i64 0, str [], kv] := hblk
   replace hs := hs.up hS
   repeat' (first | refine W1 ?_ | (exfalso; omega) | (refine VG ?_ ?_ <;> intro hg) | (refine VC ?_ ?_ <;> intro hc))
   have h0 : 0 < ([a, b, c] : List Nd).length := by simp
   have h1 : 1 < ([a, b, c] : List Nd).length := by simp
   have h2 : 2 < ([a, b, c] : List Nd).length := by simp
   refine WC_drawn 22 [] [] [(0, 0), (1, 1), (2, 0), (3, 1), (7, 0), (8, 1), (9, 0), (10, 1), (14, 0), (15, 1), (16, 0), (17, 1), (4, 2), (5, 0), (6, 0), (11, 2), (12, 0), (13, 0), (18, 2), (19, 0), (20, 0), (21, 0)] rfl mixed (by kernel_rfl) (by kernel_rfl) (by kernel_rfl) (fun w1 hS1 => ?_)
   replace hs := hs.up hS1; replace hblk := hblk.up hS1
   replace hS := hS.trans hS1
   clear hS1
   obtain ⟨k0, g0, c0⟩ := hs.nd h0
   obtain ⟨k1, g1, c1⟩ := hs.nd h1
   obtain ⟨k2, g2, c2⟩ := hs.nd h2
   replace g0 : SlV X _ k0 a.kids := g0
   replace g1 : SlV X _ k1 b.kids := g1
   replace g2 : SlV X _ k2 c.kids := g2
   refine D ?_
   refine WD_read rfl trivial (fun w' hS' => PR_loadNd rfl rfl (hs.up hS') h0 (fun j u hj => cell_on hs h0 (hS'.mono (by simp)) (c0 j u hj))) rfl ?_
   refine D ?_
   refine WD_read rfl trivial (fun w' hS' => PR_loadNd rfl rfl (hs.up hS') h1 (fun j u hj => cell_on hs h1 (hS'.mono (by simp)) (c1 j u hj))) rfl ?_
   refine D ?_
   refine WD_read rfl trivial (fun w' hS' => PR_loadNd rfl rfl (hs.up hS') h2 (fun j u hj => cell_on hs h2 (hS'.mono (by simp)) (c2 j u hj))) rfl ?_
   refine D ?_
   have hop := ih a (by simp) ha X _ _ ⟨k0, rfl, g0⟩ (by omega)
   refine WD_eff rfl trivial (OE_call rfl (evs1 rfl) hop) (fun _ _ h => h.2) rfl ?_
   clear hop
   rintro _ v0 ⟨rfl, hT4⟩
   replace hs := hs.up hT4; replace hblk := hblk.up hT4; replace g1 := g1.up hT4; replace g2 := g2.up hT4
   replace hS := hS.trans hT4
   clear hT4
   repeat' (first | refine D1 ?_ | refine WD_free rfl trivial (fun _ => PR_addT rfl rfl (by simp; omega)) rfl ?_)
   have hop := ih b (by simp) hb X _ _ ⟨k1, rfl, g1⟩ (by omega)
   refine WD_eff rfl trivial (OE_call rfl (evs1 rfl) hop) (fun _ _ h => h.2) rfl ?_
   clear hop
   rintro _ v1 ⟨rfl, hT4⟩
   replace hs := hs.up hT4; replace hblk := hblk.up hT4; replace g2 := g2.up hT4
   replace hS := hS.trans hT4
   clear hT4
   repeat' (first | refine D1 ?_ | refine WD_free rfl trivial (fun _ => PR_addT rfl rfl (by simp; omega)) rfl ?_)
   have hop := ih c (by simp) hc X _ _ ⟨k2, rfl, g2⟩ (by omega)
   refine WD_eff rfl trivial (OE_call rfl (evs1 rfl) hop) (fun _ _ h => h.2) rfl ?_
   clear hop
   rintro _ v2 ⟨rfl, hT4⟩
   replace hs := hs.up hT4; replace hblk := hblk.up hT4
   replace hS := hS.trans hT4
   clear hT4
   repeat' (first | refine D1 ?_ | refine WD_free rfl trivial (fun _ => PR_addT rfl rfl (by simp; omega)) rfl ?_)
   refine W ?_
   refine WR ?_
   exact .mk ⟨by simp, hS⟩
 | call1 s a hs0 h1 ha =>
   rw [showN_mk] at hl ⊢
   have etx : showK dateS 10 0 s (([a] : List Nd).map fun y => (lvl y, showN dateS y)) = s ++ [40] ++ showN dateS a ++ [41] := by simp [showK, List.intercalate]
   rw [etx] at hl ⊢
   simp only [List.length_append, List.length_cons, List.length_nil] at hl
   obtain ⟨kv, rfl, hs⟩ := hv
   replace hs : SlV X w kv [a] := hs
   have hkl : ([a] : List Nd).length = 1 := rfl
   refine calls_of_WC1 (n := 95) Tryz.func78 rfl rfl rfl ?_
   refine W ?_
   refine WL_eff (OE_box rfl) rfl ?_
   rintro _ w1 ⟨bk, rfl, hbk, hblk, hS⟩
   replace hblk : Blk w1 bk _ [.int .i64 10, .int .i64 0, str s, kv] := hblk
   replace hs := hs.up hS
   repeat' (first | refine W1 ?_ | (exfalso; omega) | (refine VG ?_ ?_ <;> intro hg) | (refine VC ?_ ?_ <;> intro hc))
   repeat' (first | refine W1 ?_ | refine WL_addT rfl rfl (by simp; omega) rfl ?_)
   refine WC_loop (σ := Nat × Str) (fun q => [(1, .pointer (some ⟨bk, 0, none⟩)), (3, str q.2), (4, .int .i64 (q.1 : Int))]) (fun q w' => ((q.1 = 0 ∧ q.2 = s ++ [40]) ∨ (q.1 = 1 ∧ q.2 = s ++ [40] ++ showN dateS a)) ∧ SlV X w' kv [a] ∧ Blk w' bk 36 [.int .i64 10, .int .i64 0, str s, kv] ∧ Stp [] w w') (fun q => 1 - q.1) (0, s ++ [40]) ⟨rfl, rfl, rfl, trivial⟩ ⟨.inl ⟨rfl, rfl⟩, hs, hblk, hS⟩ ?_
   clear hs hblk hS
   rintro ⟨i, t⟩ w2 ⟨hq, hs, hblk, hS⟩
   dsimp only at hq ⊢
   rcases hq with ⟨rfl, rfl⟩ | ⟨rfl, rfl⟩
   · have h0 : 0 < ([a] : List Nd).length := by simp
     obtain ⟨k0, g0, c0⟩ := hs.nd h0
     replace g0 : SlV X w2 k0 a.kids := g0
     repeat' (first | refine W1 ?_ | (exfalso; omega) | (refine VG ?_ ?_ <;> intro hg) | (refine VC ?_ ?_ <;> intro hc))
     repeat' (first | refine W1 ?_ | refine WL_addT rfl rfl (by simp; omega) rfl ?_)
     refine WL_pure (PR_loadNd rfl rfl hs h0 c0) rfl ?_
     refine W ?_
     refine CL rfl (evs1 rfl) rfl (ih a (by simp) ha X _ _ ⟨k0, rfl, g0⟩ (by omega)) ?_
     rintro _ w3 ⟨rfl, hT3⟩
     replace hs := hs.up hT3; replace hblk := hblk.up hT3
     replace hS := hS.trans hT3
     repeat' (first | refine W1 ?_ | refine WL_addT rfl rfl (by simp; omega) rfl ?_)
     exact WQ_loop (1, _) ⟨rfl, rfl, rfl, trivial⟩ ⟨.inr (⟨rfl, by simp⟩), hs, hblk, hS⟩ (by dsimp only; omega)
   · repeat' (first | refine W1 ?_ | (exfalso; omega) | (refine VG ?_ ?_ <;> intro hg) | (refine VC ?_ ?_ <;> intro hc))
     repeat' (first | refine W1 ?_ | refine WL_addT rfl rfl (by simp; omega) rfl ?_)
     refine WR ?_
     exact .mk ⟨by simp, hS⟩
 | call2 s a b hs0 h2 ha hb =>
   rw [showN_mk] at hl ⊢
   have etx : showK dateS 10 0 s (([a, b] : List Nd).map fun y => (lvl y, showN dateS y)) = s ++ [40] ++ showN dateS a ++ [44, 32] ++ showN dateS b ++ [41] := by simp [showK, List.intercalate, List.intersperse]
   rw [etx] at hl ⊢
   simp only [List.length_append, List.length_cons, List.length_nil] at hl
   obtain ⟨kv, rfl, hs⟩ := hv
   replace hs : SlV X w kv [a, b] := hs
   have hkl : ([a, b] : List Nd).length = 2 := rfl
   refine calls_of_WC1 (n := 95) Tryz.func78 rfl rfl rfl ?_
   refine W ?_
   refine WL_eff (OE_box rfl) rfl ?_
   rintro _ w1 ⟨bk, rfl, hbk, hblk, hS⟩
   replace hblk : Blk w1 bk _ [.int .i64 10, .int .i64 0, str s, kv] := hblk
   replace hs := hs.up hS
   repeat' (first | refine W1 ?_ | (exfalso; omega) | (refine VG ?_ ?_ <;> intro hg) | (refine VC ?_ ?_ <;> intro hc))
   repeat' (first | refine W1 ?_ | refine WL_addT rfl rfl (by simp; omega) rfl ?_)
   refine WC_loop (σ := Nat × Str) (fun q => [(1, .pointer (some ⟨bk, 0, none⟩)), (3, str q.2), (4, .int .i64 (q.1 : Int))]) (fun q w' => ((q.1 = 0 ∧ q.2 = s ++ [40]) ∨ (q.1 = 1 ∧ q.2 = s ++ [40] ++ showN dateS a) ∨ (q.1 = 2 ∧ q.2 = s ++ [40] ++ showN dateS a ++ [44, 32] ++ showN dateS b)) ∧ SlV X w' kv [a, b] ∧ Blk w' bk 36 [.int .i64 10, .int .i64 0, str s, kv] ∧ Stp [] w w') (fun q => 2 - q.1) (0, s ++ [40]) ⟨rfl, rfl, rfl, trivial⟩ ⟨.inl ⟨rfl, rfl⟩, hs, hblk, hS⟩ ?_
   clear hs hblk hS
   rintro ⟨i, t⟩ w2 ⟨hq, hs, hblk, hS⟩
   dsimp only at hq ⊢
   rcases hq with ⟨rfl, rfl⟩ | ⟨rfl, rfl⟩ | ⟨rfl, rfl⟩
   · have h0 : 0 < ([a, b] : List Nd).length := by simp
     obtain ⟨k0, g0, c0⟩ := hs.nd h0
     replace g0 : SlV X w2 k0 a.kids := g0
     repeat' (first | refine W1 ?_ | (exfalso; omega) | (refine VG ?_ ?_ <;> intro hg) | (refine VC ?_ ?_ <;> intro hc))
     repeat' (first | refine W1 ?_ | refine WL_addT rfl rfl (by simp; omega) rfl ?_)
     refine WL_pure (PR_loadNd rfl rfl hs h0 c0) rfl ?_
     refine W ?_
     refine CL rfl (evs1 rfl) rfl (ih a (by simp) ha X _ _ ⟨k0, rfl, g0⟩ (by omega)) ?_
     rintro _ w3 ⟨rfl, hT3⟩
     replace hs := hs.up hT3; replace hblk := hblk.up hT3
     replace hS := hS.trans hT3
     repeat' (first | refine W1 ?_ | refine WL_addT rfl rfl (by simp; omega) rfl ?_)
     exact WQ_loop (1, _) ⟨rfl, rfl, rfl, trivial⟩ ⟨.inr (.inl ⟨rfl, by simp⟩), hs, hblk, hS⟩ (by dsimp only; omega)
   · have h1 : 1 < ([a, b] : List Nd).length := by simp
     obtain ⟨k1, g1, c1⟩ := hs.nd h1
     replace g1 : SlV X w2 k1 b.kids := g1
     repeat' (first | refine W1 ?_ | (exfalso; omega) | (refine VG ?_ ?_ <;> intro hg) | (refine VC ?_ ?_ <;> intro hc))
     repeat' (first | refine W1 ?_ | refine WL_addT rfl rfl (by simp; omega) rfl ?_)
     refine WL_pure (PR_loadNd rfl rfl hs h1 c1) rfl ?_
     refine W ?_
     refine CL rfl (evs1 rfl) rfl (ih b (by simp) hb X _ _ ⟨k1, rfl, g1⟩ (by omega)) ?_
     rintro _ w3 ⟨rfl, hT3⟩
     replace hs := hs.up hT3; replace hblk := hblk.up hT3
     replace hS := hS.trans hT3
     repeat' (first | refine W1 ?_ | refine WL_addT rfl rfl (by simp; omega) rfl ?_)
     exact WQ_loop (2, _) ⟨rfl, rfl, rfl, trivial⟩ ⟨.inr (.inr (⟨rfl, by simp⟩)), hs, hblk, hS⟩ (by dsimp only; omega)
   · repeat' (first | refine W1 ?_ | (exfalso; omega) | (refine VG ?_ ?_ <;> intro hg) | (refine VC ?_ ?_ <;> intro hc))
     repeat' (first | refine W1 ?_ | refine WL_addT rfl rfl (by simp; omega) rfl ?_)
     refine WR ?_
     exact .mk ⟨by simp, hS⟩
abbrev trueN : Nd := .mk 2 1 [] []
theorem True13_any (X : List Nat) (w : World) : Calls Tryz.prog 77 #[] w (Ret fun r w' => NdV X w' r trueN ∧ Stp [] w w') := by
 refine calls_of_WC0 (n := 2) Tryz.func77 rfl rfl ?_
 refine W ?_
 refine WL_eff OE_alloc rfl ?_
 rintro _ w1 ⟨b, rfl, hb, hblk, hS⟩
 refine W ?_
 apply WL_build (vs := [(0, .int .i64 2), (1, .int .i64 1)]) rfl (buildN01 _ _) rfl
 have hy : SlV (α := Nd) X w1 (.slice none 0 0) [] := nilSlv _ _
 refine WL_eff0 (OE_storeA (us := ndC trueN (.slice none 0 0)) rfl rfl rfl rfl (ndC_one (x := trueN) hy) hblk rfl) ?_
 rintro _ w2 ⟨hS2, hblk2⟩
 have hT := hS.own hS2 (fun c hc => .inr (by simp at hc; omega))
 refine W ?_
 refine WQ_retc rfl rfl rfl hblk2 rfl ?_
 exact .mk ⟨⟨_, rfl, nilSlv _ _⟩, hT⟩
theorem SameT_any (x : Nd) (hx : Wf x) (X Y : List Nat) (v u : Value) (w : World) (hv : NdV X w v x) (hu : NdV Y w u trueN) : Calls Tryz.prog 76 #[v, u] w (Ret fun r w' => r = .bool (decide (isTrue x)) ∧ Stp [] w w') := by
 obtain ⟨kv, rfl, hs⟩ := hv
 obtain ⟨ku, rfl, hs2⟩ := hu
 replace hs2 : SlV Y w ku [] := hs2
 by_cases ht : isTrue x
 · obtain rfl := isTrue_eq hx ht
   replace hs : SlV X w kv [] := hs
   refine calls_of_WC2 (n := 53) Tryz.func76 rfl rfl rfl ?_
   refine W ?_
   refine WL_eff (OE_box rfl) rfl ?_
   rintro _ w1 ⟨b2, rfl, hb2, e2, hS⟩
   refine WL_eff (OE_box rfl) rfl ?_
   rintro _ w2 ⟨b3, rfl, hb3, e3, hT⟩
   replace e2 : Blk w1 b2 _ [.int .i64 2, .int .i64 1, str [], kv] := e2
   replace e3 : Blk w2 b3 _ [.int .i64 2, .int .i64 1, str [], ku] := e3
   replace e2 := e2.up hT
   replace hS := hS.trans hT
   replace hs := hs.up hS; replace hs2 := hs2.up hS
   clear hT
   have l1 := hs.len
   have l2 := hs2.len
   repeat' (first | refine W1 ?_ | (exfalso; omega) | (refine VG ?_ ?_ <;> intro hg) | (refine VC ?_ ?_ <;> intro hc))
   refine WC_loop (σ := Unit) (fun _ => [(2, .pointer (some ⟨b2, 0, none⟩)), (3, .pointer (some ⟨b3, 0, none⟩)), (5, .int .i64 0)]) (fun _ w' => w' = w2) (fun _ => 0) () ⟨rfl, rfl, rfl, trivial⟩ rfl ?_
   rintro _ w3 rfl
   repeat' (first | refine W1 ?_ | (exfalso; omega) | (refine VG ?_ ?_ <;> intro hg) | (refine VC ?_ ?_ <;> intro hc))
   refine WR ?_
   exact .mk ⟨by rw [decide_eq_true ht], hS⟩
 · have hne : ¬ (x.kind = 2 ∧ x.num = 1) := ht
   refine calls_of_WC2 (n := 53) Tryz.func76 rfl rfl rfl ?_
   refine W ?_
   refine WL_eff (OE_box rfl) rfl ?_
   rintro _ w1 ⟨b2, rfl, hb2, e2, hS⟩
   refine WL_eff (OE_box rfl) rfl ?_
   rintro _ w2 ⟨b3, rfl, hb3, e3, hT⟩
   replace e2 : Blk w1 b2 _ (ndC x kv) := e2
   replace e3 : Blk w2 b3 _ [.int .i64 2, .int .i64 1, str [], ku] := e3
   replace e2 := e2.up hT
   replace hS := hS.trans hT
   replace hs := hs.up hS; replace hs2 := hs2.up hS
   clear hT
   repeat' (first | refine W1 ?_ | (exfalso; omega) | (refine VG ?_ ?_ <;> intro hg) | (refine VC ?_ ?_ <;> intro hc))
   all_goals first
    | (refine WR ?_
       exact .mk ⟨by rw [decide_eq_false ht], hS⟩)
    | (exfalso; omega)
set_option maxHeartbeats 2000000 in
theorem Print13_any (X : List Nat) (lv : Value) (rs : List RuleM) (w : World) (hs : SlV X w lv (rs.map RuleM.rul)) (hok : ∀ r ∈ rs, PrOk r) (hon : ∀ r ∈ rs, r.on ≠ []) (hlen : (rs.flatMap (showRule dateS)).length ≤ 1000000) :
 Calls Tryz.prog 27 #[lv] w (Ret fun r w' => r = str (rs.flatMap (showRule dateS)) ∧ Stp [] w w') := by
 have hln : (rs.map RuleM.rul).length = rs.length := by simp
 have hmax := hs.max
 refine calls_of_WC1 (n := 71) Tryz.func27 rfl rfl rfl ?_
 refine W ?_
 refine WC_loop (σ := Nat) (fun i => [(0, lv), (3, str ((rs.take i).flatMap (showRule dateS))), (4, .int .i64 i)])
  (fun i w' => i ≤ rs.length ∧ Stp [] w w') (fun i => rs.length - i) 0 ⟨rfl, rfl, rfl, trivial⟩ ⟨Nat.zero_le _, Stp.refl _ _⟩ ?_
 rintro i w1 ⟨hi, hS⟩
 have hs1 := hs.up hS
 by_cases hlt : i < rs.length
 · have hlt' : i < (rs.map RuleM.rul).length := by rw [hln]; exact hlt
   obtain ⟨ki, kd, hki, hkd, hcl⟩ := slvRul hs1 hlt'
   have hri : (rs.map RuleM.rul)[i] = rs[i].rul := by simp
   rw [hri] at hki hkd
   have hri' := hok rs[i] (List.getElem_mem hlt)
   have hon' := hon rs[i] (List.getElem_mem hlt)
   have htk : (rs.take (i + 1)).flatMap (showRule dateS) = (rs.take i).flatMap (showRule dateS) ++ showRule dateS rs[i] := by
    rw [List.take_succ_eq_append_getElem hlt, List.flatMap_append]
    simp
   have hpre : ((rs.take (i + 1)).flatMap (showRule dateS)).length ≤ 1000000 := by
    refine Nat.le_trans ?_ hlen
    conv => rhs; rw [← List.take_append_drop (i + 1) rs]
    rw [List.flatMap_append, List.length_append]
    omega
   rw [htk] at hpre
   repeat' (first | refine W1 ?_ | (exfalso; omega) | (refine VG ?_ ?_ <;> intro hg) | (refine VC ?_ ?_ <;> intro hc))
   refine WL_pure (PR_loadRul rfl rfl hs1 hlt' hcl) rfl ?_
   rw [hri]
   have hnext : ∀ t : Str, t = (rs.take i).flatMap (showRule dateS) ++ showRule dateS rs[i] → str t = str ((rs.take (i + 1)).flatMap (showRule dateS)) := fun t h => by rw [htk, h]
   generalize (rs.take i).flatMap (showRule dateS) = l0 at *
   generalize rs[i] = r at *
   refine WL_eff OE_alloc rfl ?_
   rintro _ w2 ⟨b5, rfl, hb5, e5, hT2⟩
   refine WL_eff0 (OE_storeA (us := rlC r.rul ki kd) rfl rfl rfl rfl (rlOne _ hki hkd) e5 rfl) ?_
   rintro _ w3 ⟨hT3, e5'⟩
   replace hT2 : Stp [] w1 w3 := hT2.own hT3 (fun c hc => .inr (by simp at hc; omega))
   clear hT3 e5
   replace hS := hS.trans hT2
   replace hki := hki.up hT2; replace hkd := hkd.up hT2
   clear hT2 hcl
   have hsr : (showRule dateS r).length = (headS dateS r ++ lineS [111, 110] r.on ++ ifS dateS r.cond ++ lineS [100, 117, 101] (showN dateS r.due) ++ lineS [117, 110, 108, 101, 115, 115] r.unl ++ lineS [101, 108, 115, 101] r.els ++ [125, 10]).length := rfl
   have e1 := lineS_len [111, 110] r.on
   have e2 := lineS_len [100, 117, 101] (showN dateS r.due)
   have e3 := lineS_len [117, 110, 108, 101, 115, 115] r.unl
   have e4 := lineS_len [101, 108, 115, 101] r.els
   have eh : (headS dateS r).length = 5 + r.name.length + 7 + (dateS r.frm).length + 3 := by unfold headS; simp; omega
   have eo : lineS [111, 110] r.on = [32, 32] ++ [111, 110] ++ [32] ++ r.on ++ [59, 10] := by unfold lineS; rw [if_neg hon']
   have ed : lineS [100, 117, 101] (showN dateS r.due) = [32, 32] ++ [100, 117, 101] ++ [32] ++ showN dateS r.due ++ [59, 10] := by unfold lineS; rw [if_neg (showN_ne hri'.due)]
   have e6 := dateS_len hri'.frm.1 hri'.frm.2
   have elo := congrArg List.length eo
   have eld := congrArg List.length ed
   simp only [List.length_append, List.length_cons, List.length_nil] at hsr hpre e1 e2 e3 e4 elo eld
   repeat' (first | refine W1 ?_ | (exfalso; omega) | (refine VG ?_ ?_ <;> intro hg) | (refine VC ?_ ?_ <;> intro hc))
   refine WC_drawn 16 [] [] [(0, 0), (1, 0), (2, 0), (3, 1), (4, 0), (5, 0), (6, 0), (7, 1), (11, 0), (12, 1), (8, 2), (9, 0), (10, 0), (13, 0), (14, 0), (15, 0)] rfl mixed (by kernel_rfl) (by kernel_rfl) (by kernel_rfl) (fun w1 hS1 => ?_)
   replace e5' := e5'.up hS1; replace hki := hki.up hS1; replace hkd := hkd.up hS1
   replace hS := hS.trans hS1
   clear hS1
   refine D ?_
   refine WD_free rfl trivial (fun _ => PR_addT rfl rfl (by simp; omega)) rfl ?_
   refine D ?_
   repeat' (first | refine D1 ?_ | refine WD_free rfl trivial (fun _ => PR_addT rfl rfl (by simp [RuleM.rul]; omega)) rfl ?_)
   refine WD_eff rfl trivial (OE_call rfl (evs1 rfl) (Print8_any r.frm _ hri'.frm.1 hri'.frm.2)) (fun _ _ h => h.2) rfl ?_
   rintro _ w6 ⟨rfl, hT6⟩
   replace e5' := e5'.up hT6; replace hki := hki.up hT6; replace hkd := hkd.up hT6
   replace hS := hS.trans hT6
   clear hT6
   repeat' (first | refine D1 ?_ | refine WD_free rfl trivial (fun _ => PR_addT rfl rfl (by simp [RuleM.rul]; omega)) rfl ?_)
   refine W ?_
   refine WC_drawn 5 [] [] [(0, 0), (1, 1), (2, 2), (3, 2), (4, 0)] rfl mixed (by kernel_rfl) (by kernel_rfl) (by kernel_rfl) (fun w1 hS1 => ?_)
   replace e5' := e5'.up hS1; replace hki := hki.up hS1; replace hkd := hkd.up hS1
   replace hS := hS.trans hS1
   clear hS1
   refine D ?_
   try (refine WD_read rfl trivial (fun w' hS' => PR_loadN_blk (us := ndC r.cond ki) rfl rfl (e5'.up (hS'.mono (by simp))) rfl rfl) rfl ?_)
   refine D ?_
   refine WD_eff rfl trivial (OE_call rfl evs0 (True13_any [] _)) (fun _ _ h => h.2) rfl ?_
   rintro _ w7 ⟨htv, hT6⟩
   replace e5' := e5'.up hT6; replace hki := hki.up hT6; replace hkd := hkd.up hT6
   replace hS := hS.trans hT6
   clear hT6
   refine D ?_
   refine WD_eff rfl trivial (OE_call rfl (evs2 rfl rfl) (SameT_any r.cond hri'.cond X [] _ _ _ ⟨ki, rfl, hki⟩ htv)) (fun _ _ h => h.2) rfl ?_
   rintro _ w8 ⟨rfl, hT6⟩
   replace e5' := e5'.up hT6; replace hki := hki.up hT6; replace hkd := hkd.up hT6
   replace hS := hS.trans hT6
   clear hT6 htv
   refine D ?_
   refine WQ_then ?_
   refine WC_cutQ (σ := Unit) (fun _ => [(0, lv), (3, str (l0 ++ headS dateS r ++ lineS [111, 110] r.on ++ ifS dateS r.cond)), (4, .int .i64 i), (5, .pointer (some ⟨b5, 0, none⟩))])
    (fun _ w' => Blk w' b5 38 (rlC r.rul ki kd) ∧ SlV X w' kd r.due.kids ∧ Stp [] w w') ?_ ?_
   · by_cases hit : isTrue r.cond
     · have hifs : ifS dateS r.cond = [] := by unfold ifS; rw [if_pos hit]
       simp only [hit, decide_true]
       refine W ?_
       refine WQ_cut () ⟨rfl, ?_, rfl, rfl, trivial⟩ ⟨e5', hkd, hS⟩
       rw [hifs, eo]
       unfold headS
       simp [RuleM.rul]
       rfl
     · have hifs := ifS_len dateS r.cond hit
       have eif : lineS [105, 102] (showN dateS r.cond) = [32, 32] ++ [105, 102] ++ [32] ++ showN dateS r.cond ++ [59, 10] := by unfold lineS; rw [if_neg (showN_ne hri'.cond)]
       rw [eif] at hifs
       have hifl := congrArg List.length hifs
       simp only [List.length_append, List.length_cons, List.length_nil] at hifl
       simp only [hit, decide_false]
       refine W ?_
       repeat' (first | refine W1 ?_ | refine WL_addT rfl rfl (by simp [RuleM.rul]; omega) rfl ?_)
       refine WL_pure (PR_loadN_blk (us := ndC r.cond ki) rfl rfl e5' rfl rfl) rfl ?_
       refine W ?_
       refine CL rfl (evs1 rfl) rfl (showR_any r.cond hri'.cond X _ _ ⟨ki, rfl, hki⟩ (by omega)) ?_
       rintro _ w9 ⟨rfl, hT6⟩
       replace e5' := e5'.up hT6; replace hki := hki.up hT6; replace hkd := hkd.up hT6
       replace hS := hS.trans hT6
       clear hT6
       repeat' (first | refine W1 ?_ | refine WL_addT rfl rfl (by simp [RuleM.rul]; omega) rfl ?_)
       refine WQ_cut () ⟨rfl, ?_, rfl, rfl, trivial⟩ ⟨e5', hkd, hS⟩
       rw [hifs, eo]
       unfold headS
       simp [RuleM.rul]
       rfl
   clear e5' hkd hki hS
   rintro ⟨⟩ w9 ⟨e5', hkd, hS⟩
   have hpl : (l0 ++ headS dateS r ++ lineS [111, 110] r.on ++ ifS dateS r.cond).length = l0.length + (headS dateS r).length + (lineS [111, 110] r.on).length + (ifS dateS r.cond).length := by simp; omega
   replace hnext : ∀ t : Str, t = (l0 ++ headS dateS r ++ lineS [111, 110] r.on ++ ifS dateS r.cond) ++ lineS [100, 117, 101] (showN dateS r.due) ++ lineS [117, 110, 108, 101, 115, 115] r.unl ++ lineS [101, 108, 115, 101] r.els ++ [125, 10] → str t = str ((rs.take (i + 1)).flatMap (showRule dateS)) := fun t h => hnext t (by rw [h]; unfold showRule; simp)
   generalize l0 ++ headS dateS r ++ lineS [111, 110] r.on ++ ifS dateS r.cond = l1 at *
   refine W ?_
   repeat' (first | refine W1 ?_ | refine WL_addT rfl rfl (by simp [RuleM.rul]; omega) rfl ?_)
   refine WL_pure (PR_loadN_blk (us := ndC r.due kd) rfl rfl e5' rfl rfl) rfl ?_
   refine W ?_
   refine CL rfl (evs1 rfl) rfl (showR_any r.due hri'.due X _ _ ⟨kd, rfl, hkd⟩ (by omega)) ?_
   rintro _ w10 ⟨rfl, hT6⟩
   replace e5' := e5'.up hT6
   replace hS := hS.trans hT6
   clear hT6
   repeat' (first | refine W1 ?_ | refine WL_addT rfl rfl (by simp [RuleM.rul]; omega) rfl ?_)
   repeat' (first | refine W1 ?_ | refine WL_addT rfl rfl (by simp [RuleM.rul]; omega) rfl ?_ | refine WC_cond rfl (fun hc => ?_) (fun hc => ?_) | refine WC_condB rfl (fun hc => ?_) (fun hc => ?_))
   all_goals
    simp only [RuleM.rul] at *
    refine WQ_loop (i + 1) ⟨rfl, congrArg some (hnext _ ?_), rfl, trivial⟩ ⟨hlt, hS⟩ (by omega)
    rw [ed]
    unfold lineS
    try simp only [Decidable.not_not] at *
    simp [*]
 · obtain rfl : i = rs.length := by omega
   rw [List.take_length]
   repeat' (first | refine W1 ?_ | (exfalso; omega) | (refine VG ?_ ?_ <;> intro hg) | (refine VC ?_ ?_ <;> intro hc))
   refine WR ?_
   exact .mk ⟨rfl, hS⟩
def lenT : Nat → Nat × Nat × Nat
 | 0 => (6, 5, 11)
 | d + 1 => let p := lenT d; (max (2 * p.2.2 + 11) (max (p.2.1 + 2 * p.1 + 19) (2 * p.1 + 7)), max (2 * p.2.2 + 8) (max (2 * p.1 + 8) (2 * p.2.1 + 9)), max (p.2.1 + 2 * p.2.2 + 19) (max (2 * p.2.2 + 10) (p.2.2 + p.1 + 17)))
def lenG (t : Int) (d : Nat) : Nat := if t = 1 then (lenT d).1 else if t = 2 then (lenT d).2.1 else (lenT d).2.2
theorem len0 (d : Nat) : 6 ≤ (lenT d).1 ∧ 5 ≤ (lenT d).2.1 ∧ 11 ≤ (lenT d).2.2 := by
 induction d with
 | zero => decide
 | succ d ih => simp only [lenT]; omega
theorem Gn.len {t : Int} {d : Nat} {x : Nd} (h : Gn t d x) : (showN dateS x).length ≤ lenG t d := by
 have pd : ∀ (k : Nat) (p : Nat × Str), (parS k p).length ≤ p.2.length + 2 := fun k p => by unfold parS; split <;> simp <;> omega
 have e1 : ∀ d, lenG 1 d = (lenT d).1 := fun d => rfl
 have e2 : ∀ d, lenG 2 d = (lenT d).2.1 := fun d => rfl
 have e3 : ∀ d, lenG 3 d = (lenT d).2.2 := fun d => rfl
 induction h with
 | num d n h =>
   rw [showN_mk]
   show (Lib.itoa n).length ≤ lenG 1 d
   unfold Lib.itoa
   rw [if_neg (by omega), e1]
   have := decDigits_len 1 n.toNat (by omega)
   have := len0 d
   omega
 | fldN d s h =>
   rw [showN_mk]
   have h2 : ∀ s ∈ numF, s.length ≤ 6 := by decide
   have := h2 s h
   have := len0 d
   show s.length ≤ _
   rw [e1]; omega
 | fldD d s h =>
   rw [showN_mk]
   have h2 : ∀ s ∈ dateF, s.length ≤ 6 := by decide
   have := h2 s h
   have := len0 d
   show s.length ≤ _
   rw [e3]; omega
 | day d n h =>
   rw [showN_mk]
   show (64 :: dateS n).length ≤ _
   have := dateS_len (n := n) (by omega) (by omega)
   have := len0 d
   rw [e3]; simp; omega
 | bool d n h =>
   rw [showN_mk]
   have := len0 d
   show (if n = 1 then [116, 114, 117, 101] else [102, 97, 108, 115, 101] : Str).length ≤ _
   rw [e2]
   have : (if n = 1 then [116, 114, 117, 101] else [102, 97, 108, 115, 101] : Str).length ≤ 5 := by split <;> decide
   omega
 | neg d a ha ia =>
   rw [showN_mk]
   have := pd 7 (lvl a, showN dateS a)
   rw [e1] at ia ⊢
   simp only [lenT] at this ⊢
   show ([45] ++ parS 7 (lvl a, showN dateS a)).length ≤ _
   simp only [List.length_append, List.length_cons, List.length_nil]; omega
 | not d a ha ia =>
   rw [showN_mk]
   have := pd 3 (lvl a, showN dateS a)
   rw [e2] at ia ⊢
   simp only [lenT] at this ⊢
   show ([110, 111, 116, 32] ++ parS 3 (lvl a, showN dateS a)).length ≤ _
   simp only [List.length_append, List.length_cons, List.length_nil]
   have := len0 d
   omega
 | btw d a b ha hb ia ib =>
   rw [showN_mk]
   rw [e3] at ia ib
   rw [e1]
   simp only [lenT]
   show ([98, 101, 116, 119, 101, 101, 110] ++ [40] ++ ([44, 32] : Str).intercalate [showN dateS a, showN dateS b] ++ [41]).length ≤ _
   rw [show ([44, 32] : Str).intercalate [showN dateS a, showN dateS b] = showN dateS a ++ [44, 32] ++ showN dateS b by simp [List.intercalate, List.intersperse]]
   simp only [List.length_append, List.length_cons, List.length_nil]
   omega
 | cond d t c a b h hc ha hb ic ia ib =>
   rw [showN_mk]
   rw [e2] at ic
   show ([105, 102, 32] ++ showN dateS c ++ [32, 116, 104, 101, 110, 32] ++ showN dateS a ++ [32, 101, 108, 115, 101, 32] ++ showN dateS b ++ [32, 101, 110, 100]).length ≤ _
   simp only [List.length_append, List.length_cons, List.length_nil]
   rcases h with rfl | rfl
   · rw [e1] at ia ib ⊢
     simp only [lenT]
     omega
   · rw [e3] at ia ib ⊢
     simp only [lenT]
     omega
 | arith d s a b h ha hb ia ib =>
   rw [showN_mk]
   have h2 : ∀ s ∈ opsA, s.length ≤ 1 := by decide
   have := h2 s h
   have h1 := pd (leftL (levelO s)) (lvl a, showN dateS a)
   have h2 := pd (levelO s + 1) (lvl b, showN dateS b)
   rw [e1] at ia ib ⊢
   simp only [lenT] at h1 h2 ⊢
   show (parS (leftL (levelO s)) (lvl a, showN dateS a) ++ [32] ++ s ++ [32] ++ parS (levelO s + 1) (lvl b, showN dateS b)).length ≤ _
   simp only [List.length_append, List.length_cons, List.length_nil]
   omega
 | adj d s a h ha ia =>
   rw [showN_mk]
   have h2 : ∀ s ∈ opsN, s.length ≤ 4 := by decide
   have := h2 s h
   have := len0 d
   rw [e3] at ia ⊢
   simp only [lenT]
   show (s ++ [40] ++ ([44, 32] : Str).intercalate [showN dateS a] ++ [41]).length ≤ _
   rw [show ([44, 32] : Str).intercalate [showN dateS a] = showN dateS a by simp [List.intercalate, List.intersperse]]
   simp only [List.length_append, List.length_cons, List.length_nil]
   omega
 | two d s a b h ha hb ia ib =>
   rw [showN_mk]
   have h2 : ∀ s ∈ opsE, s.length ≤ 7 := by decide
   have := h2 s h
   have := len0 d
   rw [e3] at ia ib ⊢
   simp only [lenT]
   show (s ++ [40] ++ ([44, 32] : Str).intercalate [showN dateS a, showN dateS b] ++ [41]).length ≤ _
   rw [show ([44, 32] : Str).intercalate [showN dateS a, showN dateS b] = showN dateS a ++ [44, 32] ++ showN dateS b by simp [List.intercalate, List.intersperse]]
   simp only [List.length_append, List.length_cons, List.length_nil]
   omega
 | move d k s a b hk h ha hb ia ib =>
   rw [showN_mk]
   have h2 : ∀ s ∈ units, s.length ≤ 9 := by decide
   have := h2 s h
   have h1 := pd 5 (lvl a, showN dateS a)
   have h2 := pd 6 (lvl b, showN dateS b)
   rw [e3] at ia ⊢
   rw [e1] at ib
   simp only [lenT] at h1 h2 ⊢
   rcases hk with rfl | rfl
   · show (parS 5 (lvl a, showN dateS a) ++ [32, 43, 32] ++ parS 6 (lvl b, showN dateS b) ++ [32] ++ s).length ≤ _
     simp only [List.length_append, List.length_cons, List.length_nil]
     omega
   · show (parS 5 (lvl a, showN dateS a) ++ [32, 45, 32] ++ parS 6 (lvl b, showN dateS b) ++ [32] ++ s).length ≤ _
     simp only [List.length_append, List.length_cons, List.length_nil]
     omega
 | logic d s a b h ha hb ia ib =>
   rw [showN_mk]
   have h2 : ∀ s ∈ opsL, s.length ≤ 3 := by decide
   have := h2 s h
   have h1 := pd (leftL (levelO s)) (lvl a, showN dateS a)
   have h2 := pd (levelO s + 1) (lvl b, showN dateS b)
   rw [e2] at ia ib ⊢
   simp only [lenT] at h1 h2 ⊢
   show (parS (leftL (levelO s)) (lvl a, showN dateS a) ++ [32] ++ s ++ [32] ++ parS (levelO s + 1) (lvl b, showN dateS b)).length ≤ _
   simp only [List.length_append, List.length_cons, List.length_nil]
   omega
 | cmp d t s a b ht h ha hb ia ib =>
   rw [showN_mk]
   have h2 : ∀ s ∈ opsC, s.length ≤ 2 := by decide
   have := h2 s h
   have h1 := pd (leftL (levelO s)) (lvl a, showN dateS a)
   have h2 := pd (levelO s + 1) (lvl b, showN dateS b)
   rw [e2]
   show (parS (leftL (levelO s)) (lvl a, showN dateS a) ++ [32] ++ s ++ [32] ++ parS (levelO s + 1) (lvl b, showN dateS b)).length ≤ _
   rcases ht with rfl | rfl
   · rw [e1] at ia ib
     simp only [lenT] at h1 h2 ⊢
     simp only [List.length_append, List.length_cons, List.length_nil]
     omega
   · rw [e3] at ia ib
     simp only [lenT] at h1 h2 ⊢
     simp only [List.length_append, List.length_cons, List.length_nil]
     omega
theorem gens3 : ∀ d, d ≤ 6 → GenQ 170 1 d ∧ GenQ 127 2 d ∧ GenQ 128 3 d := by
 intro d
 induction d with
 | zero =>
   intro h
   have ih' : ∀ e, 0 = e + 1 → GenQ 170 1 e ∧ GenQ 127 2 e ∧ GenQ 128 3 e := fun e he => by omega
   exact ⟨Number3_step _ h ih', Bool3_step _ h ih', Date3_step _ h ih'⟩
 | succ d ih =>
   intro h
   have ih' : ∀ e, d + 1 = e + 1 → GenQ 170 1 e ∧ GenQ 127 2 e ∧ GenQ 128 3 e := fun e he => by
    obtain rfl : d = e := by omega
    exact ih (by omega)
   exact ⟨Number3_step _ h ih', Bool3_step _ h ih', Date3_step _ h ih'⟩
def names3 : List Str := [[114, 48], [114, 49], [114, 50], [114, 51]]
def kinds6 : List Str := [[99, 108, 97, 105, 109], [97, 110, 115, 119, 101, 114], [109, 111, 116, 105, 111, 110], [111, 114, 100, 101, 114], [97, 112, 112, 101, 97, 108], [108, 97, 112, 115, 101]]
theorem Name3_any (q : Nat) (w : World) (hq : q < 4) : Calls Tryz.prog 125 #[.int .i64 (q : Int)] w (Ret fun r w' => (∃ s ∈ names3, r = str s) ∧ Stp [] w w') := by
 refine calls_of_WC1 (n := 7) Tryz.func125 rfl rfl rfl ?_
 refine W ?_
 refine CL rfl (evs2 rfl rfl) rfl (Around01_any (q : Int) 4 _ (by decide) (by unfold I64; omega)) ?_
 rintro _ w1 ⟨rfl, hS⟩
 rw [if_neg (by omega), Int.emod_eq_of_lt (by omega) (by omega)]
 refine CL rfl (evs1 rfl) rfl (Decimal01_any (q : Int) _ (by omega) (by omega)) ?_
 rintro _ w2 ⟨rfl, hT⟩
 have : q = 0 ∨ q = 1 ∨ q = 2 ∨ q = 3 := by omega
 have hm : ([114] ++ Lib.itoa (q : Int) : Str) ∈ names3 ∧ (Lib.itoa (q : Int)).length ≤ 10 := by
  rcases this with rfl | rfl | rfl | rfl <;> (unfold Lib.itoa; rw [if_neg (by omega), Lib.decDigits, dif_pos (by decide)]; decide)
 refine WL_addT rfl rfl (by simp; omega) rfl ?_
 refine W ?_
 refine WR ?_
 exact .mk ⟨⟨_, hm.1, rfl⟩, hS.trans hT⟩
theorem Kind3_any (q : Nat) (w : World) (hq : q < 6) : Calls Tryz.prog 126 #[.int .i64 (q : Int)] w (Ret fun r w' => (∃ s ∈ kinds6, r = str s) ∧ Stp [] w w') := by
 refine calls_of_WC1 (n := 10) Tryz.func126 rfl rfl rfl ?_
 refine W ?_
 refine WL_eff (OE_buildSlice (vs := [(0, str [99, 108, 97, 105, 109]), (1, str [97, 110, 115, 119, 101, 114]), (2, str [109, 111, 116, 105, 111, 110]), (3, str [111, 114, 100, 101, 114]), (4, str [97, 112, 112, 101, 97, 108]), (5, str [108, 97, 112, 115, 101])]) rfl (bS6 _ _ _ _ _ _)) rfl ?_
 rintro v w1 hN
 have hv : SlV [] w1 v kinds6 := hN.slv (by simp) rfl rfl (by decide)
 have hS := NewSl.stp hN
 clear hN
 refine W ?_
 refine CL rfl (evs2 rfl rfl) rfl (Around01_any (q : Int) 6 _ (by decide) (by unfold I64; omega)) ?_
 rintro _ w2 ⟨rfl, hT⟩
 rw [if_neg (by omega), Int.emod_eq_of_lt (by omega) (by omega)]
 replace hv := hv.up hT
 have hqn : q < kinds6.length := by show q < 6; exact hq
 refine W ?_
 refine WR ?_
 exact .mk ⟨⟨_, List.getElem_mem hqn, rfl⟩, hS.trans hT⟩
structure GnRule (r : RuleM) : Prop where
 name : r.name ∈ names3
 frm : 739606 ≤ r.frm ∧ r.frm < 739636
 on : r.on ∈ kinds6
 cond : Gn 2 3 r.cond
 due : Gn 3 3 r.due
 unl : r.unl = [] ∨ r.unl ∈ kinds6
 els : r.els = [] ∨ r.els ∈ kinds6
theorem buildRl4 (a o : Str) (f k n : Int) (s : Str) (p : Option Addr) (l c : Nat) (w : World) : (Instr.build 38 #[(0, str a), (1, .int .i64 f), (2, str o), (3, .agg #[.int .i64 k, .int .i64 n, str s, .slice p l c])]).run Tryz.prog w = .ok (.agg #[str a, .int .i64 f, str o, .int .i64 k, .int .i64 n, str s, .slice p l c, .int .i64 0, .int .i64 0, str [], .slice none 0 0, str [], str []]) w := by kernel_rfl
theorem Typed_any (X : List Nat) (bm : Nat) (lv : Value) (l : List Int) (i : Nat) (w : World) (hmk : Mk3 w bm lv i) (hsl : SlV [bm] w lv l) (hl : ∀ a ∈ l, I64 a) (hi : i ≤ 50000) (hX : ∀ b ∈ X, b < w.heap.size) :
 Calls Tryz.prog 81 #[.pointer (some ⟨bm, 0, none⟩)] w (Ret fun r w' => ∃ (rl : RuleM) (i' : Nat), RulV X w' r rl.rul ∧ GnRule rl ∧ Mk3 w' bm lv i' ∧ i' ≤ i + 300 ∧ Stp [bm] w w') := by
 have z4 : szD 4 = 40 := by decide
 have z4' : szD (3 + 1) = 40 := z4
 have hsl0 := hsl
 have hbm := hmk.lt
 refine calls_of_WC1 (n := 40) Tryz.func81 rfl rfl rfl ?_
 refine W ?_
 refine WL_eff OE_alloc rfl ?_
 rintro _ w1 ⟨b2, rfl, hb2, e2, hS⟩
 have n2 : b2 ≠ bm := by have := hmk.lt; omega
 replace hmk := hmk.up hS
 replace hsl := hsl.up hS
 replace hS : Stp [bm] w w1 := hS.mono (by simp)
 have l2 := e2.lt
 refine W ?_
 refine CL rfl (evs2 rfl rfl) rfl (Next3_any bm lv l _ 4 _ (by decide) (by omega) hmk hsl hl) ?_
 rintro _ wq ⟨q1, rfl, hq1, hmk, hT⟩
 replace hsl := hsl.ext hT (fun _ h => h) (fun _ h => .inl h)
 replace e2 := e2.ext hT (by simp; exact n2)
 replace hS := hS.trans hT
 clear hT
 refine CL rfl (evs1 rfl) rfl (Name3_any q1 _ (by omega)) ?_
 rintro _ wq ⟨⟨nm, hnm, rfl⟩, hT⟩
 replace hmk := hmk.up hT
 replace hsl := hsl.up hT
 replace e2 := e2.up hT
 replace hS := hS.trans (hT.mono (by simp))
 clear hT
 refine W ?_
 refine CL rfl (evs2 rfl rfl) rfl (Next3_any bm lv l _ 30 _ (by decide) (by omega) hmk hsl hl) ?_
 rintro _ wq ⟨q2, rfl, hq2, hmk, hT⟩
 replace hsl := hsl.ext hT (fun _ h => h) (fun _ h => .inl h)
 replace e2 := e2.ext hT (by simp; exact n2)
 replace hS := hS.trans hT
 clear hT
 refine W ?_
 refine CL rfl (evs2 rfl rfl) rfl (Next3_any bm lv l _ 6 _ (by decide) (by omega) hmk hsl hl) ?_
 rintro _ wq ⟨q3, rfl, hq3, hmk, hT⟩
 replace hsl := hsl.ext hT (fun _ h => h) (fun _ h => .inl h)
 replace e2 := e2.ext hT (by simp; exact n2)
 replace hS := hS.trans hT
 clear hT
 refine CL rfl (evs1 rfl) rfl (Kind3_any q3 _ (by omega)) ?_
 rintro _ wq ⟨⟨on, hon, rfl⟩, hT⟩
 replace hmk := hmk.up hT
 replace hsl := hsl.up hT
 replace e2 := e2.up hT
 replace hS := hS.trans (hT.mono (by simp))
 clear hT
 refine W ?_
 refine CL rfl evs0 rfl (True13_any (b2 :: bm :: X) _) ?_
 rintro _ wq ⟨⟨kt, rfl, ht⟩, hT⟩
 obtain ⟨pt, ct, rfl, -⟩ := id ht
 replace ht : SlV (b2 :: bm :: X) wq (.slice pt trueN.kids.length ct) trueN.kids := ht
 replace hmk := hmk.up hT
 replace hsl := hsl.up hT
 replace e2 := e2.up hT
 replace hS := hS.trans (hT.mono (by simp))
 clear hT
 refine W ?_
 refine WL_build (vs := [(0, str nm), (1, .int .i64 _), (2, str on), (3, .agg #[.int .i64 2, .int .i64 1, str [], .slice pt 0 ct])]) rfl (buildRl4 _ _ _ _ _ _ _ _ _) rfl ?_
 refine WL_eff OE_alloc rfl ?_
 rintro _ wq ⟨b3, rfl, hb3, e0, hT⟩
 have hbl : ∀ c, c < w.heap.size → c < b3 := fun c hc => by have := hS.size; omega
 have n3 : b3 ≠ bm := by have := hmk.lt; omega
 have n23 : b2 ≠ b3 := by have := e2.lt; omega
 have hb3w : w.heap.size ≤ b3 := Nat.le_trans hS.size hb3
 refine WL_eff0 (OE_storeA (us := rlC ⟨nm, 739616 + (q2 : Int) - 10, on, trueN, nil4, [], []⟩ (.slice pt 0 ct) nilS) rfl rfl rfl rfl (rlC_one _ (X := b2 :: bm :: X) ht (nilSlv [] wq)) e0 rfl) ?_
 rintro _ wq ⟨hT2, e3⟩
 replace hT := keep_node hT hb3 hT2
 clear hT2 e0
 replace ht : SlV (b3 :: b2 :: bm :: X) wq (.slice pt trueN.kids.length ct) trueN.kids := ht.ext hT (by simp) (fun c hc => by
  rcases List.mem_cons.1 hc with rfl | h
  · exact .inr hb3
  · exact .inl h)
 replace hmk := hmk.up hT
 replace hsl := hsl.up hT
 replace e2 := e2.up hT
 replace hS := hS.trans (hT.mono (by simp))
 clear hT hb3
 have hfr : 739606 ≤ 739616 + (q2 : Int) - 10 ∧ 739616 + (q2 : Int) - 10 < 739636 := by omega
 generalize 739616 + (q2 : Int) - 10 = fr at *
 clear hq1 hq3
 refine W ?_
 refine CL rfl (evs2 rfl rfl) rfl (Next3_any bm lv l _ 3 _ (by decide) (by omega) hmk hsl hl) ?_
 rintro _ wq ⟨q4, rfl, hq4, hmk, hT⟩
 replace hsl := hsl.ext hT (fun _ h => h) (fun _ h => .inl h)
 replace e2 := e2.ext hT (by simp; exact n2)
 replace e3 := e3.ext hT (by simp; exact n3)
 replace hS := hS.trans hT
 replace ht := ht.ext hT (by simp) (fun _ h => .inl h)
 clear hT
 have hXs : ∀ (w' : World), Stp [bm] w w' → (∃ cs, Blk w' b3 38 cs) → (∃ cs, Blk w' b2 38 cs) → ∀ b ∈ b3 :: b2 :: bm :: X, b < w'.heap.size := fun w' h1 h2 h3 b hb => by
  obtain ⟨_, h2⟩ := h2
  obtain ⟨_, h3⟩ := h3
  have := h1.size
  simp only [List.mem_cons] at hb
  rcases hb with rfl | rfl | rfl | h
  · exact h2.lt
  · exact h3.lt
  · omega
  · have := hX b h; omega
 refine W ?_
 refine WC_cutQ (σ := Nd × Value × Nat) (fun _ => [(0, .pointer (some ⟨bm, 0, none⟩)), (2, .pointer (some ⟨b2, 0, none⟩)), (3, .pointer (some ⟨b3, 0, none⟩))])
  (fun q w' => Gn 2 3 q.1 ∧ SlV (b3 :: b2 :: bm :: X) w' q.2.1 q.1.kids ∧ Mk3 w' bm lv q.2.2 ∧ q.2.2 ≤ i + 124 ∧ SlV [bm] w' lv l ∧ (∃ cs : List Value, cs.length = 13 ∧ Blk w' b2 38 cs) ∧ Blk w' b3 38 (rlC ⟨nm, fr, on, q.1, nil4, [], []⟩ q.2.1 nilS) ∧ Stp [bm] w w') ?_ ?_
 · repeat' (first | refine W1 ?_ | (exfalso; omega) | (refine VG ?_ ?_ <;> intro hg) | (refine VC ?_ ?_ <;> intro hc))
   · refine CL rfl (evs2 rfl rfl) rfl ((gens3 3 (by decide)).2.1 (b3 :: b2 :: bm :: X) _ bm lv l _ _ rfl hmk hsl hl (by rw [z4]; omega) (hXs _ hS ⟨_, e3⟩ ⟨_, e2⟩)) ?_
     rintro _ wq ⟨y, i1, ⟨ky, rfl, hy⟩, gy, hmk, hi1, hT⟩
     replace hsl := hsl.ext hT (fun _ h => h) (fun _ h => .inl h)
     replace e2 := e2.ext hT (by simp; exact n2)
     replace e3 := e3.ext hT (by simp; exact n3)
     replace hS := hS.trans hT
     clear hT
     refine W ?_
     refine WL_eff0 (OE_store (us := ndC y ky) rfl rfl rfl rfl (ndC_one hy) e3 (by simp)) ?_
     rintro _ wq ⟨hT, e3⟩
     replace e3 : Blk wq b3 38 (rlC ⟨nm, fr, on, y, nil4, [], []⟩ ky nilS) := e3
     replace hy := hy.ext hT (by simp) (fun _ h => .inl h)
     replace hmk := hmk.ext hT (by simp; exact n3.symm)
     replace e2 := e2.ext hT (by simp; exact n23)
     replace hS := hS.own hT (fun b hb => .inr (by simp at hb; omega))
     replace hsl := hsl0.ext hS (fun _ h => h) (fun _ h => .inl h)
     clear hT
     refine W ?_
     exact WQ_cut (y, ky, _) ⟨rfl, rfl, rfl, trivial⟩ ⟨gy, hy, hmk, by simp only; omega, hsl, ⟨_, rfl, e2⟩, e3, hS⟩
   · exact WQ_cut (trueN, _, _) ⟨rfl, rfl, rfl, trivial⟩ ⟨.bool _ _ (by decide), ht, hmk, by simp only; omega, hsl, ⟨_, rfl, e2⟩, e3, hS⟩
 clear hmk hsl e2 e3 hS ht
 rintro ⟨y, ky, i1⟩ wq ⟨gy, hy, hmk, hi1, hsl, ⟨cs2, hc2, e2⟩, e3, hS⟩
 dsimp only at gy hy hmk hi1 e3
 have z4' : szD (3 + 1) = 40 := z4
 refine W ?_
 refine CL rfl (evs2 rfl rfl) rfl ((gens3 3 (by decide)).2.2 (b3 :: b2 :: bm :: X) _ bm lv l _ _ rfl hmk hsl hl (by rw [z4]; omega) (hXs _ hS ⟨_, e3⟩ ⟨_, e2⟩)) ?_
 rintro _ wq ⟨x, i2, ⟨kx, rfl, hx⟩, gx, hmk, hi2, hT⟩
 replace hy := hy.ext hT (by simp) (fun _ h => .inl h)
 replace e2 := e2.ext hT (by simp; exact n2)
 replace e3 := e3.ext hT (by simp; exact n3)
 replace hS := hS.trans hT
 clear hT
 refine W ?_
 refine WL_eff0 (OE_store (us := ndC x kx) rfl rfl rfl rfl (ndC_one hx) e3 (by simp)) ?_
 rintro _ wq ⟨hT, e3⟩
 replace e3 : Blk wq b3 38 (rlC ⟨nm, fr, on, y, x, [], []⟩ ky kx) := e3
 replace hx := hx.ext hT (by simp) (fun _ h => .inl h)
 replace hy := hy.ext hT (by simp) (fun _ h => .inl h)
 replace hmk := hmk.ext hT (by simp; exact n3.symm)
 replace e2 := e2.ext hT (by simp; exact n23)
 replace hS := hS.own hT (fun b hb => .inr (by simp at hb; omega))
 replace hsl := hsl0.ext hS (fun _ h => h) (fun _ h => .inl h)
 clear hT
 refine W ?_
 refine CL rfl (evs2 rfl rfl) rfl (Next3_any bm lv l _ 2 _ (by decide) (by omega) hmk hsl hl) ?_
 rintro _ wq ⟨q5, rfl, hq5, hmk, hT⟩
 replace hy := hy.ext hT (by simp) (fun _ h => .inl h)
 replace hx := hx.ext hT (by simp) (fun _ h => .inl h)
 replace e2 := e2.ext hT (by simp; exact n2)
 replace e3 := e3.ext hT (by simp; exact n3)
 replace hS := hS.trans hT
 replace hsl := hsl0.ext hS (fun _ h => h) (fun _ h => .inl h)
 clear hT
 refine W ?_
 refine WC_cutQ (σ := Str × Nat) (fun _ => [(0, .pointer (some ⟨bm, 0, none⟩)), (2, .pointer (some ⟨b2, 0, none⟩)), (3, .pointer (some ⟨b3, 0, none⟩))])
  (fun q w' => (q.1 = [] ∨ q.1 ∈ kinds6) ∧ SlV (b3 :: b2 :: bm :: X) w' ky y.kids ∧ SlV (b3 :: b2 :: bm :: X) w' kx x.kids ∧ Mk3 w' bm lv q.2 ∧ q.2 ≤ i + 250 ∧ Blk w' b2 38 cs2 ∧ Blk w' b3 38 (rlC ⟨nm, fr, on, y, x, q.1, []⟩ ky kx) ∧ Stp [bm] w w') ?_ ?_
 · repeat' (first | refine W1 ?_ | (exfalso; omega) | (refine VG ?_ ?_ <;> intro hg) | (refine VC ?_ ?_ <;> intro hc))
   · refine CL rfl (evs2 rfl rfl) rfl (Next3_any bm lv l _ 6 _ (by decide) (by omega) hmk hsl hl) ?_
     rintro _ wq ⟨q6, rfl, hq6, hmk, hT⟩
     replace hy := hy.ext hT (by simp) (fun _ h => .inl h)
     replace hx := hx.ext hT (by simp) (fun _ h => .inl h)
     replace e2 := e2.ext hT (by simp; exact n2)
     replace e3 := e3.ext hT (by simp; exact n3)
     replace hS := hS.trans hT
     clear hT
     refine W ?_
     refine CL rfl (evs1 rfl) rfl (Kind3_any q6 _ (by omega)) ?_
     rintro _ wq ⟨⟨kn, hkn, rfl⟩, hT⟩
     replace hy := hy.up hT
     replace hx := hx.up hT
     replace hmk := hmk.up hT
     replace e2 := e2.up hT
     replace e3 := e3.up hT
     replace hS := hS.trans (hT.mono (by simp))
     clear hT
     refine W ?_
     refine WL_eff0 (OE_store1 (u := str kn) rfl rfl rfl rfl e3 (by simp)) ?_
     rintro _ wq ⟨hT, e3⟩
     replace e3 : Blk wq b3 38 (rlC ⟨nm, fr, on, y, x, kn, []⟩ ky kx) := e3
     replace hx := hx.ext hT (by simp) (fun _ h => .inl h)
     replace hy := hy.ext hT (by simp) (fun _ h => .inl h)
     replace hmk := hmk.ext hT (by simp; exact n3.symm)
     replace e2 := e2.ext hT (by simp; exact n23)
     replace hS := hS.own hT (fun b hb => .inr (by simp at hb; omega))
     refine W ?_
     exact WQ_cut (kn, _) ⟨rfl, rfl, rfl, trivial⟩ ⟨.inr hkn, hy, hx, hmk, by simp only; omega, e2, e3, hS⟩
   · exact WQ_cut ([], _) ⟨rfl, rfl, rfl, trivial⟩ ⟨.inl rfl, hy, hx, hmk, by simp only; omega, e2, e3, hS⟩
 clear hmk hsl e2 e3 hS hy hx
 rintro ⟨u, i5⟩ wq ⟨hu, hy, hx, hmk, hi5, e2, e3, hS⟩
 dsimp only at hu hmk hi5 e3
 have hsl := hsl0.ext hS (fun _ h => h) (fun _ h => .inl h)
 refine W ?_
 refine CL rfl (evs2 rfl rfl) rfl (Next3_any bm lv l _ 2 _ (by decide) (by omega) hmk hsl hl) ?_
 rintro _ wq ⟨q5, rfl, hq5, hmk, hT⟩
 replace hy := hy.ext hT (by simp) (fun _ h => .inl h)
 replace hx := hx.ext hT (by simp) (fun _ h => .inl h)
 replace e2 := e2.ext hT (by simp; exact n2)
 replace e3 := e3.ext hT (by simp; exact n3)
 replace hS := hS.trans hT
 replace hsl := hsl0.ext hS (fun _ h => h) (fun _ h => .inl h)
 clear hT
 refine W ?_
 refine WC_cutQ (σ := Str × Nat) (fun _ => [(0, .pointer (some ⟨bm, 0, none⟩)), (2, .pointer (some ⟨b2, 0, none⟩)), (3, .pointer (some ⟨b3, 0, none⟩))])
  (fun q w' => (q.1 = [] ∨ q.1 ∈ kinds6) ∧ SlV (b3 :: b2 :: bm :: X) w' ky y.kids ∧ SlV (b3 :: b2 :: bm :: X) w' kx x.kids ∧ Mk3 w' bm lv q.2 ∧ q.2 ≤ i + 252 ∧ Blk w' b2 38 cs2 ∧ Blk w' b3 38 (rlC ⟨nm, fr, on, y, x, u, q.1⟩ ky kx) ∧ Stp [bm] w w') ?_ ?_
 · repeat' (first | refine W1 ?_ | (exfalso; omega) | (refine VG ?_ ?_ <;> intro hg) | (refine VC ?_ ?_ <;> intro hc))
   · refine CL rfl (evs2 rfl rfl) rfl (Next3_any bm lv l _ 6 _ (by decide) (by omega) hmk hsl hl) ?_
     rintro _ wq ⟨q6, rfl, hq6, hmk, hT⟩
     replace hy := hy.ext hT (by simp) (fun _ h => .inl h)
     replace hx := hx.ext hT (by simp) (fun _ h => .inl h)
     replace e2 := e2.ext hT (by simp; exact n2)
     replace e3 := e3.ext hT (by simp; exact n3)
     replace hS := hS.trans hT
     clear hT
     refine W ?_
     refine CL rfl (evs1 rfl) rfl (Kind3_any q6 _ (by omega)) ?_
     rintro _ wq ⟨⟨kn, hkn, rfl⟩, hT⟩
     replace hy := hy.up hT
     replace hx := hx.up hT
     replace hmk := hmk.up hT
     replace e2 := e2.up hT
     replace e3 := e3.up hT
     replace hS := hS.trans (hT.mono (by simp))
     clear hT
     refine W ?_
     refine WL_eff0 (OE_store1 (u := str kn) rfl rfl rfl rfl e3 (by simp)) ?_
     rintro _ wq ⟨hT, e3⟩
     replace e3 : Blk wq b3 38 (rlC ⟨nm, fr, on, y, x, u, kn⟩ ky kx) := e3
     replace hx := hx.ext hT (by simp) (fun _ h => .inl h)
     replace hy := hy.ext hT (by simp) (fun _ h => .inl h)
     replace hmk := hmk.ext hT (by simp; exact n3.symm)
     replace e2 := e2.ext hT (by simp; exact n23)
     replace hS := hS.own hT (fun b hb => .inr (by simp at hb; omega))
     refine W ?_
     exact WQ_cut (kn, _) ⟨rfl, rfl, rfl, trivial⟩ ⟨.inr hkn, hy, hx, hmk, by simp only; omega, e2, e3, hS⟩
   · exact WQ_cut ([], _) ⟨rfl, rfl, rfl, trivial⟩ ⟨.inl rfl, hy, hx, hmk, by simp only; omega, e2, e3, hS⟩
 clear hmk hsl e2 e3 hS hy hx
 rintro ⟨v, i6⟩ wq ⟨hv, hy, hx, hmk, hi6, e2, e3, hS⟩
 dsimp only at hv hmk hi6 e3
 have hsl := hsl0.ext hS (fun _ h => h) (fun _ h => .inl h)
 refine W ?_
 try (apply WL_pure (PR_loadN_blk (us := rlC ⟨nm, fr, on, y, x, u, v⟩ ky kx) rfl rfl e3 rfl rfl) rfl)
 try refine W ?_
 refine WL_eff0 (OE_storeA (us := rlC ⟨nm, fr, on, y, x, u, v⟩ ky kx) rfl rfl rfl rfl (rlC_one ⟨nm, fr, on, y, x, u, v⟩ hy hx) e2 (by rw [hc2]; rfl)) ?_
 rintro _ wz ⟨hT, e2⟩
 refine W ?_
 refine WQ_retc rfl rfl rfl e2 rfl ?_
 refine .mk ⟨⟨nm, fr, on, y, x, u, v⟩, i6, ⟨ky, kx, rfl, (hy.ext hT (by simp) (fun _ h => .inl h)).wk (fun b h => by simp [h]), (hx.ext hT (by simp) (fun _ h => .inl h)).wk (fun b h => by simp [h])⟩, ⟨hnm, hfr, hon, gy, gx, hu, hv⟩, hmk.ext hT (by simp; exact n2.symm), by omega, hS.own hT (fun b hb => .inr (by simp at hb; omega))⟩
theorem Ints01_any (X : List Nat) (v : Value) (l : List Int) (m : Nat) (w : World) (hs : SlV X w v l) (hl : ∀ a ∈ l, I64 a) (hm : m ≤ 100000) : Calls Tryz.prog 79 #[v, .int .i64 (m : Int)] w (Ret fun r w' => RowF 3 w w' r (l.take m)) := by
 have hmax := hs.max
 refine calls_of_WC2 (n := 14) Tryz.func79 rfl rfl rfl ?_
 refine W ?_
 have hmin : min (l.length : Int) (m : Int) = ((min l.length m : Nat) : Int) := by omega
 refine WL_pure (PR_slice_h (r := min l.length m) rfl hs rfl (by omega) (Nat.min_le_left _ _)) rfl ?_
 have hsl : SlV X w _ (l.take (min l.length m)) := hs.slc (Nat.zero_le (min l.length m)) (Nat.min_le_left _ _)
 refine WL_eff (OE_appF rfl (by decide) rfl rfl (RowF.nil (w := w)) (ys := l.take (min l.length m)) (hsl.wk (by simp [ob])) (by simp; omega) (by simp [maxLen]; omega)) rfl ?_
 rintro v' w1 ⟨hrow, -, -⟩
 refine W ?_
 refine WR ?_
 refine .mk ?_
 have e : l.take (min l.length m) = l.take m := by rw [Nat.min_comm, ← List.take_take, List.take_length]
 rw [List.nil_append, e] at hrow
 exact hrow
theorem buildMk3 (p : Option Addr) (l c : Nat) (w : World) : (Instr.build 132 #[(0, .slice p l c)]).run Tryz.prog w = .ok (.agg #[.slice p l c, .int .i64 0]) w := by kernel_rfl
theorem Well_any (lv : Value) (l : List Int) (w : World) (hs : SlV [] w lv l) (hl : ∀ a ∈ l, I64 a) : Calls Tryz.prog 28 #[lv] w (Ret fun r w' => ∃ rs : List RuleM, rs.length ≤ 4 ∧ (∀ x ∈ rs, GnRule x) ∧ SlV [] w' r (rs.map RuleM.rul) ∧ Stp [] w w') := by
 refine calls_of_WC1 (n := 24) Tryz.func28 rfl rfl rfl ?_
 refine W ?_
 refine CL rfl (evs2 rfl rfl) rfl (Ints01_any [] lv l 120 _ hs hl (by decide)) ?_
 rintro v w1 hrow0
 have hsl := hrow0.slv (X := []) (by simp)
 have hS := hrow0.2
 have hl' : ∀ a ∈ l.take 120, I64 a := fun a ha => hl a (List.mem_of_mem_take ha)
 clear hrow0
 generalize l.take 120 = l' at *
 obtain ⟨p, c, rfl, -⟩ := id hsl
 refine W ?_
 apply WL_build (vs := [(0, .slice p l'.length c)]) rfl (buildMk3 _ _ _) rfl
 refine WL_eff (OE_box rfl) rfl ?_
 rintro _ w2 ⟨bm, rfl, hbm, hmk, hT⟩
 replace hmk : Mk3 w2 bm (.slice p l'.length c) 0 := hmk
 replace hsl : SlV [bm] w2 (.slice p l'.length c) l' := hsl.ext hT (by simp) (fun b h => .inr (by simp at h; omega))
 have hbw : w.heap.size ≤ bm := Nat.le_trans hS.size hbm
 replace hS := hS.trans hT
 clear hT hbm
 refine W ?_
 refine CL rfl (evs2 rfl rfl) rfl (Next3_any bm _ l' _ 5 _ (by decide) (by omega) hmk hsl hl') ?_
 rintro _ w3 ⟨k, rfl, hk, hmk, hT⟩
 replace hsl := hsl.ext hT (fun _ h => h) (fun _ h => .inl h)
 have hlt := hmk.lt
 refine W ?_
 refine WC_loop (σ := Nat × List RuleM × Value × Nat) (fun q => [(3, .pointer (some ⟨bm, 0, none⟩)), (4, q.2.2.1), (5, .int .i64 (k : Int)), (6, .int .i64 (q.1 : Int))])
  (fun q w' => q.1 ≤ k ∧ q.2.1.length = q.1 ∧ (∀ x ∈ q.2.1, GnRule x) ∧ q.2.2.2 ≤ 1 + 300 * q.1 ∧ Mk3 w' bm (.slice p l'.length c) q.2.2.2 ∧ Row [bm] w' w3.heap.size 38 q.2.2.1 (q.2.1.map RuleM.rul) ∧ Stp [bm] w3 w')
  (fun q => k - q.1) (0, [], .slice none 0 0, 1) ⟨rfl, rfl, rfl, rfl, trivial⟩ ⟨Nat.zero_le _, rfl, by simp, by simp, hmk, Row.nil, Stp.refl _ _⟩ ?_
 have hS3 := hS.own hT (fun b hb => .inr (by simp at hb; omega))
 have hsl3 := hsl
 clear hmk hsl hS hT
 rintro ⟨i, rs, v, at_⟩ w4 ⟨hi, hlen, hall, hat, hmk, hrow, hS⟩
 dsimp only at hi hlen hall hat hmk hrow ⊢
 have hsz := hS.size
 by_cases hgo : i < k
 · repeat' (first | refine W1 ?_ | (exfalso; omega) | (refine VG ?_ ?_ <;> intro hg) | (refine VC ?_ ?_ <;> intro hc))
   have hXk : ∀ b ∈ ob v ++ [bm], b < w4.heap.size := fun b hb => by
    rcases List.mem_append.1 hb with h | h
    · exact (hrow.ob_le b h).2
    · simp at h; omega
   refine CL rfl (evs1 rfl) rfl (Typed_any (ob v ++ [bm]) bm _ l' _ _ hmk (hsl3.ext hS (fun _ h => h) (fun _ h => .inl h)) hl' (by omega) hXk) ?_
   rintro _ w5 ⟨r, i', ⟨ki, kd, rfl, hki, hkd⟩, hr, hmk, hi', hT⟩
   replace hrow := hrow.ext (X' := [bm]) hT (fun b hb => by
    simp only [List.mem_singleton] at hb
    subst hb
    exact ⟨by simp, fun h => by have := (hrow.ob_le b h).1; omega⟩) (fun b hb => .inl hb)
   have hXk5 : ∀ b ∈ ob v ++ [bm], b < w5.heap.size := fun b hb => Nat.lt_of_lt_of_le (hXk b hb) hT.size
   replace hS := hS.trans hT
   clear hT hXk
   obtain ⟨p1, c1, rfl, -⟩ := id hki
   obtain ⟨p2, c2, rfl, -⟩ := id hkd
   refine WL_eff (OE_buildSlice (vs := [(0, .agg (rlC r.rul (.slice p1 r.rul.cnd.kids.length c1) (.slice p2 r.rul.due.kids.length c2)).toArray)]) rfl (buildSR1 _ _ _ _ _ _ _)) rfl ?_
   intro bv w6 hN
   have hbv : SlV (ob v ++ [bm]) w6 bv [r.rul] := hN.slvG (css := [rlC r.rul _ _]) hXk5 rfl rfl (by simp) (repsR1 ⟨_, _, rfl, hki, hkd⟩) (by simp [maxLen])
   have hT := NewSl.stp hN
   replace hmk := hmk.up hT; replace hrow := hrow.up hT
   replace hS := hS.trans (hT.mono (by simp))
   clear hT hN hki hkd
   have hls := hS.size
   have hrl : (rs.map RuleM.rul).length = i := by rw [List.length_map, hlen]
   refine WL_eff (OE_append (X := [bm]) (base := w3.heap.size) rfl (by decide) rfl rfl hrow hbv (by simp only [List.length_cons, List.length_nil, List.length_map]; omega) (by simp only [List.length_cons, List.length_nil, List.length_map, maxLen]; omega) hls) rfl ?_
   rintro rv' w7 ⟨hrow', hT, hown⟩
   have hown1 : ∀ c ∈ ob v, w3.heap.size ≤ c := fun c hc => (hrow.ob_le c hc).1
   replace hmk := hmk.ext hT (fun h => by have := hown1 _ h; omega)
   replace hS := hS.own hT (fun c hc => .inr (hown1 c hc))
   clear hT
   refine W ?_
   refine WQ_loop (i + 1, rs ++ [r], rv', i') ⟨rfl, rfl, rfl, rfl, trivial⟩ ⟨hgo, by simp [hlen], ?_, Nat.le_trans hi' (Nat.le_trans (Nat.add_le_add_right hat 300) (Nat.le_of_eq (by rw [Nat.mul_add, Nat.add_assoc]))), hmk, ?_, hS⟩ (by dsimp only; omega)
   · intro x hx
     rcases List.mem_append.1 hx with h | h
     · exact hall x h
     · simp at h; subst h; exact hr
   · rw [List.map_append]
     exact hrow'
 · repeat' (first | refine W1 ?_ | (exfalso; omega) | (refine VG ?_ ?_ <;> intro hg) | (refine VC ?_ ?_ <;> intro hc))
   refine WR ?_
   refine .mk ⟨rs, by omega, hall, (hrow.slv (by simpa using hlt)).wk (by simp), hS3.own hS (fun b hb => .inr (by simp at hb; omega))⟩
theorem names3_ok : ∀ s ∈ names3, namedT s = true := by decide +kernel
theorem kinds6_ok : ∀ s ∈ kinds6, namedT s = true := by decide +kernel
theorem GnRule.check {r : RuleM} (h : GnRule r) : checkT r.rul = 0 := by
 have hn : namesT r.rul = true := by
  simp only [namesT, RuleM.rul, names3_ok _ h.name, kinds6_ok _ h.on, Bool.true_and, Bool.and_eq_true, Bool.or_eq_true]
  exact ⟨h.unl.imp decide_eq_true (kinds6_ok _), h.els.imp decide_eq_true (kinds6_ok _)⟩
 have hf := h.frm
 have m1 : mustF r.cond 2 = 0 := by
  have := h.cond.nest
  unfold mustF; rw [if_pos (by omega), h.cond.type]; decide
 have m2 : mustF r.due 3 = 0 := by
  have := h.due.nest
  unfold mustF; rw [if_pos (by omega), h.due.type]; decide
 unfold checkT
 rw [hn, if_neg (by decide), if_neg (by show ¬ (r.frm < 0 ∨ 3652058 < r.frm); omega)]
 show (if mustF r.cond 2 ≠ 0 then mustF r.cond 2 else mustF r.due 3) = 0
 simp [m1, m2]
theorem GnRule.ok {r : RuleM} (h : GnRule r) : RuleOk r := check_rule h.check (by have := h.cond.nest; omega) (by have := h.due.nest; omega)
theorem GnRule.len {r : RuleM} (h : GnRule r) : (showRule dateS r).length ≤ 900 := by
 have ll : ∀ w s : Str, (lineS w s).length ≤ s.length + w.length + 5 := fun w s => by unfold lineS; split <;> simp <;> omega
 have c1 : (showN dateS r.cond).length ≤ 290 := h.cond.len
 have c2 : (showN dateS r.due).length ≤ 401 := h.due.len
 have k := h.ok
 have n1 := k.name.word.len
 have n2 := k.on.word.len
 have nu : r.unl.length ≤ 12 := by rcases k.unl with e | e; rw [e]; simp; exact e.word.len
 have ne : r.els.length ≤ 12 := by rcases k.els with e | e; rw [e]; simp; exact e.word.len
 have e1 := ll [111, 110] r.on
 have e2 := ll [100, 117, 101] (showN dateS r.due)
 have e3 := ll [117, 110, 108, 101, 115, 115] r.unl
 have e4 := ll [101, 108, 115, 101] r.els
 have e5 : (headS dateS r).length = 5 + r.name.length + 7 + (dateS r.frm).length + 3 := by unfold headS; simp; omega
 have e6 := dateS_len k.frm.1 k.frm.2
 have e7 : (ifS dateS r.cond).length ≤ 297 := by
  unfold ifS
  split
  · simp
  · have := ll [105, 102] (showN dateS r.cond)
    simp only [List.length_cons, List.length_nil] at this
    omega
 unfold showRule
 simp only [List.length_append, List.length_cons, List.length_nil] at e1 e2 e3 e4 ⊢
 omega
theorem GnRule.total : ∀ {rs : List RuleM}, (∀ x ∈ rs, GnRule x) → (rs.flatMap (showRule dateS)).length ≤ 900 * rs.length
 | [], _ => by simp
 | r :: rs, h => by
   have := GnRule.total (rs := rs) (fun x hx => h x (by simp [hx]))
   have := (h r (by simp)).len
   simp only [List.flatMap_cons, List.length_append, List.length_cons]
   omega
theorem Rules_any (lv : Value) (l : List Int) (w : World) (hs : SlV [] w lv l) (hl : ∀ a ∈ l, I64 a) : Calls Tryz.prog 7 #[lv] w (Ret fun r w' => ∃ rs : List RuleM, rs.length ≤ 4 ∧ (∀ x ∈ rs, GnRule x) ∧ r = str (rs.flatMap (showRule dateS)) ∧ Stp [] w w') := by
 refine calls_of_WC1 (n := 6) Tryz.func7 rfl rfl rfl ?_
 refine W ?_
 refine CL rfl (evs1 rfl) rfl (Well_any lv l _ hs hl) ?_
 rintro rv w1 ⟨rs, h4, hall, hrs, hS⟩
 have ht := GnRule.total hall
 refine CL rfl (evs1 rfl) rfl (Print13_any [] rv rs _ hrs (fun x hx => ⟨(hall x hx).ok.frm, (hall x hx).ok.cond, (hall x hx).ok.due⟩) (fun x hx => (hall x hx).ok.on.word.ne) (by omega)) ?_
 rintro _ w2 ⟨rfl, hT⟩
 refine W ?_
 refine WR ?_
 exact .mk ⟨rs, h4, hall, rfl, hS.trans hT⟩
def badC (q : Cr) : Bool := decide ((verM q.cnd).2 ≠ 0) || decide ((verM q.due).2 ≠ 0) || decide ((verM q.cnd).1 ≠ 2) || decide ((verM q.due).1 ≠ 3) || decide (q.frm < 0) || decide (q.frm > 3652058) || !namedT q.name || !namedT q.on || (decide (q.unl ≠ []) && !namedT q.unl) || (decide (q.els ≠ []) && !namedT q.els)
def chkC (q : Cr) : Int := if badC q then 22 else 0
def flatF (l : List Ins) : List Int := l.flatMap fun x => [x.op, x.n]
theorem flatF_len (l : List Ins) : (flatF l).length = 2 * l.length := by
 unfold flatF
 induction l with
 | nil => rfl
 | cons a l ih => simp only [List.flatMap_cons, List.length_append, List.length_cons, List.length_nil, ih]; omega
theorem flatF_succ (l : List Ins) (j : Nat) (h : j < l.length) : flatF (l.take (j + 1)) = flatF (l.take j) ++ [l[j].op, l[j].n] := by
 unfold flatF
 rw [List.take_succ_eq_append_getElem h, List.flatMap_append]
 simp
theorem Flat_any (v : Value) (l : List Ins) (w : World) (hlen : l.length ≤ 100000) (hs : SlV [] w v l) :
 Calls Tryz.prog 40 #[v] w (Ret fun r w' => Row [] w' w.heap.size 3 r (flatF l) ∧ Stp [] w w') := by
 have hmax := hs.max
 refine calls_of_WC1 (n := 21) Tryz.func40 rfl rfl rfl ?_
 refine W ?_
 have hs0 := hs
 refine WC_loop (σ := Nat × Value) (fun q => [(3, q.2), (6, v), (7, .int .i64 (l.length : Int)), (8, .int .i64 (q.1 : Int))]) (fun q w' => q.1 ≤ l.length ∧ Row [] w' w.heap.size 3 q.2 (flatF (l.take q.1)) ∧ Stp [] w w') (fun q => l.length - q.1) (0, .slice none 0 0) ⟨rfl, rfl, rfl, rfl, trivial⟩ ⟨Nat.zero_le _, Row.nil, Stp.refl _ _⟩ ?_
 clear hs
 rintro ⟨j, u⟩ w2 ⟨hj, hrow, hS⟩
 dsimp only at hj hrow ⊢
 have hs := hs0.up hS
 by_cases hlt : j < l.length
 · repeat' (first | refine W1 ?_ | (exfalso; omega) | (refine VG ?_ ?_ <;> intro hg) | (refine VC ?_ ?_ <;> intro hc))
   refine WL_eff OE_alloc rfl ?_
   rintro _ w3 ⟨b5, rfl, hb5, e0, hT⟩
   refine WL_eff0 (OE_storeA (us := Flat.enc l[j]) rfl rfl rfl rfl (Flat.one _) e0 rfl) ?_
   rintro _ w4 ⟨hT2, e5⟩
   replace hT := hT.own hT2 (fun b hb => .inr (by simp at hb; omega))
   clear hT2 e0 hb5
   replace hrow := hrow.up hT
   replace hS := hS.trans hT
   clear hT
   refine W ?_
   refine WL_eff (OE_buildSlice (vs := [(0, .int .i64 l[j].op), (1, .int .i64 l[j].n)]) rfl (buildSI2 _ _)) rfl ?_
   rintro bv w5 hN
   have hbv : SlV (ob u ++ []) w5 bv [l[j].op, l[j].n] := hN.slv (fun b hb => (hrow.ob_le b (by simpa using hb)).2) rfl rfl (by simp [maxLen])
   have hT := NewSl.stp hN
   clear hN
   replace hrow := hrow.up hT
   replace hS := hS.trans hT
   clear hT
   have hbase := hS.size
   have hfl := flatF_len (l.take j)
   rw [List.length_take, Nat.min_eq_left hj] at hfl
   refine WL_eff (OE_append (X := []) (base := w.heap.size) rfl (by decide) rfl rfl hrow hbv (by simp only [List.length_cons, List.length_nil]; omega) (by simp only [List.length_cons, List.length_nil, maxLen]; omega) hbase) rfl ?_
   rintro u' w6 ⟨hrow', hT, _⟩
   have hown : ∀ b ∈ ob u, b ∈ ([] : List Nat) ∨ w.heap.size ≤ b := fun c hc => .inr (hrow.ob_le c hc).1
   refine W ?_
   exact WQ_loop (j + 1, u') ⟨rfl, rfl, rfl, rfl, trivial⟩ ⟨hlt, by dsimp only; rw [flatF_succ l j hlt]; exact hrow', hS.own hT hown⟩ (by dsimp only; omega)
 · have hje : j = l.length := by omega
   subst hje
   rw [List.take_length] at hrow
   repeat' (first | refine W1 ?_ | (exfalso; omega) | (refine VG ?_ ?_ <;> intro hg) | (refine VC ?_ ?_ <;> intro hc))
   refine WR ?_
   exact .mk ⟨hrow, hS⟩
end Go.Proofs.YtgpibcgebpgmiaaGreatDoor
namespace Go.Eng
open Go
def uintB (n : Nat) : List UInt8 := if n < 128 then [UInt8.ofNat n] else UInt8.ofNat (128 + n % 128) :: uintB (n / 128)
termination_by n
decreasing_by omega
theorem uintB_lo {n : Nat} (h : n < 128) : uintB n = [UInt8.ofNat n] := by rw [uintB, if_pos h]
theorem uintB_hi {n : Nat} (h : 128 ≤ n) : uintB n = UInt8.ofNat (128 + n % 128) :: uintB (n / 128) := by rw [uintB, if_neg (by omega)]
theorem uintB_pos (n : Nat) : 1 ≤ (uintB n).length := by
 rw [uintB]
 split <;> simp
theorem uintB_len (k : Nat) : ∀ n, n < 128 ^ (k + 1) → (uintB n).length ≤ k + 1 := by
 induction k with
 | zero => intro n h; rw [uintB_lo (by simpa using h)]; simp
 | succ k ih =>
   intro n h
   by_cases hn : n < 128
   · rw [uintB_lo hn]; simp
   · rw [uintB_hi (by omega)]
     have := ih (n / 128) (by rw [Nat.pow_succ] at h; exact Nat.div_lt_of_lt_mul (by rw [Nat.mul_comm]; exact h))
     simp only [List.length_cons]
     omega
theorem uintB_len10 {n : Nat} (h : n < 18446744073709551616) : (uintB n).length ≤ 10 := uintB_len 9 n (by omega)
def zigN (z : Int) : Nat := if z < 0 then 2 * (-(z + 1)).toNat + 1 else 2 * z.toNat
theorem zigN_lt {z : Int} (h : I64 z) : zigN z < 18446744073709551616 := by
 unfold I64 at h
 unfold zigN
 split <;> omega
def intB (z : Int) : List UInt8 := uintB (zigN z)
def textB (s : Str) : List UInt8 := uintB s.length ++ s
def intsB (l : List Int) : List UInt8 := uintB l.length ++ l.flatMap intB
theorem intB_len {z : Int} (h : I64 z) : (intB z).length ≤ 10 := uintB_len10 (zigN_lt h)
theorem flatMap_intB_len (l : List Int) (h : ∀ z ∈ l, I64 z) : (l.flatMap intB).length ≤ 10 * l.length := by
 induction l with
 | nil => simp
 | cons z l ih =>
   have h1 := intB_len (h z (by simp))
   have h2 := ih (fun z hz => h z (by simp [hz]))
   simp only [List.flatMap_cons, List.length_append, List.length_cons]
   omega
theorem or128 : ∀ c : Fin 256, (c.val ||| 128) = 128 + c.val % 128 := by decide +kernel
theorem or_u8 (n : Nat) : Go.bits .or .u8 ((n : Int) % 256) 128 = ((UInt8.ofNat (128 + n % 128)).toNat : Int) := by
 have h1 : ((n : Int) % 256) = ((n % 256 : Nat) : Int) := by omega
 rw [h1, show (128 : Int) = ((128 : Nat) : Int) from rfl, u8_or_nat _ _ (by omega) (by omega)]
 have h2 := or128 ⟨n % 256, by omega⟩
 simp only at h2
 rw [h2]
 simp only [UInt8.toNat_ofNat']
 omega
theorem byte_wrap (n : Nat) : IntKind.u8.wrap (n : Int) = (n : Int) % 256 := IntKind.wrap_u8' _
theorem wrap_u64_of {z : Int} (h0 : 0 ≤ z) (h : z < 18446744073709551616) : IntKind.u64.wrap z = z := by
 rw [IntKind.wrap_u64]
 omega
theorem byte_nat (n : Nat) (h : n < 256) : ((UInt8.ofNat n).toNat : Int) = (n : Int) := by
 rw [UInt8.toNat_ofNat']
 omega
theorem xor_ones (a : Nat) (ha : a < 18446744073709551616) : Go.bits .xor .u64 (a : Int) 18446744073709551615 = ((18446744073709551615 - a : Nat) : Int) := by
 have h1 : (BitVec.ofInt 64 (a : Int)).toNat = a := by
  rw [BitVec.ofInt_natCast, BitVec.toNat_ofNat]; exact Nat.mod_eq_of_lt (by omega)
 have h2 : BitVec.ofInt 64 (18446744073709551615 : Int) = BitVec.allOnes 64 := by decide
 show IntKind.u64.wrap ((BitVec.ofInt 64 (a : Int) ^^^ BitVec.ofInt 64 (18446744073709551615 : Int)).toNat : Int) = _
 rw [h2, BitVec.xor_allOnes, BitVec.toNat_not, h1, IntKind.wrap_u64]
 omega
theorem zig_bits {z : Int} (h : I64 z) : Go.bits .xor .u64 (IntKind.u64.wrap (IntKind.u64.wrap z * 2 ^ 1)) (IntKind.u64.wrap (z / 2 ^ 63)) = ((zigN z : Nat) : Int) := by
 unfold I64 at h
 simp only [IntKind.wrap_u64]
 by_cases hz : z < 0
 · have e1 : z % 18446744073709551616 = z + 18446744073709551616 := by omega
   have e2 : (z + 18446744073709551616) * 2 ^ 1 % 18446744073709551616 = ((2 * z + 18446744073709551616).toNat : Int) := by omega
   have e3 : z / 2 ^ 63 % 18446744073709551616 = 18446744073709551615 := by omega
   rw [e1, e2, e3, xor_ones _ (by omega)]
   unfold zigN
   rw [if_pos hz]
   omega
 · have e1 : z % 18446744073709551616 = z := by omega
   have e2 : z * 2 ^ 1 % 18446744073709551616 = ((2 * z.toNat : Nat) : Int) := by omega
   have e3 : z / 2 ^ 63 % 18446744073709551616 = ((0 : Nat) : Int) := by omega
   rw [e1, e2, e3, bits_xor_u64_nat _ _ (by omega) (by omega)]
   unfold zigN
   rw [if_neg hz]
   simp
end Go.Eng
namespace Go.Proofs.YtgpibcgebpgmiaaGreatDoor
open Go Go.Eng Go.RowKit
structure Wr (w : World) (bc base : Nat) (v : Value) (xs : List UInt8) : Prop where
 blk : Blk w bc 89 [v]
 row : Row [] w base 5 v xs
 apart : bc ∉ ob v
 low : bc < base
 top : base ≤ w.heap.size
def Wrs (w : World) (bc base : Nat) (v : Value) (ys : List UInt8) (w' : World) : Prop :=
 ∃ v', Wr w' bc base v' ys ∧ Stp (bc :: ob v) w w' ∧ ∀ b ∈ ob v', b ∈ ob v ∨ w.heap.size ≤ b
theorem Wr.up {w w' : World} {bc base : Nat} {v : Value} {xs : List UInt8} (h : Wr w bc base v xs) (hS : Stp [] w w') : Wr w' bc base v xs :=
 ⟨h.blk.up hS, h.row.up hS, h.apart, h.low, Nat.le_trans h.top hS.size⟩
theorem Wrs.pre {w0 w w' : World} {bc base : Nat} {v : Value} {ys : List UInt8} (hS : Stp [] w0 w) (h : Wrs w bc base v ys w') : Wrs w0 bc base v ys w' := by
 obtain ⟨v', h1, h2, h3⟩ := h
 exact ⟨v', h1, (hS.mono (by simp)).trans h2, fun b hb => (h3 b hb).imp id (fun h => Nat.le_trans hS.size h)⟩
theorem Wrs.next {w w1 w2 : World} {bc base : Nat} {v v1 : Value} {zs : List UInt8} (hS : Stp (bc :: ob v) w w1) (hb : ∀ b ∈ ob v1, b ∈ ob v ∨ w.heap.size ≤ b) (h : Wrs w1 bc base v1 zs w2) : Wrs w bc base v zs w2 := by
 obtain ⟨v', h1, h2, h3⟩ := h
 refine ⟨v', h1, ?_, fun b hb' => ?_⟩
 · exact hS.own h2 (fun b hb' => by
    rcases List.mem_cons.1 hb' with rfl | h
    · exact .inl (by simp)
    · exact (hb b h).imp (fun h => List.mem_cons_of_mem _ h) id)
 · rcases h3 b hb' with h | h
   · exact hb b h
   · exact .inr (Nat.le_trans hS.size h)
theorem buildB1 (b : UInt8) (w : World) : (Instr.buildSlice 42 1 #[(0, .int .u8 (b.toNat : Int))]).run Tryz.prog w = .ok (.slice (some ⟨w.heap.size, 0, none⟩) 1 1) (w.alloc (.cells (Flat.enc b).toArray 5)) := by kernel_rfl
theorem Wr.stored {w w1 w2 : World} {bc base : Nat} {v v' : Value} {xs ys : List UInt8} (h : Wr w bc base v xs) (hrow : Row [] w1 base 5 v' ys) (hS : Stp (ob v) w w1) (hb : ∀ b ∈ ob v', b ∈ ob v ∨ w.heap.size ≤ b)
 (hS2 : Stp [bc] w1 w2) (hblk : Blk w2 bc 89 [v']) : Wrs w bc base v ys w2 := by
 have hap : bc ∉ ob v' := fun hx => by
  rcases hb bc hx with h1 | h1
  · exact h.apart h1
  · have := h.blk.lt; omega
 refine ⟨v', ⟨hblk, hrow.keep hS2 (by simpa using hap), hap, h.low, Nat.le_trans h.top (Nat.le_trans hS.size hS2.size)⟩, ?_, hb⟩
 exact (hS.mono (fun x hx => List.mem_cons_of_mem _ hx)).trans (hS2.mono (by simp))
theorem Uint_any (bc base : Nat) (v : Value) (xs : List UInt8) (n : Nat) (w : World) (hn : n < 18446744073709551616) (hc : Wr w bc base v xs) (hl : xs.length ≤ 70368744177664) :
 Calls Tryz.prog 94 #[.pointer (some ⟨bc, 0, none⟩), .int .u64 (n : Int)] w (Ret fun r w' => r = .tuple #[] ∧ Wrs w bc base v (xs ++ uintB n) w') := by
 have hub := uintB_len10 hn
 refine calls_of_WC2 (n := 35) Tryz.func94 rfl rfl rfl ?_
 refine W ?_
 refine WC_loop (σ := Nat × Value × List UInt8) (fun q => [(0, .pointer (some ⟨bc, 0, none⟩)), (1, .int .u64 (q.1 : Int))]) (fun q w' => q.1 < 18446744073709551616 ∧ q.2.2 ++ uintB q.1 = xs ++ uintB n ∧ Wr w' bc base q.2.1 q.2.2 ∧ Stp (bc :: ob v) w w' ∧ ∀ b ∈ ob q.2.1, b ∈ ob v ∨ w.heap.size ≤ b) (fun q => q.1) (n, v, xs) ⟨rfl, rfl, trivial⟩ ⟨hn, rfl, hc, Stp.refl _ _, fun b hb => .inl hb⟩ ?_
 rintro ⟨m, u, ys⟩ w2 ⟨hm, heq, hW, hS, hob⟩
 dsimp only at hm heq hW hS hob ⊢
 have hlen := congrArg List.length heq
 simp only [List.length_append] at hlen
 have hup := uintB_pos m
 have hblk := hW.blk
 by_cases hlt : 128 ≤ m
 · repeat' (first | refine W1 ?_ | (exfalso; omega) | (refine VG ?_ ?_ <;> intro hg) | (refine VC ?_ ?_ <;> intro hc))
   refine WL_pure (PR_conv rfl) rfl ?_
   rw [byte_wrap m]
   refine WL_pure (PR_or rfl rfl (or_u8 m)) rfl ?_
   refine WL_eff (OE_buildSlice (vs := [(0, .int .u8 ((UInt8.ofNat (128 + m % 128)).toNat : Int))]) rfl (buildB1 _)) rfl ?_
   rintro bv w3 hN
   have hbv : SlV (ob u ++ []) w3 bv [(UInt8.ofNat (128 + m % 128))] := hN.slv (fun b hb => (hW.row.ob_le b (by simpa using hb)).2) rfl rfl (by simp [maxLen])
   have hT := NewSl.stp hN
   clear hN
   have hW3 := hW.up hT
   have hblk3 := hW3.blk
   refine WL_eff (OE_append (X := []) (base := base) rfl (by decide) rfl rfl hW3.row hbv (by simp only [List.length_cons, List.length_nil]; omega) (by simp only [List.length_cons, List.length_nil, maxLen]; omega) hW3.top) rfl ?_
   rintro u' w4 ⟨hrow4, hT4, hob4⟩
   have hblk4 := hblk3.ext hT4 hW3.apart
   refine W ?_
   refine WL_eff0 (OE_store1 (u := u') rfl rfl hrow4.slv0.cells hrow4.slv0.one hblk4 (by simp)) ?_
   rintro _ w5 ⟨hT5, hblk5⟩
   have hst := (hW3.stored hrow4 hT4 hob4 hT5 hblk5).pre hT
   clear hblk4 hblk3 hblk
   refine W ?_
   refine WL_pure (PR_shr (s := 7) (r := ((m / 128 : Nat) : Int)) rfl rfl (by decide) (by omega)) rfl ?_
   refine W ?_
   obtain ⟨v', k1, k2, k3⟩ := hst.next hS hob
   exact WQ_loop (m / 128, v', ys ++ [UInt8.ofNat (128 + m % 128)]) ⟨rfl, rfl, trivial⟩ ⟨by dsimp only; omega, by dsimp only; rw [← heq, uintB_hi hlt, List.append_assoc]; rfl, k1, k2, k3⟩ (by dsimp only; omega)
 · repeat' (first | refine W1 ?_ | (exfalso; omega) | (refine VG ?_ ?_ <;> intro hg) | (refine VC ?_ ?_ <;> intro hc))
   refine WL_pure (PR_convTo (b := ((UInt8.ofNat m).toNat : Int)) rfl (by rw [byte_wrap m, byte_nat m (by omega)]; omega)) rfl ?_
   refine WL_eff (OE_buildSlice (vs := [(0, .int .u8 ((UInt8.ofNat m).toNat : Int))]) rfl (buildB1 _)) rfl ?_
   rintro bv w3 hN
   have hbv : SlV (ob u ++ []) w3 bv [(UInt8.ofNat m)] := hN.slv (fun b hb => (hW.row.ob_le b (by simpa using hb)).2) rfl rfl (by simp [maxLen])
   have hT := NewSl.stp hN
   clear hN
   have hW3 := hW.up hT
   have hblk3 := hW3.blk
   refine WL_eff (OE_append (X := []) (base := base) rfl (by decide) rfl rfl hW3.row hbv (by simp only [List.length_cons, List.length_nil]; omega) (by simp only [List.length_cons, List.length_nil, maxLen]; omega) hW3.top) rfl ?_
   rintro u' w4 ⟨hrow4, hT4, hob4⟩
   have hblk4 := hblk3.ext hT4 hW3.apart
   refine W ?_
   refine WL_eff0 (OE_store1 (u := u') rfl rfl hrow4.slv0.cells hrow4.slv0.one hblk4 (by simp)) ?_
   rintro _ w5 ⟨hT5, hblk5⟩
   have hst := (hW3.stored hrow4 hT4 hob4 hT5 hblk5).pre hT
   clear hblk4 hblk3 hblk
   refine W ?_
   refine WR ?_
   refine .mk ⟨rfl, ?_⟩
   have h := hst.next hS hob
   rwa [← uintB_lo (by omega), heq] at h
theorem Int_any (bc base : Nat) (v : Value) (xs : List UInt8) (z : Int) (w : World) (hz : I64 z) (hc : Wr w bc base v xs) (hl : xs.length ≤ 70368744177664) :
 Calls Tryz.prog 38 #[.pointer (some ⟨bc, 0, none⟩), .int .i64 z] w (Ret fun r w' => r = .tuple #[] ∧ Wrs w bc base v (xs ++ intB z) w') := by
 refine calls_of_WC2 (n := 13) Tryz.func38 rfl rfl rfl ?_
 refine W ?_
 refine WL_pure (PR_conv rfl) rfl ?_
 refine WL_pure (PR_shl (s := 1) rfl rfl (by decide) rfl) rfl ?_
 refine W ?_
 refine WL_pure (PR_shr (s := 63) rfl rfl (by decide) rfl) rfl ?_
 refine WL_pure (PR_conv rfl) rfl ?_
 refine WL_pure (PR_xor rfl rfl (zig_bits hz)) rfl ?_
 refine CL rfl (evs2 rfl rfl) rfl (Uint_any bc base v xs (zigN z) w (zigN_lt hz) hc hl) ?_
 rintro _ w1 ⟨rfl, h⟩
 refine W ?_
 refine WR ?_
 exact .mk ⟨rfl, h⟩
theorem Text_any (bc base : Nat) (v : Value) (xs : List UInt8) (s : Str) (w : World) (hs : s.length ≤ 70368744177664) (hc : Wr w bc base v xs) (hl : xs.length ≤ 35184372088832) :
 Calls Tryz.prog 37 #[.pointer (some ⟨bc, 0, none⟩), str s] w (Ret fun r w' => r = .tuple #[] ∧ Wrs w bc base v (xs ++ textB s) w') := by
 have hub := uintB_len10 (n := s.length) (by omega)
 refine calls_of_WC2 (n := 20) Tryz.func37 rfl rfl rfl ?_
 refine W ?_
 refine WL_pure (PR_convTo (b := ((s.length : Nat) : Int)) rfl (wrap_u64_of (by omega) (by omega))) rfl ?_
 refine CL rfl (evs2 rfl rfl) rfl (Uint_any bc base v xs s.length w (by omega) hc (by omega)) ?_
 rintro _ w1 ⟨rfl, u, hW, hS, hob⟩
 have hblk := hW.blk
 refine W ?_
 refine WL_eff (OE_appendT (X := []) (base := base) rfl rfl hW.row (by simp only [List.length_append]; omega) hW.top) rfl ?_
 rintro u' w4 ⟨hrow4, hT4, hob4⟩
 have hblk4 := hblk.ext hT4 hW.apart
 refine W ?_
 refine WL_eff0 (OE_store1 (u := u') rfl rfl hrow4.slv0.cells hrow4.slv0.one hblk4 (by simp)) ?_
 rintro _ w5 ⟨hT5, hblk5⟩
 have hst := hW.stored hrow4 hT4 hob4 hT5 hblk5
 clear hblk4 hblk
 refine W ?_
 refine WR ?_
 have h := hst.next hS hob
 rw [List.append_assoc] at h
 exact .mk ⟨rfl, h⟩
theorem Ints_any (bc base : Nat) (v vl : Value) (xs : List UInt8) (l : List Int) (w : World) (hI : ∀ z ∈ l, I64 z) (hll : l.length ≤ 1000000) (hv : SlV (bc :: ob v) w vl l) (hc : Wr w bc base v xs) (hl : xs.length ≤ 35184372088832) :
 Calls Tryz.prog 39 #[.pointer (some ⟨bc, 0, none⟩), vl] w (Ret fun r w' => r = .tuple #[] ∧ Wrs w bc base v (xs ++ intsB l) w') := by
 have hub := uintB_len10 (n := l.length) (by omega)
 refine calls_of_WC2 (n := 21) Tryz.func39 rfl rfl rfl ?_
 refine W ?_
 refine WL_pure (PR_convTo (b := ((l.length : Nat) : Int)) rfl (wrap_u64_of (by omega) (by omega))) rfl ?_
 refine CL rfl (evs2 rfl rfl) rfl (Uint_any bc base v xs l.length w (by omega) hc (by omega)) ?_
 rintro _ w1 ⟨rfl, u, hW, hS, hob⟩
 replace hv : SlV (bc :: ob u) w1 vl l := hv.ext hS (fun _ h => h) (fun b hb => by
  rcases List.mem_cons.1 hb with rfl | h
  · exact .inl (by simp)
  · exact (hob b h).imp (fun h => List.mem_cons_of_mem _ h) id)
 refine W ?_
 refine WC_loop (σ := Nat × Value) (fun q => [(0, .pointer (some ⟨bc, 0, none⟩)), (11, vl), (12, .int .i64 (l.length : Int)), (13, .int .i64 (q.1 : Int))]) (fun q w' => q.1 ≤ l.length ∧ SlV (bc :: ob q.2) w' vl l ∧ Wr w' bc base q.2 (xs ++ uintB l.length ++ (l.take q.1).flatMap intB) ∧ Stp (bc :: ob v) w w' ∧ ∀ b ∈ ob q.2, b ∈ ob v ∨ w.heap.size ≤ b) (fun q => l.length - q.1) (0, u) ⟨rfl, rfl, rfl, rfl, trivial⟩ ⟨Nat.zero_le _, hv, by simpa using hW, hS, hob⟩ ?_
 clear hv hW hS hob
 rintro ⟨j, u2⟩ w2 ⟨hj, hv, hW, hS, hob⟩
 dsimp only at hj hv hW hS hob ⊢
 by_cases hlt : j < l.length
 · repeat' (first | refine W1 ?_ | (exfalso; omega) | (refine VG ?_ ?_ <;> intro hg) | (refine VC ?_ ?_ <;> intro hc))
   have hfl := flatMap_intB_len (l.take j) (fun z hz => hI z (List.mem_of_mem_take hz))
   rw [List.length_take] at hfl
   refine CL rfl (evs2 rfl rfl) rfl (Int_any bc base u2 _ l[j] w2 (hI _ (List.getElem_mem hlt)) hW (by simp only [List.length_append]; omega)) ?_
   rintro _ w3 ⟨rfl, u3, hW3, hS3, hob3⟩
   have hv3 : SlV (bc :: ob u3) w3 vl l := hv.ext hS3 (fun _ h => h) (fun b hb => by
    rcases List.mem_cons.1 hb with rfl | h
    · exact .inl (by simp)
    · exact (hob3 b h).imp (fun h => List.mem_cons_of_mem _ h) id)
   obtain ⟨u4, k1, k2, k3⟩ := (show Wrs w2 bc base u2 _ w3 from ⟨u3, hW3, hS3, hob3⟩).next hS hob
   refine W ?_
   refine WQ_loop (j + 1, u3) ⟨rfl, rfl, rfl, rfl, trivial⟩ ⟨hlt, hv3, ?_, ?_, ?_⟩ (by dsimp only; omega)
   · dsimp only
     rw [List.take_succ_eq_append_getElem hlt, List.flatMap_append]
     simpa using hW3
   · exact hS.own hS3 (fun b hb => by
      rcases List.mem_cons.1 hb with rfl | h
      · exact .inl (by simp)
      · exact (hob b h).imp (fun h => List.mem_cons_of_mem _ h) id)
   · intro b hb
     rcases hob3 b hb with h | h
     · exact hob b h
     · exact .inr (Nat.le_trans hS.size h)
 · have hje : j = l.length := by omega
   subst hje
   repeat' (first | refine W1 ?_ | (exfalso; omega) | (refine VG ?_ ?_ <;> intro hg) | (refine VC ?_ ?_ <;> intro hc))
   refine WR ?_
   rw [List.take_length, List.append_assoc] at hW
   exact .mk ⟨rfl, u2, hW, hS, hob⟩
theorem buildB0 (w : World) : (Instr.buildSlice 42 0 #[]).run Tryz.prog w = .ok (.slice (some ⟨w.heap.size, 0, none⟩) 0 0) (w.alloc (.cells #[] 5)) := by kernel_rfl
theorem Clone_any (v : Value) (xs : List UInt8) (w : World) (hs : SlV [] w v xs) (hl : xs.length ≤ 140737488355328) :
 Calls Tryz.prog 36 #[v] w (Ret fun r w' => Row [] w' w.heap.size 5 r xs ∧ Stp [] w w') := by
 have hs0 := hs
 obtain ⟨p, c, rfl, hlc, hm, hn, hc⟩ := hs
 refine calls_of_WC1 (n := 8) Tryz.func36 rfl rfl rfl ?_
 refine W ?_
 refine WL_pure (PR_eqlNil rfl rfl) rfl ?_
 cases p with
 | none =>
   have hx0 : xs = [] := by
    have := hn rfl
    exact List.eq_nil_of_length_eq_zero (by omega)
   subst hx0
   repeat' (first | refine W1 ?_ | (exfalso; omega) | (refine VG ?_ ?_ <;> intro hg) | (refine VC ?_ ?_ <;> intro hc))
   refine WR ?_
   exact .mk ⟨Row.nil, Stp.refl _ _⟩
 | some a =>
   repeat' (first | refine W1 ?_ | (exfalso; omega) | (refine VG ?_ ?_ <;> intro hg) | (refine VC ?_ ?_ <;> intro hc))
   refine WL_eff (OE_buildSlice (vs := []) rfl (buildB0)) rfl ?_
   rintro bv w1 hN
   have hrow : Row [] w1 w.heap.size 5 bv ([] : List UInt8) := hN.row (Nat.le_refl _) rfl rfl (by simp)
   have hT := NewSl.stp hN
   have hv : SlV (ob bv ++ []) w1 (.slice (some a) xs.length c) xs := hs0.ext hT (by simp) (fun b hb => .inr (hrow.ob_le b (by simpa using hb)).1)
   clear hN
   refine W ?_
   refine WL_eff (OE_append (X := []) (base := w.heap.size) rfl (by decide) rfl rfl hrow hv (by simp only [List.length_nil]; omega) (by simp only [List.length_nil, maxLen]; omega) hT.size) rfl ?_
   rintro r w2 ⟨hrow2, hT2, _⟩
   refine W ?_
   refine WR ?_
   exact .mk ⟨hrow2, hT.own hT2 (fun b hb => .inr (hrow.ob_le b hb).1)⟩
theorem Done_any (bc base : Nat) (v : Value) (xs : List UInt8) (w : World) (hc : Wr w bc base v xs) (hl : xs.length ≤ 140737488355328) :
 Calls Tryz.prog 41 #[.pointer (some ⟨bc, 0, none⟩)] w (Ret fun r w' => Row [] w' w.heap.size 5 r xs ∧ Stp [] w w') := by
 have hblk := hc.blk
 have hs := hc.row.slv0
 refine calls_of_WC1 (n := 8) Tryz.func41 rfl rfl rfl ?_
 refine W ?_
 refine CL rfl (evs1 rfl) rfl (Clone_any v xs w hs hl) ?_
 rintro r w1 h
 refine W ?_
 refine WR ?_
 exact .mk h
def encC (q : Cr) : List UInt8 := textB q.name ++ intB q.frm ++ textB q.on ++ intsB (flatF q.cnd) ++ intsB (flatF q.due) ++ textB q.unl ++ textB q.els
structure CrOk (q : Cr) : Prop where
 frm : I64 q.frm
 cnd : ∀ x ∈ q.cnd, I64 x.op ∧ I64 x.n
 due : ∀ x ∈ q.due, I64 x.op ∧ I64 x.n
 lcnd : q.cnd.length ≤ 100000
 ldue : q.due.length ≤ 100000
 lname : q.name.length ≤ 1048576
 lon : q.on.length ≤ 1048576
 lunl : q.unl.length ≤ 1048576
 lels : q.els.length ≤ 1048576
theorem flatF_I64 {l : List Ins} (h : ∀ x ∈ l, I64 x.op ∧ I64 x.n) : ∀ z ∈ flatF l, I64 z := by
 intro z hz
 simp only [flatF, List.mem_flatMap, List.mem_cons, List.not_mem_nil, or_false] at hz
 obtain ⟨x, hx, rfl | rfl⟩ := hz
 · exact (h x hx).1
 · exact (h x hx).2
theorem textB_len {s : Str} (h : s.length ≤ 1048576) : (textB s).length ≤ 1048586 := by
 have := uintB_len10 (n := s.length) (by omega)
 simp only [textB, List.length_append]
 omega
theorem intsB_len {l : List Ins} (h : ∀ x ∈ l, I64 x.op ∧ I64 x.n) (hl : l.length ≤ 100000) : (intsB (flatF l)).length ≤ 2000010 := by
 have h1 := flatF_len l
 have h2 := uintB_len10 (n := (flatF l).length) (by omega)
 have h3 := flatMap_intB_len _ (flatF_I64 h)
 simp only [intsB, List.length_append]
 omega
theorem Wrs.flat {w w1 w2 : World} {bc base : Nat} {v : Value} {xs ys : List UInt8} (hS : Stp [] w w1) (hW : Wr w1 bc base v xs) (hbc : w.heap.size ≤ bc) (h : Wrs w1 bc base v ys w2) : ∃ v', Wr w2 bc base v' ys ∧ Stp [] w w2 := by
 obtain ⟨v', h1, h2, _⟩ := h
 refine ⟨v', h1, hS.own h2 (fun b hb => ?_)⟩
 rcases List.mem_cons.1 hb with rfl | hb
 · exact .inr hbc
 · exact .inr (Nat.le_trans hbc (Nat.le_trans (Nat.le_of_lt hW.low) (hW.row.ob_le b hb).1))
theorem Encode_any (v : Value) (q : Cr) (w : World) (hq : CrOk q) (hv : CrV [] w v q) :
 Calls Tryz.prog 12 #[v] w (Ret fun r w' => Row [] w' w.heap.size 5 r (encC q) ∧ Stp [] w w') := by
 obtain ⟨kc, kd, rfl, hc1, hd1⟩ := hv
 have l1 := textB_len hq.lname
 have l2 := intB_len hq.frm
 have l3 := textB_len hq.lon
 have l4 := intsB_len hq.cnd hq.lcnd
 have l5 := intsB_len hq.due hq.ldue
 have l6 := textB_len hq.lunl
 have l7 := textB_len hq.lels
 have f1 := flatF_len q.cnd
 have f2 := flatF_len q.due
 have g1 := hq.lcnd
 have g2 := hq.ldue
 have g3 := hq.lname
 have g4 := hq.lon
 have g5 := hq.lunl
 have g6 := hq.lels
 refine calls_of_WC1 (n := 29) Tryz.func12 rfl rfl rfl ?_
 refine W ?_
 refine WL_eff (OE_box rfl) rfl ?_
 rintro _ wb ⟨b, rfl, hb, e0, hSb⟩
 replace e0 : Blk wb b 31 (crC q kc kd) := e0
 replace hc1 := hc1.up hSb
 replace hd1 := hd1.up hSb
 refine W ?_
 refine WL_eff OE_alloc rfl ?_
 rintro _ w1 ⟨bc, rfl, hbc, eW, hS⟩
 have hW : Wr w1 bc (bc + 1) (.slice none 0 0) [] := ⟨eW, Row.nil, by simp [ob], by omega, eW.lt⟩
 clear eW
 have e1 := e0.up hS
 refine W ?_
 refine CL rfl (evs2 rfl rfl) rfl (Text_any bc (bc + 1) _ _ q.name _ (by omega) hW (by simp only [List.length_append, List.length_nil]; omega)) ?_
 rintro _ w2 ⟨rfl, h⟩
 obtain ⟨u, hW2, hS2⟩ := h.flat hS hW hbc
 clear h hW hS e1
 have hW := hW2
 have hS := hS2
 clear hW2 hS2
 have e1 := e0.up hS
 refine W ?_
 refine CL rfl (evs2 rfl rfl) rfl (Int_any bc (bc + 1) _ _ q.frm _ hq.frm hW (by simp only [List.length_append, List.length_nil]; omega)) ?_
 rintro _ w2 ⟨rfl, h⟩
 obtain ⟨u, hW2, hS2⟩ := h.flat hS hW hbc
 clear h hW hS e1
 have hW := hW2
 have hS := hS2
 clear hW2 hS2
 have e1 := e0.up hS
 refine W ?_
 refine CL rfl (evs2 rfl rfl) rfl (Text_any bc (bc + 1) _ _ q.on _ (by omega) hW (by simp only [List.length_append, List.length_nil]; omega)) ?_
 rintro _ w2 ⟨rfl, h⟩
 obtain ⟨u, hW2, hS2⟩ := h.flat hS hW hbc
 clear h hW hS e1
 have hW := hW2
 have hS := hS2
 clear hW2 hS2
 have e1 := e0.up hS
 refine W ?_
 refine CL rfl (evs1 rfl) rfl (Flat_any _ q.cnd _ (by omega) (hc1.up hS)) ?_
 rintro vf w2 ⟨hrf, hT⟩
 have hle := hW.blk.lt
 have hvf : SlV (bc :: ob u) w2 vf (flatF q.cnd) := hrf.slv (X := bc :: ob u) (fun x hx => by
  rcases List.mem_cons.1 hx with rfl | hx
  · exact hle
  · exact (hW.row.ob_le x hx).2)
 replace hW := hW.up hT
 replace hS := hS.trans hT
 refine CL rfl (evs2 rfl rfl) rfl (Ints_any bc (bc + 1) _ _ _ (flatF q.cnd) _ (flatF_I64 hq.cnd) (by omega) hvf hW (by simp only [List.length_append, List.length_nil]; omega)) ?_
 rintro _ w3 ⟨rfl, h⟩
 obtain ⟨u, hW2, hS2⟩ := h.flat hS hW hbc
 clear h hW hS e1 hrf hvf hT
 have hW := hW2
 have hS := hS2
 clear hW2 hS2
 have e1 := e0.up hS
 refine W ?_
 refine CL rfl (evs1 rfl) rfl (Flat_any _ q.due _ (by omega) (hd1.up hS)) ?_
 rintro vf w2 ⟨hrf, hT⟩
 have hle := hW.blk.lt
 have hvf : SlV (bc :: ob u) w2 vf (flatF q.due) := hrf.slv (X := bc :: ob u) (fun x hx => by
  rcases List.mem_cons.1 hx with rfl | hx
  · exact hle
  · exact (hW.row.ob_le x hx).2)
 replace hW := hW.up hT
 replace hS := hS.trans hT
 refine CL rfl (evs2 rfl rfl) rfl (Ints_any bc (bc + 1) _ _ _ (flatF q.due) _ (flatF_I64 hq.due) (by omega) hvf hW (by simp only [List.length_append, List.length_nil]; omega)) ?_
 rintro _ w3 ⟨rfl, h⟩
 obtain ⟨u, hW2, hS2⟩ := h.flat hS hW hbc
 clear h hW hS e1 hrf hvf hT
 have hW := hW2
 have hS := hS2
 clear hW2 hS2
 have e1 := e0.up hS
 refine W ?_
 refine CL rfl (evs2 rfl rfl) rfl (Text_any bc (bc + 1) _ _ q.unl _ (by omega) hW (by simp only [List.length_append, List.length_nil]; omega)) ?_
 rintro _ w2 ⟨rfl, h⟩
 obtain ⟨u, hW2, hS2⟩ := h.flat hS hW hbc
 clear h hW hS e1
 have hW := hW2
 have hS := hS2
 clear hW2 hS2
 have e1 := e0.up hS
 refine W ?_
 refine CL rfl (evs2 rfl rfl) rfl (Text_any bc (bc + 1) _ _ q.els _ (by omega) hW (by simp only [List.length_append, List.length_nil]; omega)) ?_
 rintro _ w2 ⟨rfl, h⟩
 obtain ⟨u, hW2, hS2⟩ := h.flat hS hW hbc
 clear h hW hS e1
 have hW := hW2
 have hS := hS2
 clear hW2 hS2
 have e1 := e0.up hS
 refine W ?_
 refine CL rfl (evs1 rfl) rfl (Done_any bc (bc + 1) _ _ _ hW (by simp only [List.length_append, List.length_nil]; omega)) ?_
 rintro r w2 ⟨hr, hT⟩
 refine W ?_
 refine WR ?_
 have hSS := (hSb.trans hS).trans hT
 exact .mk ⟨by simpa [encC, List.append_assoc] using hr.lower (Nat.le_trans hSb.size hS.size), hSS⟩
end Go.Proofs.YtgpibcgebpgmiaaGreatDoor
namespace Go.Eng
open Go
abbrev Bs := List UInt8
def rdU : Nat → Bs → Sum Int (Nat × Bs)
 | i, [] => if i = 10 then .inl 7 else .inl 6
 | i, c :: r => if i = 10 then .inl 7 else if c.toNat < 128 then (if (i = 9 ∧ 1 < c.toNat) ∨ (0 < i ∧ c.toNat = 0) then .inl 7 else .inr (c.toNat, r))
   else match rdU (i + 1) r with
    | .inl e => .inl e
    | .inr (v, r') => .inr (c.toNat % 128 + 128 * v, r')
theorem pow_split (i : Nat) (h : i ≤ 8) : 2 ^ (64 - 7 * i) = 128 * 2 ^ (64 - 7 * (i + 1)) := by
 rw [show (128 : Nat) = 2 ^ 7 from rfl, ← Nat.pow_add]
 congr 1
 omega
theorem rdU_enc (n : Nat) : ∀ (i : Nat) (r : Bs), i ≤ 9 → n < 2 ^ (64 - 7 * i) → (0 < i → 0 < n) → rdU i (uintB n ++ r) = .inr (n, r) := by
 induction n using Nat.strongRecOn with
 | _ n ih =>
 intro i r hi hn h0
 by_cases h : n < 128
 · rw [uintB_lo h]
   show rdU i (UInt8.ofNat n :: r) = _
   have hb : (UInt8.ofNat n).toNat = n := by rw [UInt8.toNat_ofNat']; omega
   have h9 : ¬ ((i = 9 ∧ 1 < n) ∨ (0 < i ∧ n = 0)) := by
    rintro (⟨rfl, h1⟩ | ⟨h1, h2⟩)
    · simp at hn; omega
    · have := h0 h1; omega
   rw [rdU, if_neg (by omega), hb, if_pos h, if_neg h9]
 · have hi8 : i ≤ 8 := by
    rcases Nat.lt_or_ge i 9 with h1 | h1
    · omega
    · have : i = 9 := by omega
      subst this
      simp at hn
      omega
   rw [uintB_hi (by omega)]
   show rdU i (UInt8.ofNat (128 + n % 128) :: (uintB (n / 128) ++ r)) = _
   have hb : (UInt8.ofNat (128 + n % 128)).toNat = 128 + n % 128 := by rw [UInt8.toNat_ofNat']; omega
   have hp := pow_split i hi8
   rw [rdU, if_neg (by omega), hb, if_neg (by omega), ih (n / 128) (by omega) (i + 1) r (by omega) (by omega) (by omega)]
   simp only [Sum.inr.injEq, Prod.mk.injEq, and_true]
   omega
theorem rdU_dec (bs : Bs) : ∀ (i v : Nat) (r : Bs), i ≤ 9 → rdU i bs = .inr (v, r) → bs = uintB v ++ r ∧ v < 2 ^ (64 - 7 * i) ∧ (0 < i → 0 < v) := by
 induction bs with
 | nil => intro i v r hi h; rw [rdU, if_neg (by omega)] at h; cases h
 | cons c bs ih =>
   intro i v r hi h
   rw [rdU, if_neg (by omega)] at h
   split at h
   · rename_i hc
     split at h
     · cases h
     · rename_i hn
       simp only [Sum.inr.injEq, Prod.mk.injEq] at h
       obtain ⟨rfl, rfl⟩ := h
       refine ⟨?_, ?_, fun h0 => ?_⟩
       · rw [uintB_lo hc]
         simp
       · rcases Nat.lt_or_ge i 9 with h1 | h1
         · have : 2 ^ 7 ≤ 2 ^ (64 - 7 * i) := Nat.pow_le_pow_right (by decide) (by omega)
           omega
         · have : i = 9 := by omega
           subst this
           simp only [show 64 - 7 * 9 = 1 from rfl]
           omega
       · omega
   · rename_i hc
     rcases Nat.lt_or_ge i 9 with h1 | h1
     · cases hr : rdU (i + 1) bs with
       | inl e => rw [hr] at h; cases h
       | inr p =>
         obtain ⟨v', r'⟩ := p
         rw [hr] at h
         simp only [Sum.inr.injEq, Prod.mk.injEq] at h
         obtain ⟨rfl, rfl⟩ := h
         obtain ⟨e1, e2, e3⟩ := ih (i + 1) v' r' (by omega) hr
         have hp := pow_split i (by omega)
         have hc2 : c.toNat < 256 := c.toNat_lt
         have hv0 := e3 (by omega)
         refine ⟨?_, by omega, by omega⟩
         rw [uintB_hi (by omega), e1, show (c.toNat % 128 + 128 * v') / 128 = v' by omega]
         have : UInt8.ofNat (128 + (c.toNat % 128 + 128 * v') % 128) = c := by
          apply UInt8.toNat_inj.1
          rw [UInt8.toNat_ofNat']
          omega
         rw [this]
         rfl
     · have hi9 : i = 9 := by omega
       subst hi9
       cases bs with
       | nil => rw [rdU, if_pos rfl] at h; cases h
       | cons d bs => rw [rdU, if_pos rfl] at h; cases h
structure Rs where
 bs : Bs
 e : Int
def uintS (s : Rs) : Rs × Nat :=
 if s.e = 0 then (match rdU 0 s.bs with
  | .inl e => (⟨s.bs, e⟩, 0)
  | .inr (v, r) => (⟨r, 0⟩, v)) else (s, 0)
def zagI (u : Nat) : Int := if u % 2 = 1 then -((u / 2 : Nat) : Int) - 1 else ((u / 2 : Nat) : Int)
theorem zag_zig {z : Int} : zagI (zigN z) = z := by
 unfold zagI zigN
 split <;> split <;> omega
def intS (s : Rs) : Rs × Int := ((uintS s).1, zagI (uintS s).2)
def lengthS (most : Nat) (s : Rs) : Rs × Nat :=
 if (uintS s).1.e = 0 then (if most < (uintS s).2 then (⟨(uintS s).1.bs, 2⟩, 0) else uintS s) else ((uintS s).1, 0)
def textS (most : Nat) (s : Rs) : Rs × Str :=
 if (lengthS most s).1.e = 0 then (if (lengthS most s).1.bs.length < (lengthS most s).2 then (⟨(lengthS most s).1.bs, 6⟩, [])
  else (⟨(lengthS most s).1.bs.drop (lengthS most s).2, 0⟩, (lengthS most s).1.bs.take (lengthS most s).2)) else ((lengthS most s).1, [])
def intsLp : Nat → Rs → List Int → Rs × List Int
 | 0, s, out => (s, out)
 | n + 1, s, out => if s.e = 0 then intsLp n (intS s).1 (out ++ [(intS s).2]) else (s, out)
def intsS (most : Nat) (s : Rs) : Rs × List Int :=
 if (intsLp (lengthS most s).2 (lengthS most s).1 []).1.e = 0 then intsLp (lengthS most s).2 (lengthS most s).1 [] else ((intsLp (lengthS most s).2 (lengthS most s).1 []).1, [])
theorem uintS_enc {n : Nat} (h : n < 18446744073709551616) (r : Bs) : uintS ⟨uintB n ++ r, 0⟩ = (⟨r, 0⟩, n) := by
 unfold uintS
 rw [if_pos rfl, rdU_enc n 0 r (by omega) (by simpa using h) (by omega)]
theorem uintS_bad {s : Rs} (h : s.e ≠ 0) : uintS s = (s, 0) := by unfold uintS; rw [if_neg h]
theorem intS_enc {z : Int} (h : I64 z) (r : Bs) : intS ⟨intB z ++ r, 0⟩ = (⟨r, 0⟩, z) := by
 unfold intS intB
 rw [uintS_enc (zigN_lt h)]
 simp [zag_zig]
theorem lengthS_enc {n most : Nat} (h : n ≤ most) (hm : most < 18446744073709551616) (r : Bs) : lengthS most ⟨uintB n ++ r, 0⟩ = (⟨r, 0⟩, n) := by
 unfold lengthS
 rw [uintS_enc (by omega)]
 rw [if_pos rfl, if_neg (by simp only; omega)]
theorem textS_enc {t : Str} {most : Nat} (h : t.length ≤ most) (hm : most < 18446744073709551616) (r : Bs) : textS most ⟨textB t ++ r, 0⟩ = (⟨r, 0⟩, t) := by
 unfold textS textB
 rw [List.append_assoc, lengthS_enc h hm]
 rw [if_pos rfl, if_neg (by simp)]
 simp
theorem intsLp_enc (l : List Int) (h : ∀ z ∈ l, I64 z) : ∀ (r : Bs) (out : List Int), intsLp l.length ⟨l.flatMap intB ++ r, 0⟩ out = (⟨r, 0⟩, out ++ l) := by
 induction l with
 | nil => intro r out; simp [intsLp]
 | cons z l ih =>
   intro r out
   rw [List.length_cons, intsLp, if_pos rfl, List.flatMap_cons, List.append_assoc, intS_enc (h z (by simp))]
   rw [ih (fun z hz => h z (by simp [hz]))]
   simp
theorem intsS_enc {l : List Int} {most : Nat} (hl : ∀ z ∈ l, I64 z) (h : l.length ≤ most) (hm : most < 18446744073709551616) (r : Bs) : intsS most ⟨intsB l ++ r, 0⟩ = (⟨r, 0⟩, l) := by
 unfold intsS intsB
 rw [List.append_assoc, lengthS_enc h hm]
 simp only
 rw [intsLp_enc l hl]
 rw [if_pos rfl]
 rfl
end Go.Eng
namespace Go.Proofs.YtgpibcgebpgmiaaGreatDoor
open Go Go.Eng Go.RowKit
def dS1 (bs : Bs) := textS 12 ⟨bs, 0⟩
def dS2 (bs : Bs) := intS (dS1 bs).1
def dS3 (bs : Bs) := textS 12 (dS2 bs).1
def dS4 (bs : Bs) := intsS 400 (dS3 bs).1
def dS5 (bs : Bs) := intsS 400 (dS4 bs).1
def dS6 (bs : Bs) := textS 12 (dS5 bs).1
def dS7 (bs : Bs) := textS 12 (dS6 bs).1
structure CrFit (q : Cr) : Prop where
 frm : I64 q.frm
 cnd : ∀ x ∈ q.cnd, I64 x.op ∧ I64 x.n
 due : ∀ x ∈ q.due, I64 x.op ∧ I64 x.n
 lcnd : q.cnd.length ≤ 200
 ldue : q.due.length ≤ 200
 lname : q.name.length ≤ 12
 lon : q.on.length ≤ 12
 lunl : q.unl.length ≤ 12
 lels : q.els.length ≤ 12
theorem CrFit.ok {q : Cr} (h : CrFit q) : CrOk q := ⟨h.frm, h.cnd, h.due, Nat.le_trans h.lcnd (by decide), Nat.le_trans h.ldue (by decide), Nat.le_trans h.lname (by decide), Nat.le_trans h.lon (by decide), Nat.le_trans h.lunl (by decide), Nat.le_trans h.lels (by decide)⟩
theorem dec_steps {q : Cr} (h : CrFit q) (r : Bs) :
 dS1 (encC q ++ r) = (⟨intB q.frm ++ (textB q.on ++ (intsB (flatF q.cnd) ++ (intsB (flatF q.due) ++ (textB q.unl ++ (textB q.els ++ r))))), 0⟩, q.name) ∧
 dS2 (encC q ++ r) = (⟨textB q.on ++ (intsB (flatF q.cnd) ++ (intsB (flatF q.due) ++ (textB q.unl ++ (textB q.els ++ r)))), 0⟩, q.frm) ∧
 dS3 (encC q ++ r) = (⟨intsB (flatF q.cnd) ++ (intsB (flatF q.due) ++ (textB q.unl ++ (textB q.els ++ r))), 0⟩, q.on) ∧
 dS4 (encC q ++ r) = (⟨intsB (flatF q.due) ++ (textB q.unl ++ (textB q.els ++ r)), 0⟩, flatF q.cnd) ∧
 dS5 (encC q ++ r) = (⟨textB q.unl ++ (textB q.els ++ r), 0⟩, flatF q.due) ∧
 dS6 (encC q ++ r) = (⟨textB q.els ++ r, 0⟩, q.unl) ∧ dS7 (encC q ++ r) = (⟨r, 0⟩, q.els) := by
 have f1 := flatF_len q.cnd
 have f2 := flatF_len q.due
 have g1 := h.lcnd
 have g2 := h.ldue
 have s1 : dS1 (encC q ++ r) = (⟨intB q.frm ++ (textB q.on ++ (intsB (flatF q.cnd) ++ (intsB (flatF q.due) ++ (textB q.unl ++ (textB q.els ++ r))))), 0⟩, q.name) := by
  unfold dS1 encC
  simp only [List.append_assoc]
  exact textS_enc h.lname (by decide) _
 have s2 : dS2 (encC q ++ r) = (⟨textB q.on ++ (intsB (flatF q.cnd) ++ (intsB (flatF q.due) ++ (textB q.unl ++ (textB q.els ++ r)))), 0⟩, q.frm) := by
  unfold dS2; rw [s1]; exact intS_enc h.frm _
 have s3 : dS3 (encC q ++ r) = (⟨intsB (flatF q.cnd) ++ (intsB (flatF q.due) ++ (textB q.unl ++ (textB q.els ++ r))), 0⟩, q.on) := by
  unfold dS3; rw [s2]; exact textS_enc h.lon (by decide) _
 have s4 : dS4 (encC q ++ r) = (⟨intsB (flatF q.due) ++ (textB q.unl ++ (textB q.els ++ r)), 0⟩, flatF q.cnd) := by
  unfold dS4; rw [s3]; exact intsS_enc (flatF_I64 h.cnd) (by omega) (by decide) _
 have s5 : dS5 (encC q ++ r) = (⟨textB q.unl ++ (textB q.els ++ r), 0⟩, flatF q.due) := by
  unfold dS5; rw [s4]; exact intsS_enc (flatF_I64 h.due) (by omega) (by decide) _
 have s6 : dS6 (encC q ++ r) = (⟨textB q.els ++ r, 0⟩, q.unl) := by
  unfold dS6; rw [s5]; exact textS_enc h.lunl (by decide) _
 have s7 : dS7 (encC q ++ r) = (⟨r, 0⟩, q.els) := by
  unfold dS7; rw [s6]; exact textS_enc h.lels (by decide) _
 exact ⟨s1, s2, s3, s4, s5, s6, s7⟩
abbrev pre (l : List Nd) (j : Nat) : Nat := ((l.take j).map sizeN).sum
theorem NdV.parts {X : List Nat} {w : World} {v : Value} {x : Nd} (h : NdV X w v x) : ∃ p c, v = .agg #[.int .i64 x.kind, .int .i64 x.num, str x.word, .slice p x.kids.length c] ∧ SlV X w (.slice p x.kids.length c) x.kids := by
 obtain ⟨kv, rfl, hs⟩ := h
 obtain ⟨p, c, rfl, -⟩ := id hs
 exact ⟨p, c, rfl, hs⟩
theorem typeT_kid {x y : Nd} (h : typeT x ≠ 0) (hy : y ∈ x.kids) : typeT y ≠ 0 := by
 intro h0
 apply h
 rw [typeT_eq]
 unfold combT
 split
 · rfl
 · rw [if_pos (by rw [← h0]; exact List.mem_map_of_mem hy)]
def Seg (C : List Ins) (p : Nat) (c : List Ins) : Prop := ∃ A B, C = A ++ c ++ B ∧ A.length = p
theorem Seg.left {C a b : List Ins} {p : Nat} (h : Seg C p (a ++ b)) : Seg C p a := by
 obtain ⟨A, B, rfl, hp⟩ := h
 exact ⟨A, b ++ B, by simp, hp⟩
theorem Seg.right {C a b : List Ins} {p : Nat} (h : Seg C p (a ++ b)) : Seg C (p + a.length) b := by
 obtain ⟨A, B, rfl, hp⟩ := h
 exact ⟨A ++ a, B, by simp, by simp [hp]⟩
theorem Seg.at {C r : List Ins} {x : Ins} {p : Nat} (h : Seg C p (x :: r)) : C.getD p ⟨0, 0⟩ = x := by
 obtain ⟨A, B, rfl, hp⟩ := h
 subst hp
 simp
def runP (C : List Ins) : Nat → Nat → List (Option Shp) → Option (List (Option Shp))
 | _, 0, st => some st
 | p, k + 1, st => (stepM st p (C.getD p ⟨0, 0⟩)).bind (runP C (p + 1) k)
theorem runP_add (C : List Ins) (b : Nat) : ∀ (a p : Nat) (st : List (Option Shp)), runP C p (a + b) st = (runP C p a st).bind (runP C (p + a) b)
 | 0, p, st => by simp [runP]
 | a + 1, p, st => by
   rw [show a + 1 + b = (a + b) + 1 by omega, runP, runP]
   cases h : stepM st p (C.getD p ⟨0, 0⟩) with
   | none => rfl
   | some st' =>
     simp only [Option.bind_some]
     rw [runP_add C b a (p + 1) st', show p + 1 + a = p + (a + 1) by omega]
theorem runP_one (C : List Ins) (p : Nat) (st : List (Option Shp)) : runP C p 1 st = stepM st p (C.getD p ⟨0, 0⟩) := by
 rw [runP]
 cases stepM st p (C.getD p ⟨0, 0⟩) <;> rfl
theorem runM_runP (C : List Ins) (st : List (Option Shp)) : ∀ k : Nat, runM C k st = runP C 0 k st
 | 0 => rfl
 | k + 1 => by
   rw [runM, runP_add, runM_runP C st k]
   cases runP C 0 k st with
   | none => rfl
   | some st' => simp only [Option.bind_some, Nat.zero_add]; rw [runP_one]
def Runs (C : List Ins) (p : Nat) (c : List Ins) (s s' : Shp) : Prop :=
 ∀ st : List (Option Shp), st.length = C.length → p + c.length < C.length → st[p]? = some (some s) → (∀ i, p < i → i < p + c.length → st[i]? = some none) →
   (st[p + c.length]? = some none ∨ st[p + c.length]? = some (some s')) →
   ∃ st', runP C p c.length st = some st' ∧ st'.length = C.length ∧ st'[p + c.length]? = some (some s') ∧ ∀ i, p + c.length < i → st'[i]? = st[i]?
theorem reachP {st : List (Option Shp)} {t : Nat} {sh : Shp} (h : t < st.length) (h2 : st[t]? = some none ∨ st[t]? = some (some sh)) :
 ∃ st', reachM st (t : Int) sh = some st' ∧ st'.length = st.length ∧ st'[t]? = some (some sh) ∧ ∀ i, i ≠ t → st'[i]? = st[i]? := by
 unfold reachM
 rw [if_pos (by omega), Int.toNat_natCast, List.getD_eq_getElem?_getD]
 rcases h2 with h2 | h2
 · rw [h2]
   exact ⟨_, rfl, by simp, by simp [h], fun i hi => List.getElem?_set_ne (fun e => hi e.symm)⟩
 · rw [h2]
   simp only [Option.getD_some, if_pos]
   exact ⟨_, rfl, rfl, h2, fun _ _ => rfl⟩
theorem Runs.app {C a b : List Ins} {p : Nat} {s s1 s2 : Shp} (ha : Runs C p a s s1) (hb : Runs C (p + a.length) b s1 s2) (h1 : a ≠ []) (h2 : b ≠ []) : Runs C p (a ++ b) s s2 := by
 intro st hl hlt h0 hn hq
 have l1 := List.length_pos_iff.2 h1
 have l2 := List.length_pos_iff.2 h2
 simp only [List.length_append] at hlt hn hq ⊢
 obtain ⟨st1, r1, e1, e2, e3⟩ := ha st hl (by omega) h0 (fun i hi hi2 => hn i hi (by omega)) (.inl (hn _ (by omega) (by omega)))
 obtain ⟨st2, r2, g1, g2, g3⟩ := hb st1 e1 (by omega) e2 (fun i hi hi2 => by rw [e3 i hi]; exact hn i (by omega) (by omega)) (by rw [e3 _ (by omega), Nat.add_assoc]; exact hq)
 refine ⟨st2, by rw [runP_add, r1]; exact r2, g1, by rw [← Nat.add_assoc]; exact g2, fun i hi => by rw [g3 i (by omega), e3 i (by omega)]⟩
theorem runs_one {C : List Ins} {p : Nat} {x : Ins} {s s' : Shp} (hs : Seg C p [x]) (h1 : x.op ≠ 24) (h2 : x.op ≠ 13) (h3 : x.op ≠ 14) (hx : nextM x s = some s') : Runs C p [x] s s' := by
 intro st hl hlt h0 hn hq
 simp only [List.length_cons, List.length_nil, Nat.zero_add] at hlt hq ⊢
 obtain ⟨st', r1, r2, r3, r4⟩ := reachP (st := st) (t := p + 1) (sh := s') (by omega) hq
 refine ⟨st', ?_, by omega, r3, fun i hi => r4 i (by omega)⟩
 rw [runP_one, hs.at]
 unfold stepM
 rw [List.getD_eq_getElem?_getD, h0]
 simp only [Option.getD_some, hx]
 rw [if_neg h1, if_neg h2, if_neg h3]
 exact r1
def foldB (b : Nat) : List Ins → Shp → Option Shp
 | [], s => some s
 | x :: r, s => match nextM x s with
   | none => none
   | some s' => if s'.length ≤ b then foldB b r s' else none
theorem next_frame {x : Ins} {ts r s : Shp} (h : nextM x ts = some r) (hl : s.length + r.length ≤ 16) : nextM x (s ++ ts) = some (s ++ r) := by
 unfold nextM at h ⊢
 dsimp only at h ⊢
 split at h
 · rename_i hc
   obtain ⟨c1, c2, c3, c4⟩ := hc
   simp only [Option.some.injEq] at h
   have e1 : (s ++ ts).length - (effF x).1.length = s.length + (ts.length - (effF x).1.length) := by rw [List.length_append]; omega
   have e2 : (s ++ ts).drop (s.length + (ts.length - (effF x).1.length)) = ts.drop (ts.length - (effF x).1.length) := by
    rw [List.drop_append, List.drop_of_length_le (by omega), List.nil_append]
    congr 1
    omega
   have e3 : (s ++ ts).take (s.length + (ts.length - (effF x).1.length)) = s ++ ts.take (ts.length - (effF x).1.length) := by
    rw [List.take_append, List.take_of_length_le (by omega), show s.length + (ts.length - (effF x).1.length) - s.length = ts.length - (effF x).1.length by omega]
   rw [e1, e2, e3]
   have e4 : s ++ ts.take (ts.length - (effF x).1.length) ++ (effF x).2.2.1 = s ++ r := by rw [List.append_assoc, h]
   rw [e4, if_pos ⟨c1, by rw [List.length_append]; omega, c3, by rw [List.length_append]; omega⟩]
 · cases h
theorem runs_line {C : List Ins} (b : Nat) : ∀ (L : List Ins) (p : Nat) (s ts r : Shp), L ≠ [] → Seg C p L → (∀ x ∈ L, x.op ≠ 24 ∧ x.op ≠ 13 ∧ x.op ≠ 14) → foldB b L ts = some r → s.length + b ≤ 16 → Runs C p L (s ++ ts) (s ++ r)
 | [], _, _, _, _, h, _, _, _, _ => absurd rfl h
 | [x], p, s, ts, r, _, hs, ho, hf, hb => by
   obtain ⟨o1, o2, o3⟩ := ho x (by simp)
   unfold foldB at hf
   cases hx : nextM x ts with
   | none => rw [hx] at hf; cases hf
   | some s1 =>
     rw [hx] at hf
     simp only at hf
     split at hf
     · rename_i hl
       simp only [foldB, Option.some.injEq] at hf
       subst hf
       exact runs_one hs o1 o2 o3 (next_frame hx (by omega))
     · cases hf
 | x :: y :: L, p, s, ts, r, _, hs, ho, hf, hb => by
   obtain ⟨o1, o2, o3⟩ := ho x (by simp)
   rw [foldB] at hf
   cases hx : nextM x ts with
   | none => rw [hx] at hf; cases hf
   | some s1 =>
     rw [hx] at hf
     simp only at hf
     split at hf
     · rename_i hl
       have hs1 : Seg C p ([x] ++ (y :: L)) := hs
       exact Runs.app (a := [x]) (runs_one hs1.left o1 o2 o3 (next_frame hx (by omega))) (runs_line b (y :: L) _ s s1 r (by simp) hs1.right (fun z hz => ho z (by simp [hz])) hf hb) (by simp) (by simp)
     · cases hf
theorem runs_ch {C Lc Ly Ln : List Ins} {p : Nat} {s s' : Shp} (t1 t2 : Int)
 (hs : Seg C p (Lc ++ [⟨14, t1⟩] ++ Ly ++ [⟨13, t2⟩] ++ Ln)) (ht1 : t1 = ((p + Lc.length + 1 + Ly.length + 1 : Nat) : Int)) (ht2 : t2 = ((p + Lc.length + 1 + Ly.length + 1 + Ln.length : Nat) : Int))
 (hc : Runs C p Lc s (s ++ [2])) (hy : Runs C (p + Lc.length + 1) Ly s s') (hn : Runs C (p + Lc.length + 1 + Ly.length + 1) Ln s s') (h1 : Lc ≠ []) (h2 : Ly ≠ []) (h3 : Ln ≠ []) (hl : s.length ≤ 16) (hl' : s'.length ≤ 16) :
 Runs C p (Lc ++ [⟨14, t1⟩] ++ Ly ++ [⟨13, t2⟩] ++ Ln) s s' := by
 intro st hlen hlt h0 hno hq
 have l1 := List.length_pos_iff.2 h1
 have l2 := List.length_pos_iff.2 h2
 have l3 := List.length_pos_iff.2 h3
 have hlen0 : (Lc ++ [(⟨14, t1⟩ : Ins)] ++ Ly ++ [(⟨13, t2⟩ : Ins)] ++ Ln).length = Lc.length + (1 + (Ly.length + (1 + Ln.length))) := by simp only [List.length_append, List.length_cons, List.length_nil]; omega
 rw [hlen0] at hlt hno hq ⊢
 have g14 : C.getD (p + Lc.length) ⟨0, 0⟩ = ⟨14, t1⟩ := (show Seg C (p + Lc.length) (⟨14, t1⟩ :: (Ly ++ [⟨13, t2⟩] ++ Ln)) from (show Seg C p (Lc ++ (⟨14, t1⟩ :: (Ly ++ [⟨13, t2⟩] ++ Ln))) by simpa using hs).right).at
 have g13 : C.getD (p + Lc.length + 1 + Ly.length) ⟨0, 0⟩ = ⟨13, t2⟩ := by
  have h := (show Seg C p ((Lc ++ [⟨14, t1⟩] ++ Ly) ++ (⟨13, t2⟩ :: Ln)) by simpa using hs).right.at
  rw [← h]
  congr 1
  simp only [List.length_append, List.length_cons, List.length_nil]
  omega
 obtain ⟨st1, r1, e1, e2, e3⟩ := hc st hlen (by omega) h0 (fun i hi hi2 => hno i hi (by omega)) (.inl (hno _ (by omega) (by omega)))
 have n14 : nextM ⟨14, t1⟩ (s ++ [2]) = some s := by
  have := next_frame (x := ⟨14, t1⟩) (ts := [2]) (r := []) (s := s) (by simp [nextM, effF]) (by simpa using hl)
  simpa using this
 obtain ⟨st2, q1, q2, q3, q4⟩ := reachP (st := st1) (t := p + Lc.length + 1 + Ly.length + 1) (sh := s) (by omega) (.inl (by rw [e3 _ (by omega)]; exact hno _ (by omega) (by omega)))
 obtain ⟨st3, u1, u2, u3, u4⟩ := reachP (st := st2) (t := p + Lc.length + 1) (sh := s) (by omega) (.inl (by rw [q4 _ (by omega), e3 _ (by omega)]; exact hno _ (by omega) (by omega)))
 have s14 : runP C (p + Lc.length) 1 st1 = some st3 := by
  rw [runP_one, g14]
  unfold stepM
  rw [List.getD_eq_getElem?_getD, e2]
  simp only [Option.getD_some, n14]
  rw [if_neg (by simp), if_neg (by simp), if_pos trivial, if_pos (by omega), ht1, q1]
  simp only [Option.bind_some]
  rw [← u1]
  congr 1
 obtain ⟨st4, v1, v2, v3, v4⟩ := hy st3 (by omega) (by omega) u3 (fun i hi hi2 => by rw [u4 i (by omega), q4 i (by omega), e3 i (by omega)]; exact hno i (by omega) (by omega)) (.inl (by rw [u4 _ (by omega), q4 _ (by omega), e3 _ (by omega)]; exact hno _ (by omega) (by omega)))
 have n13 : nextM ⟨13, t2⟩ s' = some s' := by
  simp [nextM, effF, hl']
 have hq4 : st4[p + Lc.length + 1 + Ly.length + 1 + Ln.length]? = st[p + (Lc.length + (1 + (Ly.length + (1 + Ln.length))))]? := by
  rw [v4 _ (by omega), u4 _ (by omega), q4 _ (by omega), e3 _ (by omega)]
  congr 1
  omega
 obtain ⟨st5, w1, w2, w3, w4⟩ := reachP (st := st4) (t := p + Lc.length + 1 + Ly.length + 1 + Ln.length) (sh := s') (by omega) (by rw [hq4]; exact hq)
 have s13 : runP C (p + Lc.length + 1 + Ly.length) 1 st4 = some st5 := by
  rw [runP_one, g13]
  unfold stepM
  rw [List.getD_eq_getElem?_getD, v3]
  simp only [Option.getD_some, n13]
  rw [if_neg (by simp), if_pos trivial, if_pos (by omega), ht2, w1]
 obtain ⟨st6, x1, x2, x3, x4⟩ := hn st5 (by omega) (by omega) (by rw [w4 _ (by omega), v4 _ (by omega), u4 _ (by omega)]; exact q3) (fun i hi hi2 => by rw [w4 i (by omega), v4 i (by omega), u4 i (by omega), q4 i (by omega), e3 i (by omega)]; exact hno i (by omega) (by omega)) (.inr w3)
 refine ⟨st6, ?_, x2, ?_, fun i hi => by rw [x4 i (by omega), w4 i (by omega), v4 i (by omega), u4 i (by omega), q4 i (by omega), e3 i (by omega)]⟩
 · rw [runP_add, r1, Option.bind_some, runP_add, s14, Option.bind_some, runP_add, v1, Option.bind_some, runP_add, s13, Option.bind_some]
   exact x1
 · rw [← x3]
   congr 1
   omega
theorem sig_mem {x : Sig} (h : sigI x ≠ 0) : (x, Value.int .i64 (sigI x)) ∈ sigs := by
 have hs := sigF_int x
 unfold sigI sigF mget at *
 cases hf : sigs.find? (fun p => decide (p.1 = x)) with
 | none => rw [hf] at h; simp at h
 | some p =>
   have h1 := List.mem_of_find?_eq_some hf
   have h2 := List.find?_some hf
   simp only [decide_eq_true_eq] at h2
   rw [hf] at hs
   simp only at hs ⊢
   rw [← hs, ← h2]
   exact h1
theorem sig_cases {x : Sig} (h : sigI x ≠ 0) : ∃ e ∈ sigs, x = e.1 ∧ e.2 = .int .i64 (sigI x) := ⟨_, sig_mem h, rfl, rfl⟩
theorem ts_of {ts : List Int} (h0 : (0 : Int) ∉ ts) (h3 : ts.length ≤ 3) (hn : ts ≠ []) (h2 : ts.getD 2 0 = 0) : (ts.getD 1 0 = 0 ∧ ts = [ts.getD 0 0]) ∨ (ts.getD 1 0 ≠ 0 ∧ ts = [ts.getD 0 0, ts.getD 1 0]) := by
 match ts, h3 with
 | [], _ => exact absurd rfl hn
 | [a], _ => left; exact ⟨rfl, rfl⟩
 | [a, b], _ => right; refine ⟨fun hb => h0 ?_, rfl⟩; simp at hb; simp [hb]
 | [a, b, c], _ => exact absurd (by simp at h2; simp [h2]) h0
theorem combT_cases {k n : Int} {s : Str} {ts : List Int} (h : combT k n s ts ≠ 0) :
 (ts = [] ∧ combT k n s ts = leafN k n s) ∨
 ((0 : Int) ∉ ts ∧ ts.length ≤ 3 ∧ ts ≠ [] ∧ ((k = 9 ∧ ts = [2, combT k n s ts, combT k n s ts]) ∨ (k = 6 ∧ ts.getD 2 0 = 0 ∧ combT k n s ts = binT s (ts.getD 0 0) (ts.getD 1 0)) ∨ (combT k n s ts = sigI ⟨k, s, ts.getD 0 0, ts.getD 1 0, ts.getD 2 0⟩))) := by
 unfold combT at h ⊢
 split at h
 · exact absurd rfl h
 · rename_i h3
   split at h
   · exact absurd rfl h
   · rename_i h0
     rw [if_neg h3, if_neg h0]
     split at h
     · rename_i he
       left
       exact ⟨he, by rw [if_pos he]⟩
     · rename_i he
       right
       rw [if_neg he]
       refine ⟨h0, by omega, he, ?_⟩
       split at h
       · exact absurd rfl h
       · rename_i hn
         rw [if_neg hn]
         split at h
         · rename_i h9
           left
           rw [if_pos h9]
           refine ⟨h9.1, ?_⟩
           obtain ⟨_, _, e2, e3⟩ := h9
           match ts, h3 with
           | [], _ => exact absurd rfl he
           | [a], _ => simp at e2 e3 h
           | [a, b], _ => simp at e2 e3 h; exact absurd e3 h
           | [a, b, c], _ => simp at e2 e3 ⊢; exact ⟨e2, e3.symm⟩
           | a :: b :: c :: d :: r, h3 => simp at h3
         · rename_i h9
           rw [if_neg h9]
           split at h
           · rename_i h6
             right; left
             rw [if_pos h6]
             exact ⟨h6.1, h6.2, rfl⟩
           · rename_i h6
             right; right
             rw [if_neg h6]
theorem ctyLen2 {α : Type} {l : List α} (h : l.length = 2) : ∃ a b, l = [a, b] := by
 match l, h with
 | [a, b], _ => exact ⟨a, b, rfl⟩
theorem ctyLen3 {α : Type} {l : List α} (h : l.length = 3) : ∃ a b c, l = [a, b, c] := by
 match l, h with
 | [a, b, c], _ => exact ⟨a, b, c, rfl⟩
theorem codeN_ne (x : Nd) : typeT x ≠ 0 → ∀ p, codeN x p ≠ [] := by
 induction x using Nd.ind with
 | h k n s l ih =>
 intro ht p
 have hk : ∀ y ∈ l, typeT y ≠ 0 := fun y hy => typeT_kid (x := .mk k n s l) ht hy
 rw [codeN]
 unfold combC
 have hp : ∀ p, l ≠ [] → plainC k s (l.map codeN) p ≠ [] := by
  intro p hl
  unfold plainC
  cases l with
  | nil => exact absurd rfl hl
  | cons y r =>
    have := ih y (by simp) (hk y (by simp)) p
    simp only [List.map_cons, seqC]
    intro h
    simp only [List.append_eq_nil_iff] at h
    exact this h.1.1.1
 split
 · simp
 · rename_i hl
   have hl' : l ≠ [] := fun h => hl (by rw [h]; rfl)
   split
   · unfold chC; simp
   · split
     · unfold chC; simp
     · split
       · unfold chC; simp
       · split
         · simp
         · exact hp p hl'
theorem runs_seq {C : List Ins} : ∀ (l : List Nd), (∀ y ∈ l, ∀ p s, Seg C p (codeN y p) → s.length + nestN y ≤ 16 → Runs C p (codeN y p) s (s ++ [typeT y])) → (∀ y ∈ l, ∀ p, codeN y p ≠ []) →
 ∀ p s, l ≠ [] → Seg C p (seqC (l.map codeN) p) → (∀ y ∈ l, s.length + (l.length - 1) + nestN y ≤ 16) → Runs C p (seqC (l.map codeN) p) s (s ++ l.map typeT)
 | [], _, _, _, _, h, _, _ => absurd rfl h
 | [y], hr, hne, p, s, _, hs, hb => by
   have e : seqC ([y].map codeN) p = codeN y p := by simp [seqC]
   rw [e] at hs ⊢
   exact hr y (by simp) p s hs (by have := hb y (by simp); simpa using this)
 | y :: z :: l, hr, hne, p, s, _, hs, hb => by
   have e : seqC ((y :: z :: l).map codeN) p = codeN y p ++ seqC ((z :: l).map codeN) (p + (codeN y p).length) := by simp [seqC]
   rw [e] at hs ⊢
   have h1 := hr y (by simp) p s hs.left (by have := hb y (by simp); omega)
   have h2 := runs_seq (z :: l) (fun y hy => hr y (by simp [hy])) (fun y hy => hne y (by simp [hy])) (p + (codeN y p).length) (s ++ [typeT y]) (by simp) hs.right (fun w hw => by
    have := hb w (by simp [hw])
    simp only [List.length_append, List.length_cons, List.length_nil] at this ⊢
    omega)
   have h3 : seqC ((z :: l).map codeN) (p + (codeN y p).length) ≠ [] := by
    simp only [List.map_cons, seqC]
    intro h
    simp only [List.append_eq_nil_iff] at h
    exact hne z (by simp) _ h.1
   have := Runs.app h1 h2 (hne y (by simp) p) h3
   simpa using this
theorem runs_plain {C : List Ins} {l : List Nd} {L : List Ins} {p : Nat} {s ts r : Shp} (hr : ∀ y ∈ l, ∀ p s, Seg C p (codeN y p) → s.length + nestN y ≤ 16 → Runs C p (codeN y p) s (s ++ [typeT y])) (hne : ∀ y ∈ l, ∀ p, codeN y p ≠ [])
 (hts : l.map typeT = ts) (hl : l ≠ []) (hL : L ≠ []) (hs : Seg C p (seqC (l.map codeN) p ++ L)) (hb : ∀ y ∈ l, s.length + (l.length - 1) + nestN y ≤ 16) (ho : ∀ x ∈ L, x.op ≠ 24 ∧ x.op ≠ 13 ∧ x.op ≠ 14) (hf : foldB 2 L ts = some r) (h2 : s.length + 2 ≤ 16) :
 Runs C p (seqC (l.map codeN) p ++ L) s (s ++ r) := by
 have h1 := runs_seq l hr hne p s hl hs.left hb
 rw [hts] at h1
 have h3 : seqC (l.map codeN) p ≠ [] := by
  cases l with
  | nil => exact absurd rfl hl
  | cons y l =>
    simp only [List.map_cons, seqC]
    intro h
    simp only [List.append_eq_nil_iff] at h
    exact hne y (by simp) _ h.1
 exact Runs.app h1 (runs_line 2 L _ s ts r hL hs.right ho hf h2) h3 hL
def extraL (k : Int) (s : Str) : List Ins := (if k = 8 ∨ k = 5 ∧ s = [45] then [⟨8, 0⟩] else []) ++ insO (opF s)
theorem plainC_eq (k : Int) (s : Str) (cs : List Cf) (p : Nat) : plainC k s cs p = seqC cs p ++ extraL k s := by unfold plainC extraL; rw [List.append_assoc]
def okL (L : List Ins) (ts : List Int) (t : Int) : Bool := decide (L ≠ []) && L.all (fun x => decide (x.op ≠ 24 ∧ x.op ≠ 13 ∧ x.op ≠ 14)) && decide (foldB 2 L ts = some [t])
theorem okL_spec {L : List Ins} {ts : List Int} {t : Int} (h : okL L ts t = true) : L ≠ [] ∧ (∀ x ∈ L, x.op ≠ 24 ∧ x.op ≠ 13 ∧ x.op ≠ 14) ∧ foldB 2 L ts = some [t] := by
 unfold okL at h
 simp only [Bool.and_eq_true, decide_eq_true_eq, List.all_eq_true] at h
 exact ⟨h.1.1, h.1.2, h.2⟩
def sigOk (e : SigE) : Bool :=
 match e.2 with
 | .int .i64 t => decide (e.1.kind ≠ 9) && decide (e.1.kind ≠ 6) && decide (e.1.c = 0) && okL (extraL e.1.kind e.1.s) (if e.1.b = 0 then [e.1.a] else [e.1.a, e.1.b]) t
 | _ => false
theorem sigs_ok : sigs.all sigOk = true := by decide +kernel
theorem arith_ok : opsA.all (fun s => okL (extraL 6 s ++ (if s = [45] then [⟨6, 0⟩] else [])) [1, 1] 1 && !decide (s = [97, 110, 100]) && !decide (s = [111, 114])) = true := by decide +kernel
theorem comp_ok : opsC.all (fun s => okL (extraL 6 s) [1, 1] 2 && okL (extraL 6 s) [3, 3] 2 && !decide (s = [97, 110, 100]) && !decide (s = [111, 114]) && !decide (s = [45])) = true := by decide +kernel
theorem code_runs (C : List Ins) (x : Nd) : typeT x ≠ 0 → ∀ p s, Seg C p (codeN x p) → s.length + nestN x ≤ 16 → Runs C p (codeN x p) s (s ++ [typeT x]) := by
 induction x using Nd.ind with
 | h k n s l ih =>
 intro ht p sh hs hb
 have hk : ∀ y ∈ l, typeT y ≠ 0 := fun y hy => typeT_kid (x := .mk k n s l) ht hy
 have hr : ∀ y ∈ l, ∀ p s, Seg C p (codeN y p) → s.length + nestN y ≤ 16 → Runs C p (codeN y p) s (s ++ [typeT y]) := fun y hy => ih y hy (hk y hy)
 have hne : ∀ y ∈ l, ∀ p, codeN y p ≠ [] := fun y hy => codeN_ne y (hk y hy)
 have hnest : ∀ y ∈ l, nestN y + 1 ≤ nestN (.mk k n s l) := fun y hy => by have := nest_kid (x := .mk k n s l) hy; omega
 have hrange := typeT_range (.mk k n s l)
 have hteq : typeT (.mk k n s l) = combT k n s (l.map typeT) := typeT_eq _
 rw [codeN] at hs ⊢
 rw [hteq] at ht hrange ⊢
 rcases combT_cases ht with ⟨he, hc⟩ | ⟨h0, h3, hn0, hc⟩
 ·
   have hl : l = [] := by simpa using he
   subst hl
   unfold combC at hs ⊢
   rw [if_pos (show (List.map codeN ([] : List Nd)).length = 0 from rfl)] at hs ⊢
   rw [hc] at ht ⊢
   have hlen : sh.length + 1 ≤ 16 := by
    have : 1 ≤ nestN (.mk k n s []) := by rw [nestN_eq]; omega
    omega
   refine runs_one hs ?_ ?_ ?_ ?_
   · unfold leafI; split <;> (try split) <;> (try split) <;> simp
   · unfold leafI; split <;> (try split) <;> (try split) <;> simp
   · unfold leafI; split <;> (try split) <;> (try split) <;> simp
   · have hnx : nextM (leafI k n s) [] = some [leafN k n s] := by
      unfold leafN at ht ⊢
      unfold leafI
      by_cases k4 : k = 4
      · subst k4
        rw [if_pos rfl] at ht ⊢
        split at ht
        · rename_i hn
          rw [if_pos hn]
          have hf : ((fieldF s).2.1 = 3 ∧ ((fieldF s).1 = 0 ∨ (fieldF s).1 = 1)) ∨ ((fieldF s).2.1 = 1 ∧ 2 ≤ (fieldF s).1 ∧ (fieldF s).1 < 7) := by
           have h1 : (fieldF s).2.2 = true := by
            cases hb : (fieldF s).2.2 with
            | true => rfl
            | false => exact absurd (fieldF_no hb) ht
           obtain ⟨i, hi, hsn, _⟩ := (field_spec s (fieldF s).1).1 ⟨h1, rfl⟩
           subst hsn
           match i, hi with
           | 0, _ => decide +kernel
           | 1, _ => decide +kernel
           | 2, _ => decide +kernel
           | 3, _ => decide +kernel
           | 4, _ => decide +kernel
           | 5, _ => decide +kernel
           | 6, _ => decide +kernel
          rw [if_neg (by decide), if_neg (by decide), if_neg (by decide)]
          rcases hf with ⟨e1, e2⟩ | ⟨e1, e2, e3⟩
          · simp [nextM, effF, e1, e2]; omega
          · simp [nextM, effF, e1]; omega
        · exact absurd rfl ht
      · rw [if_neg k4] at ht ⊢
        split at ht
        · exact absurd rfl ht
        · rename_i hs0
          rw [if_neg hs0]
          by_cases k1 : k = 1
          · rw [if_pos k1] at ht ⊢
            rw [if_pos k1]
            split at ht
            · rename_i h; rw [if_pos h]; simp [nextM, effF]; omega
            · exact absurd rfl ht
          · rw [if_neg k1] at ht ⊢
            rw [if_neg k1]
            by_cases k2 : k = 2
            · rw [if_pos k2] at ht ⊢
              rw [if_pos k2]
              split at ht
              · rename_i h; rw [if_pos h]; simp [nextM, effF]; omega
              · exact absurd rfl ht
            · rw [if_neg k2] at ht ⊢
              rw [if_neg k2]
              by_cases k3 : k = 3
              · rw [if_pos k3] at ht ⊢
                rw [if_pos k3]
                split at ht
                · rename_i h; rw [if_pos h]; simp [nextM, effF]; omega
                · exact absurd rfl ht
              · rw [if_neg k3] at ht; exact absurd rfl ht
     have := next_frame (s := sh) hnx (by simpa using hlen)
     simpa using this
 · have hl : l ≠ [] := fun h => hn0 (by rw [h]; rfl)
   have hlen : l.length ≤ 3 := by simpa using h3
   have hlen0 : ¬ (l.map codeN).length = 0 := by simpa using hl
   unfold combC at hs ⊢
   rw [if_neg hlen0] at hs ⊢
   rcases hc with ⟨h9, hts⟩ | ⟨h6, hg2, hbt⟩ | hsg
   ·
     rw [if_pos h9] at hs ⊢
     generalize combT k n s (l.map typeT) = t at *
     have hl3 : l.length = 3 := by have := congrArg List.length hts; simpa using this
     obtain ⟨a, b, c, rfl⟩ := ctyLen3 hl3
     · simp only [List.map_cons, List.map_nil, List.cons.injEq, and_true] at hts
       obtain ⟨ta, tb, tc⟩ := hts
       simp only [List.map_cons, List.map_nil, List.getD_cons_zero, List.getD_cons_succ] at hs ⊢
       unfold chC at hs ⊢
       have na := hnest a (by simp)
       have nb := hnest b (by simp)
       have nc := hnest c (by simp)
       refine runs_ch _ _ hs rfl rfl ?_ ?_ ?_ (hne a (by simp) _) (hne b (by simp) _) (hne c (by simp) _) (by omega) (by simp only [List.length_append, List.length_cons, List.length_nil]; omega)
       · rw [← ta]
         exact hr a (by simp) p sh (by have := hs.left.left.left.left; exact this) (by omega)
       · rw [← tb]
         have h2 := hs.left.left.right
         simp only [List.length_append, List.length_cons, List.length_nil] at h2
         exact hr b (by simp) _ sh h2 (by omega)
       · rw [← tc]
         have h2 := hs.right
         simp only [List.length_append, List.length_cons, List.length_nil] at h2
         have e : p + ((codeN a p).length + (0 + 1) + (codeN b (p + (codeN a p).length + 1)).length + (0 + 1)) = p + (codeN a p).length + 1 + (codeN b (p + (codeN a p).length + 1)).length + 1 := by omega
         rw [e] at h2
         exact hr c (by simp) _ sh h2 (by omega)
   ·
     subst h6
     rw [if_neg (by decide)] at hs ⊢
     rcases ts_of h0 h3 hn0 hg2 with ⟨hb0, hts⟩ | ⟨hb0, hts⟩
     · exfalso
       apply ht
       rw [hbt, hb0]
       have ha0 : (l.map typeT).getD 0 0 ≠ 0 := fun h => h0 (by rw [hts, h]; simp)
       unfold binT
       split
       · rw [if_neg (by omega)]
       · split
         · rw [if_neg (by omega)]
         · split
           · rw [if_neg (by omega)]
           · rfl
     · have hl2 : l.length = 2 := by have := congrArg List.length hts; simpa using this
       obtain ⟨a, b, rfl⟩ := ctyLen2 hl2
       · simp only [List.map_cons, List.map_nil, List.getD_cons_zero, List.getD_cons_succ] at hbt
         have na := hnest a (by simp)
         have nb := hnest b (by simp)
         have ra := typeT_range a
         have hbnd : ∀ y ∈ [a, b], sh.length + ([a, b].length - 1) + nestN y ≤ 16 := fun y hy => by
          have := hnest y hy
          simp only [List.length_cons, List.length_nil]
          omega
         have h2 : sh.length + 2 ≤ 16 := by
          have : 1 ≤ nestN a := by rw [nestN_eq]; omega
          omega
         by_cases hA : s ∈ opsA
         · have hok := List.all_eq_true.1 arith_ok s hA
           simp only [Bool.and_eq_true, Bool.not_eq_true', decide_eq_false_iff_not] at hok
           obtain ⟨⟨hok, hand⟩, hor⟩ := hok
           obtain ⟨o1, o2, o3⟩ := okL_spec hok
           have hab : typeT a = typeT b ∧ typeT a = 1 := by
            unfold binT at hbt
            rw [if_pos hA] at hbt
            split at hbt
            · assumption
            · exact absurd hbt ht
           have ht1 : combT 6 n s ([a, b].map typeT) = 1 := by
            show combT 6 n s [typeT a, typeT b] = 1
            rw [hbt]; unfold binT; rw [if_pos hA, if_pos hab]
           rw [ht1]
           rw [if_neg (by intro h; exact hand h.2), if_neg (by intro h; exact hor h.2)] at hs ⊢
           split at hs
           · rename_i hm
             rw [if_pos hm]
             rw [plainC_eq, List.append_assoc] at hs ⊢
             rw [if_pos hm.2] at o1 o2 o3
             exact runs_plain hr hne (ts := [1, 1]) (by simp [hab.2, ← hab.1]) (by simp) o1 hs hbnd o2 o3 h2
           · rename_i hm
             rw [if_neg hm]
             have hm' : ¬ s = [45] := fun h => hm ⟨rfl, h⟩
             rw [if_neg hm', List.append_nil] at o1 o2 o3
             rw [plainC_eq] at hs ⊢
             exact runs_plain hr hne (ts := [1, 1]) (by simp [hab.2, ← hab.1]) (by simp) o1 hs hbnd o2 o3 h2
         · by_cases hC : s ∈ opsC
           · have hok := List.all_eq_true.1 comp_ok s hC
             simp only [Bool.and_eq_true, Bool.not_eq_true', decide_eq_false_iff_not] at hok
             obtain ⟨⟨⟨⟨hok1, hok3⟩, hand⟩, hor⟩, hmi⟩ := hok
             have hab : typeT a = typeT b ∧ ¬ typeT a = 2 := by
              unfold binT at hbt
              rw [if_neg hA, if_pos hC] at hbt
              split at hbt
              · assumption
              · exact absurd hbt ht
             have ht2 : combT 6 n s ([a, b].map typeT) = 2 := by
              show combT 6 n s [typeT a, typeT b] = 2
              rw [hbt]; unfold binT; rw [if_neg hA, if_pos hC, if_pos hab]
             rw [ht2]
             rw [if_neg (by intro h; exact hand h.2), if_neg (by intro h; exact hor h.2), if_neg (by intro h; exact hmi h.2), plainC_eq] at hs ⊢
             have ka := hk a (by simp)
             have h13 : typeT a = 1 ∨ typeT a = 3 := by omega
             rcases h13 with h | h
             · obtain ⟨o1, o2, o3⟩ := okL_spec hok1
               exact runs_plain hr hne (ts := [1, 1]) (by simp [h, ← hab.1]) (by simp) o1 hs hbnd o2 o3 h2
             · obtain ⟨o1, o2, o3⟩ := okL_spec hok3
               exact runs_plain hr hne (ts := [3, 3]) (by simp [h, ← hab.1]) (by simp) o1 hs hbnd o2 o3 h2
           · have hL : s ∈ opsL := by
              by_cases hL : s ∈ opsL
              · exact hL
              · exfalso; apply ht; show combT 6 n s [typeT a, typeT b] = 0; rw [hbt]; unfold binT; rw [if_neg hA, if_neg hC, if_neg hL]
             have hab : typeT a = typeT b ∧ typeT a = 2 := by
              unfold binT at hbt
              rw [if_neg hA, if_neg hC, if_pos hL] at hbt
              split at hbt
              · assumption
              · exact absurd hbt ht
             have ht2 : combT 6 n s ([a, b].map typeT) = 2 := by
              show combT 6 n s [typeT a, typeT b] = 2
              rw [hbt]; unfold binT; rw [if_neg hA, if_neg hC, if_pos hL, if_pos hab]
             rw [ht2]
             have hconst : ∀ (z : Int) (q : Nat), (z = 0 ∨ z = 1) → Seg C q [⟨2, z⟩] → Runs C q [⟨2, z⟩] sh (sh ++ [2]) := fun z q hz hsq => by
              have hnx : nextM ⟨2, z⟩ [] = some [2] := by simp [nextM, effF, hz]
              have := next_frame (s := sh) hnx (by simp only [List.length_cons, List.length_nil]; omega)
              rw [List.append_nil] at this
              exact runs_one hsq (by simp) (by simp) (by simp) this
             simp only [opsL, List.mem_cons, List.not_mem_nil, or_false] at hL
             rcases hL with hL | hL
             · rw [if_pos ⟨rfl, hL⟩] at hs ⊢
               simp only [List.map_cons, List.map_nil, List.getD_cons_zero, List.getD_cons_succ] at hs ⊢
               unfold chC at hs ⊢
               refine runs_ch _ _ hs rfl rfl ?_ ?_ ?_ (hne a (by simp) _) (hne b (by simp) _) (by simp) (by omega) (by simp only [List.length_append, List.length_cons, List.length_nil]; omega)
               · have h1 := hr a (by simp) p sh hs.left.left.left.left (by omega)
                 rw [hab.2] at h1
                 exact h1
               · have h2 := hs.left.left.right
                 simp only [List.length_append, List.length_cons, List.length_nil] at h2
                 have h1 := hr b (by simp) _ sh h2 (by omega)
                 rw [← hab.1, hab.2] at h1
                 exact h1
               · have h2 := hs.right
                 simp only [List.length_append, List.length_cons, List.length_nil] at h2
                 have e : p + ((codeN a p).length + (0 + 1) + (codeN b (p + (codeN a p).length + 1)).length + (0 + 1)) = p + (codeN a p).length + 1 + (codeN b (p + (codeN a p).length + 1)).length + 1 := by omega
                 rw [e] at h2
                 exact hconst 0 _ (.inl rfl) h2
             · have hna : ¬ ((6 : Int) = 6 ∧ s = [97, 110, 100]) := by rintro ⟨_, h⟩; rw [hL] at h; exact absurd h (by decide)
               rw [if_neg hna, if_pos ⟨rfl, hL⟩] at hs ⊢
               simp only [List.map_cons, List.map_nil, List.getD_cons_zero, List.getD_cons_succ] at hs ⊢
               unfold chC at hs ⊢
               refine runs_ch _ _ hs rfl rfl ?_ ?_ ?_ (hne a (by simp) _) (by simp) (hne b (by simp) _) (by omega) (by simp only [List.length_append, List.length_cons, List.length_nil]; omega)
               · have h1 := hr a (by simp) p sh hs.left.left.left.left (by omega)
                 rw [hab.2] at h1
                 exact h1
               · have h2 := hs.left.left.right
                 simp only [List.length_append, List.length_cons, List.length_nil] at h2
                 exact hconst 1 _ (.inr rfl) h2
               · have h2 := hs.right
                 simp only [List.length_append, List.length_cons, List.length_nil] at h2
                 have e : p + ((codeN a p).length + (0 + 1) + (0 + 1) + (0 + 1)) = p + (codeN a p).length + 1 + (0 + 1) + 1 := by omega
                 rw [e] at h2
                 have h1 := hr b (by simp) _ sh h2 (by omega)
                 rw [← hab.1, hab.2] at h1
                 exact h1
   ·
     obtain ⟨e, he, hxe, hev⟩ := sig_cases (by rw [← hsg]; exact ht)
     have hok := List.all_eq_true.1 sigs_ok e he
     unfold sigOk at hok
     rw [hev] at hok
     simp only [Bool.and_eq_true, decide_eq_true_eq] at hok
     obtain ⟨⟨⟨k9, k6⟩, hc0⟩, hokl⟩ := hok
     rw [← hxe] at k9 k6 hc0 hokl
     simp only at k9 k6 hc0 hokl
     obtain ⟨o1, o2, o3⟩ := okL_spec hokl
     rw [if_neg k9, if_neg (by intro h; exact k6 h.1), if_neg (by intro h; exact k6 h.1), if_neg (by intro h; exact k6 h.1), plainC_eq] at hs ⊢
     rw [hsg]
     have hts : l.map typeT = (if (l.map typeT).getD 1 0 = 0 then [(l.map typeT).getD 0 0] else [(l.map typeT).getD 0 0, (l.map typeT).getD 1 0]) := by
      rcases ts_of h0 h3 hn0 hc0 with ⟨h1, h2⟩ | ⟨h1, h2⟩
      · rw [if_pos h1]; exact h2
      · rw [if_neg h1]; exact h2
     have hl2 : l.length ≤ 2 := by
      have := congrArg List.length hts
      rw [List.length_map] at this
      split at this <;> simp only [List.length_cons, List.length_nil] at this <;> omega
     have h2 : sh.length + 2 ≤ 16 := by
      cases l with
      | nil => exact absurd rfl hl
      | cons y r =>
        have := hnest y (by simp)
        have : 1 ≤ nestN y := by rw [nestN_eq]; omega
        omega
     exact runs_plain hr hne hts hl o1 hs (fun y hy => by have := hnest y hy; omega) o2 o3 h2
theorem verM_expr (y : Nd) (ht : typeT y ≠ 0) (hn : nestN y ≤ 12) (hl : (exprF y).length ≤ 200) : verM (exprF y) = (typeT y, 0) := by
 have hne := codeN_ne y ht 0
 have hpos := List.length_pos_iff.2 hne
 unfold exprF at hl ⊢
 have hlen : (codeN y 0 ++ [(⟨24, 0⟩ : Ins)]).length = (codeN y 0).length + 1 := by simp
 have hr := code_runs (codeN y 0 ++ [⟨24, 0⟩]) y ht 0 [] ⟨[], [⟨24, 0⟩], by simp, rfl⟩ (by simp only [List.length_nil]; omega)
 obtain ⟨st, r1, r2, r3, _⟩ := hr ((some []) :: List.replicate ((codeN y 0 ++ [(⟨24, 0⟩ : Ins)]).length - 1) none) (by simp) (by rw [hlen]; omega) (by simp) (fun i hi hi2 => by
  cases i with
  | zero => omega
  | succ i =>
    rw [List.getElem?_cons_succ, List.getElem?_replicate, if_pos (by rw [hlen]; omega)]) (.inl (by
  rw [Nat.zero_add]
  obtain ⟨m, hm⟩ : ∃ m, (codeN y 0).length = m + 1 := ⟨(codeN y 0).length - 1, by omega⟩
  rw [hm, List.getElem?_cons_succ, List.getElem?_replicate, if_pos (by rw [hlen]; omega)]))
 rw [Nat.zero_add] at r3
 rw [List.nil_append] at r3
 unfold verM
 rw [if_neg (by rw [hlen] at hl ⊢; omega)]
 have hrun : runM (codeN y 0 ++ [⟨24, 0⟩]) (codeN y 0 ++ [(⟨24, 0⟩ : Ins)]).length ((some []) :: List.replicate ((codeN y 0 ++ [(⟨24, 0⟩ : Ins)]).length - 1) none) = some st := by
  rw [runM_runP]
  conv => lhs; arg 3; rw [hlen]
  rw [runP_add, r1, Option.bind_some, Nat.zero_add, runP_one]
  have hg : (codeN y 0 ++ [(⟨24, 0⟩ : Ins)]).getD (codeN y 0).length ⟨0, 0⟩ = ⟨24, 0⟩ := by simp
  rw [hg]
  unfold stepM
  rw [List.getD_eq_getElem?_getD, r3]
  have hnx : nextM ⟨24, 0⟩ [typeT y] = some [typeT y] := by simp [nextM, effF]
  simp only [Option.getD_some, hnx]
  rw [if_pos trivial, if_pos (by constructor <;> simp [r2])]
 rw [hrun]
 have e : (codeN y 0 ++ [(⟨24, 0⟩ : Ins)]).length - 1 = (codeN y 0).length := by rw [hlen]; omega
 simp only [e]
 rw [List.getD_eq_getElem?_getD, r3]
 rfl
def insB (m : Nat) (z : Ins) : Prop := 0 ≤ z.op ∧ z.op ≤ 24 ∧ 0 ≤ z.n ∧ z.n ≤ 2147483647 + (m : Int)
theorem insB.le {m k : Nat} {z : Ins} (h : insB m z) (hk : m ≤ k) : insB k z := ⟨h.1, h.2.1, h.2.2.1, by have := h.2.2.2; omega⟩
theorem seqC_B : ∀ (l : List Nd) (p m : Nat), (∀ y ∈ l, ∀ p, ∀ z ∈ codeN y p, insB (p + (codeN y p).length) z) → p + (seqC (l.map codeN) p).length ≤ m → ∀ z ∈ seqC (l.map codeN) p, insB m z
 | [], p, m, _, _, z, hz => by simp [seqC] at hz
 | y :: l, p, m, h, hm, z, hz => by
   simp only [List.map_cons, seqC, List.mem_append, List.length_append] at hz hm
   rcases hz with hz | hz
   · exact (h y (by simp) p z hz).le (by omega)
   · exact seqC_B l _ m (fun y hy => h y (by simp [hy])) (by omega) z hz
theorem opF_B (s : Str) : ∀ o ∈ opF s, 0 ≤ o ∧ o ≤ 24 := by
 intro o ho
 unfold opF at ho
 cases h : opEs.find? (fun p => decide (p.1 = s)) with
 | none => rw [h] at ho; cases ho
 | some p =>
   rw [h] at ho
   have hall : ∀ q ∈ opEs, ∀ o ∈ q.2, 0 ≤ o ∧ o ≤ 24 := by decide +kernel
   exact hall p (List.mem_of_find?_eq_some h) o ho
theorem extraL_B (k : Int) (s : Str) (m : Nat) : ∀ z ∈ extraL k s, insB m z := by
 intro z hz
 unfold extraL insO at hz
 simp only [List.mem_append, List.mem_map] at hz
 rcases hz with hz | ⟨o, ho, rfl⟩
 · split at hz
   · simp only [List.mem_cons, List.not_mem_nil, or_false] at hz
     subst hz
     exact ⟨by decide, by decide, by decide, by simp only; omega⟩
   · cases hz
 · obtain ⟨h1, h2⟩ := opF_B s o ho
   exact ⟨h1, h2, by simp, by simp only; omega⟩
theorem chC_B (c y n : Cf) (p m : Nat) (hc : ∀ p, ∀ z ∈ c p, insB (p + (c p).length) z) (hy : ∀ p, ∀ z ∈ y p, insB (p + (y p).length) z) (hn : ∀ p, ∀ z ∈ n p, insB (p + (n p).length) z) (hm : p + (chC c y n p).length ≤ m) : ∀ z ∈ chC c y n p, insB m z := by
 intro z hz
 unfold chC at hz hm
 simp only [List.mem_append, List.mem_cons, List.not_mem_nil, or_false, List.length_append, List.length_cons, List.length_nil] at hz hm
 rcases hz with (((hz | rfl) | hz) | rfl) | hz
 · exact (hc p z hz).le (by omega)
 · exact ⟨by simp, by simp, by simp only; omega, by simp only; omega⟩
 · exact (hy _ z hz).le (by omega)
 · exact ⟨by simp, by simp, by simp only; omega, by simp only; omega⟩
 · exact (hn _ z hz).le (by omega)
theorem leafI_B (k n : Int) (s : Str) (m : Nat) (h : leafN k n s ≠ 0) : insB m (leafI k n s) := by
 unfold leafN at h
 unfold leafI
 by_cases k4 : k = 4
 · subst k4
   rw [if_pos rfl] at h
   have hf : (fieldF s).2.2 = true := by
    cases hb : (fieldF s).2.2 with
    | true => rfl
    | false => rw [fieldF_no hb] at h; simp at h
   obtain ⟨i, hi, _, he⟩ := (field_spec s (fieldF s).1).1 ⟨hf, rfl⟩
   rw [if_neg (by decide), if_neg (by decide), if_neg (by decide)]
   exact ⟨by simp, by simp, by simp only; omega, by simp only; omega⟩
 · rw [if_neg k4] at h
   split at h
   · exact absurd rfl h
   · by_cases k1 : k = 1
     · rw [if_pos k1] at h ⊢
       split at h
       · exact ⟨by simp, by simp, by simp only; omega, by simp only; omega⟩
       · exact absurd rfl h
     · rw [if_neg k1] at h ⊢
       by_cases k2 : k = 2
       · rw [if_pos k2] at h ⊢
         split at h
         · exact ⟨by simp, by simp, by simp only; omega, by simp only; omega⟩
         · exact absurd rfl h
       · rw [if_neg k2] at h ⊢
         by_cases k3 : k = 3
         · rw [if_pos k3] at h ⊢
           split at h
           · exact ⟨by simp, by simp, by simp only; omega, by simp only; omega⟩
           · exact absurd rfl h
         · rw [if_neg k3] at h; exact absurd rfl h
theorem code_B (x : Nd) : typeT x ≠ 0 → ∀ p, ∀ z ∈ codeN x p, insB (p + (codeN x p).length) z := by
 induction x using Nd.ind with
 | h k n s l ih =>
 intro ht p
 have hk : ∀ y ∈ l, typeT y ≠ 0 := fun y hy => typeT_kid (x := .mk k n s l) ht hy
 have ih' : ∀ y ∈ l, ∀ p, ∀ z ∈ codeN y p, insB (p + (codeN y p).length) z := fun y hy => ih y hy (hk y hy)
 have hteq : typeT (.mk k n s l) = combT k n s (l.map typeT) := typeT_eq _
 rw [hteq] at ht
 have hplain : ∀ m, p + (plainC k s (l.map codeN) p).length ≤ m → ∀ z ∈ plainC k s (l.map codeN) p, insB m z := fun m hm z hz => by
  rw [plainC_eq] at hz hm
  rw [List.length_append] at hm
  rcases List.mem_append.1 hz with hz | hz
  · exact seqC_B l p m ih' (by omega) z hz
  · exact extraL_B k s m z hz
 have hget : ∀ i, ∀ p, ∀ z ∈ (l.map codeN).getD i nilC p, insB (p + ((l.map codeN).getD i nilC p).length) z := fun i p z hz => by
  by_cases hi : i < l.length
  · have e : (l.map codeN).getD i nilC = codeN l[i] := by rw [List.getD_eq_getElem?_getD, List.getElem?_eq_getElem (by simpa using hi)]; simp
    rw [e] at hz ⊢
    exact ih' _ (List.getElem_mem hi) p z hz
  · have e : (l.map codeN).getD i nilC = nilC := by rw [List.getD_eq_getElem?_getD, List.getElem?_eq_none (by simpa using hi)]; rfl
    rw [e] at hz
    cases hz
 have hbool : ∀ b : Int, (b = 0 ∨ b = 1) → ∀ p : Nat, ∀ z ∈ [(⟨2, b⟩ : Ins)], insB (p + [(⟨2, b⟩ : Ins)].length) z := fun b hb p z hz => by
  simp only [List.mem_cons, List.not_mem_nil, or_false] at hz
  subst hz
  exact ⟨by simp, by simp, by simp only; omega, by simp only; omega⟩
 have hle : ∀ c : List Ins, p + c.length ≤ p + c.length := fun c => Nat.le_refl _
 rw [codeN]
 rcases combT_cases ht with ⟨he, hc⟩ | ⟨h0, h3, hn0, hc⟩
 · have hl : l = [] := by simpa using he
   subst hl
   unfold combC
   rw [if_pos (show (List.map codeN ([] : List Nd)).length = 0 from rfl)]
   intro z hz
   simp only [List.mem_cons, List.not_mem_nil, or_false] at hz
   subst hz
   exact leafI_B k n s _ (by rw [← hc]; exact ht)
 · have hl : l ≠ [] := fun h => hn0 (by rw [h]; rfl)
   have hlen0 : ¬ (l.map codeN).length = 0 := by simpa using hl
   unfold combC
   rw [if_neg hlen0]
   split
   · exact chC_B _ _ _ p _ (hget 0) (hget 1) (hget 2) (Nat.le_refl _)
   · split
     · exact chC_B _ _ _ p _ (hget 0) (hget 1) (hbool 0 (.inl rfl)) (Nat.le_refl _)
     · split
       · exact chC_B _ _ _ p _ (hget 0) (hbool 1 (.inr rfl)) (hget 1) (Nat.le_refl _)
       · split
         · intro z hz
           rcases List.mem_append.1 hz with hz | hz
           · exact hplain _ (by simp) z hz
           · simp only [List.mem_cons, List.not_mem_nil, or_false] at hz
             subst hz
             exact ⟨by simp, by simp, by simp only; omega, by simp only; omega⟩
         · exact hplain _ (Nat.le_refl _)
theorem exprF_I64 (x : Nd) (ht : typeT x ≠ 0) (hl : (exprF x).length ≤ 200) : ∀ z ∈ exprF x, I64 z.op ∧ I64 z.n := by
 intro z hz
 unfold exprF at hz hl
 rw [List.length_append] at hl
 rcases List.mem_append.1 hz with hz | hz
 · obtain ⟨h1, h2, h3, h4⟩ := code_B x ht 0 z hz
   unfold I64
   constructor <;> omega
 · simp only [List.mem_cons, List.not_mem_nil, or_false] at hz
   subst hz
   unfold I64
   simp
theorem named_len {s : Str} (h : namedT s = true) : s.length ≤ 12 := by
 unfold namedT nameOk at h
 simp only [Bool.and_eq_true, decide_eq_true_eq] at h
 have := h.1
 omega
theorem rule_fit (r : Rul) (h : ruleE r = 0) : CrFit (crF r) ∧ chkC (crF r) = 0 := by
 unfold crF
 rw [if_pos h]
 unfold ruleE at h
 split at h
 · contradiction
 · rename_i hck
   have hck' : checkT r = 0 := by omega
   unfold checkT at hck'
   split at hck'
   · simp at hck'
   · rename_i hnm
     split at hck'
     · simp at hck'
     · rename_i hfr
       split at hck'
       · contradiction
       · rename_i hm1
         have hm1' : mustF r.cnd 2 = 0 := by omega
         split at h
         · contradiction
         · rename_i he1
           have he1' : errX r.cnd = 0 := by omega
           have key : ∀ (x : Nd) (t : Int), t ≠ 0 → mustF x t = 0 → errX x = 0 → nestN x ≤ 12 ∧ typeT x = t ∧ (exprF x).length ≤ 200 := fun x t ht0 hm he => by
            unfold mustF at hm
            unfold errX at he
            split at hm
            · rename_i hn
              rw [if_pos hn] at he
              split at hm
              · simp at hm
              · rename_i h0
                rw [if_neg h0] at he
                split at hm
                · rename_i htt
                  split at he
                  · simp at he
                  · exact ⟨hn, htt, by omega⟩
                · simp at hm
            · simp at hm
           obtain ⟨n1, t1, l1⟩ := key r.cnd 2 (by decide) hm1' he1'
           obtain ⟨n2, t2, l2⟩ := key r.due 3 (by decide) hck' h
           have v1 := verM_expr r.cnd (by omega) n1 l1
           have v2 := verM_expr r.due (by omega) n2 l2
           have hnm' : namesT r = true := by simpa using hnm
           unfold namesT at hnm'
           simp only [Bool.and_eq_true, Bool.or_eq_true, decide_eq_true_eq] at hnm'
           obtain ⟨⟨⟨a1, a2⟩, a3⟩, a4⟩ := hnm'
           refine ⟨⟨show I64 r.frm by unfold I64; omega, exprF_I64 _ (by omega) l1, exprF_I64 _ (by omega) l2, l1, l2, named_len a1, named_len a2, ?_, ?_⟩, ?_⟩
           · rcases a3 with h | h
             · rw [show (⟨r.name, r.frm, r.on, exprF r.cnd, exprF r.due, r.unl, r.els⟩ : Cr).unl = r.unl from rfl, h]; simp
             · exact named_len h
           · rcases a4 with h | h
             · rw [show (⟨r.name, r.frm, r.on, exprF r.cnd, exprF r.due, r.unl, r.els⟩ : Cr).els = r.els from rfl, h]; simp
             · exact named_len h
           · unfold chkC badC
             simp only [v1, v2, t1, t2, a1, a2]
             rcases a3 with h3 | h3 <;> rcases a4 with h4 | h4 <;> simp [h3, h4] <;> omega
def Rd (X : List Nat) (w : World) (b : Nat) (s : Rs) : Prop := ∃ v, Blk w b 85 [v, .int .i64 s.e] ∧ SlV (b :: X) w v s.bs
theorem Rd.up {X : List Nat} {w w' : World} {b : Nat} {s : Rs} (h : Rd X w b s) (hS : Stp [] w w') : Rd X w' b s := by
 obtain ⟨v, h1, h2⟩ := h
 exact ⟨v, h1.up hS, h2.up hS⟩
def addOn (i acc : Nat) : Sum Int (Nat × Bs) → Sum Int (Nat × Bs)
 | .inl e => .inl e
 | .inr (v, r) => .inr (acc + 128 ^ i * v, r)
theorem rdU_nil {i : Nat} (h : i ≠ 10) : rdU i [] = .inl 6 := by rw [rdU, if_neg h]
theorem rdU_ten (bs : Bs) : rdU 10 bs = .inl 7 := by cases bs <;> rw [rdU, if_pos rfl]
theorem rdU_end {i : Nat} {c : UInt8} {r : Bs} (h : i ≠ 10) (hc : c.toNat < 128) : rdU i (c :: r) = if (i = 9 ∧ 1 < c.toNat) ∨ (0 < i ∧ c.toNat = 0) then .inl 7 else .inr (c.toNat, r) := by rw [rdU, if_neg h, if_pos hc]
theorem rdU_on {i acc : Nat} {c : UInt8} {r : Bs} (h : i ≠ 10) (hc : ¬ c.toNat < 128) : addOn i acc (rdU i (c :: r)) = addOn (i + 1) (acc + c.toNat % 128 * 128 ^ i) (rdU (i + 1) r) := by
 rw [rdU, if_neg h, if_neg hc]
 cases rdU (i + 1) r with
 | inl e => rfl
 | inr p =>
   obtain ⟨v, r'⟩ := p
   simp only [addOn, Sum.inr.injEq, Prod.mk.injEq, and_true]
   rw [Nat.pow_succ, Nat.mul_add, Nat.mul_comm (128 ^ i) (c.toNat % 128), ← Nat.mul_assoc (128 ^ i) 128 v]
   omega
theorem pow7 (i : Nat) : 128 ^ i = 2 ^ (7 * i) := by rw [Nat.pow_mul]
theorem or_shift {i acc d : Nat} (hi : i ≤ 9) (ha : acc < 128 ^ i) (hd : d < 128) : acc ||| (d * 128 ^ i) % 18446744073709551616 = acc + (d * 128 ^ i) % 18446744073709551616 := by
 rw [Nat.or_comm, Nat.add_comm acc]
 have e64 : (18446744073709551616 : Nat) = 2 ^ (7 * i) * 2 ^ (64 - 7 * i) := by rw [← Nat.pow_add, show 7 * i + (64 - 7 * i) = 64 by omega]
 rw [pow7] at ha ⊢
 refine nat_join (7 * i) _ _ ?_ ha
 rw [e64, Nat.mul_comm d, Nat.mul_mod_mul_left, Nat.mul_mod_right]
theorem Fail_any (b e1 : Nat) (v : Value) (e : Int) (w : World) (hb : Blk w b 85 [v, .int .i64 e]) :
 Calls Tryz.prog 43 #[.pointer (some ⟨b, 0, none⟩), .int .i64 (e1 : Int)] w (Ret fun r w' => r = .tuple #[] ∧ Blk w' b 85 [v, .int .i64 (if e = 0 then (e1 : Int) else e)] ∧ Stp [b] w w') := by
 refine calls_of_WC2 (n := 13) Tryz.func43 rfl rfl rfl ?_
 by_cases h : e = 0
 · repeat' (first | refine W1 ?_ | (exfalso; omega) | (refine VG ?_ ?_ <;> intro hg) | (refine VC ?_ ?_ <;> intro hc))
   refine WL_eff0 (OE_store1 (u := .int .i64 (e1 : Int)) rfl rfl rfl rfl hb (by simp)) ?_
   rintro _ w1 ⟨hT, hb1⟩
   refine W ?_
   refine WR ?_
   exact .mk ⟨rfl, by rw [if_pos h]; exact hb1, hT⟩
 · repeat' (first | refine W1 ?_ | (exfalso; omega) | (refine VG ?_ ?_ <;> intro hg) | (refine VC ?_ ?_ <;> intro hc))
   refine WR ?_
   exact .mk ⟨rfl, by rw [if_neg h]; exact hb, Stp.refl _ _⟩
set_option maxRecDepth 8000 in
theorem RUint_any (X : List Nat) (b : Nat) (s : Rs) (w : World) (hr : Rd X w b s) :
 Calls Tryz.prog 44 #[.pointer (some ⟨b, 0, none⟩)] w (Ret fun r w' => r = .int .u64 ((uintS s).2 : Int) ∧ Rd X w' b (uintS s).1 ∧ Stp [b] w w') := by
 obtain ⟨v, hb, hs⟩ := hr
 have hmax := hs.max
 refine calls_of_WC1 (n := 82) Tryz.func44 rfl rfl rfl ?_
 refine W ?_
 refine WC_scope ?_
 by_cases he : s.e = 0
 · repeat' (first | refine W1 ?_ | (exfalso; omega) | (refine VG ?_ ?_ <;> intro hg) | (refine VC ?_ ?_ <;> intro hc))
   refine WC_label ?_
   refine W ?_
   have huint : uintS s = (match rdU 0 s.bs with | .inl e => (⟨s.bs, e⟩, 0) | .inr (v, r) => (⟨r, 0⟩, v)) := by unfold uintS; rw [if_pos he]; try rfl
   rw [he] at hb
   have hfail : ∀ e1 : Nat, rdU 0 s.bs = .inl (e1 : Int) → ∀ w', Blk w' b 85 [v, .int .i64 (if (0 : Int) = 0 then (e1 : Int) else 0)] → Stp [b] w w' → (Ret fun r w' => r = .int .u64 ((uintS s).2 : Int) ∧ Rd X w' b (uintS s).1 ∧ Stp [b] w w') (.returned (.int .u64 0)) w' := fun e1 h1 w' h2 h3 => by
    rw [huint, h1]
    exact .mk ⟨rfl, ⟨v, by simpa using h2, hs.ext h3 (fun c hc => by simp at hc; simp [hc]) (fun c hc => .inl hc)⟩, h3⟩
   refine WC_loop (σ := Nat × Nat) (fun q => [(0, .pointer (some ⟨b, 0, none⟩)), (3, .int .u64 (q.2 : Int)), (4, .int .i64 (q.1 : Int))]) (fun q w' => w' = w ∧ q.1 ≤ 10 ∧ q.1 ≤ s.bs.length ∧ q.2 < 18446744073709551616 ∧ (q.1 ≤ 9 → q.2 < 128 ^ q.1) ∧ rdU 0 s.bs = addOn q.1 q.2 (rdU q.1 (s.bs.drop q.1))) (fun q => 10 - q.1) (0, 0) ⟨rfl, rfl, rfl, trivial⟩
    ⟨rfl, by omega, by omega, by omega, fun _ => by simp, by simp only [List.drop_zero]; cases rdU 0 s.bs with | inl e => rfl | inr p => simp [addOn]⟩ ?_
   rintro ⟨i, acc⟩ w2 ⟨rfl, hi, hil, hacc, hlt, heq⟩
   dsimp only at hi hil hacc hlt heq ⊢
   by_cases h10 : i = 10
   · have h1 : rdU 0 s.bs = .inl ((7 : Nat) : Int) := by rw [heq, h10, rdU_ten]; rfl
     repeat' (first | refine W1 ?_ | (exfalso; omega) | (refine VG ?_ ?_ <;> intro hg) | (refine VC ?_ ?_ <;> intro hc))
     refine CL rfl (evs2 rfl rfl) rfl (Fail_any b 7 v 0 _ hb) ?_
     rintro _ w3 ⟨rfl, hb3, hT⟩
     refine W ?_
     refine WQ_noGoto_ret ?_
     refine WR ?_
     exact hfail 7 h1 _ hb3 hT
   · by_cases hend : i = s.bs.length
     · have h1 : rdU 0 s.bs = .inl ((6 : Nat) : Int) := by rw [heq, hend, List.drop_length, rdU_nil (by omega)]; rfl
       repeat' (first | refine W1 ?_ | (exfalso; omega) | (refine VG ?_ ?_ <;> intro hg) | (refine VC ?_ ?_ <;> intro hc))
       refine CL rfl (evs2 rfl rfl) rfl (Fail_any b 6 v 0 _ hb) ?_
       rintro _ w3 ⟨rfl, hb3, hT⟩
       refine W ?_
       refine WQ_noGoto_ret ?_
       refine WR ?_
       exact hfail 6 h1 _ hb3 hT
     · have hget : i < s.bs.length := by omega
       have hdrop : s.bs.drop i = s.bs[i] :: s.bs.drop (i + 1) := List.drop_eq_getElem_cons hget
       have hc256 : s.bs[i].toNat < 256 := s.bs[i].toNat_lt
       have hacc9 := hlt (by omega)
       have hd := or_shift (d := s.bs[i].toNat % 128) (by omega : i ≤ 9) hacc9 (by omega)
       have hdm : s.bs[i].toNat % 128 * 128 ^ i % 18446744073709551616 < 18446744073709551616 := Nat.mod_lt _ (by omega)
       have hpow : 128 ^ i ≤ 9223372036854775808 := by
        have : 128 ^ i ≤ 128 ^ 9 := Nat.pow_le_pow_right (by decide) (by omega)
        omega
       have hor : acc ||| (s.bs[i].toNat % 128 * 128 ^ i) % 18446744073709551616 < 2 ^ 64 := Nat.or_lt_two_pow (by omega) (by omega)
       repeat' (first | refine W1 ?_ | (exfalso; omega) | (refine VG ?_ ?_ <;> intro hg) | (refine VC ?_ ?_ <;> intro hc))
       refine WL_pure (PR_and (r := ((s.bs[i].toNat % 128 : Nat) : Int)) rfl rfl (by rw [show (127 : Int) = ((127 : Nat) : Int) from rfl, u8_and_nat _ _ hc256 (by decide), nat_mask7])) rfl ?_
       refine WL_pure (PR_convTo (b := ((s.bs[i].toNat % 128 : Nat) : Int)) rfl (wrap_u64_of (by omega) (by omega))) rfl ?_
       refine W ?_
       refine WL_pure (PR_shl (yk := .i64) (s := 7 * i) (r := ((s.bs[i].toNat % 128 * 128 ^ i % 18446744073709551616 : Nat) : Int)) rfl (by show some (Value.int .i64 (7 * (i : Int))) = some _; simp) (by simp [IntKind.bits]; omega) (by rw [pow7, IntKind.wrap_u64]; simp)) rfl ?_
       refine WL_pure (PR_or (r := ((acc + s.bs[i].toNat % 128 * 128 ^ i % 18446744073709551616 : Nat) : Int)) rfl rfl (by rw [u64_or_nat _ _ hacc hdm, hd])) rfl ?_
       rw [hd] at hor
       by_cases hc : s.bs[i].toNat < 128
       · have hrd := rdU_end (r := s.bs.drop (i + 1)) h10 hc
         rw [hdrop, hrd] at heq
         by_cases hbad : (i = 9 ∧ 1 < s.bs[i].toNat) ∨ (0 < i ∧ s.bs[i].toNat = 0)
         · have h1 : rdU 0 s.bs = .inl ((7 : Nat) : Int) := by rw [heq, if_pos hbad]; rfl
           repeat' (first | refine W1 ?_ | (exfalso; omega) | (refine VG ?_ ?_ <;> intro hg) | (refine VC ?_ ?_ <;> intro hc))
           all_goals
            refine CL rfl (evs2 rfl rfl) rfl (Fail_any b 7 v 0 _ hb) ?_
            rintro _ w3 ⟨rfl, hb3, hT⟩
            refine W ?_
            refine WQ_noGoto_ret ?_
            refine WR ?_
            exact hfail 7 h1 _ hb3 hT
         · rw [if_neg hbad] at heq
           have hval : acc + s.bs[i].toNat % 128 * 128 ^ i % 18446744073709551616 = acc + 128 ^ i * s.bs[i].toNat := by
            have hsm : s.bs[i].toNat * 128 ^ i < 18446744073709551616 := by
             by_cases h9 : i = 9
             · subst h9
               have : s.bs[9].toNat ≤ 1 := by omega
               have := Nat.mul_le_mul_right (128 ^ 9) this
               omega
             · have h8 : 128 ^ i ≤ 128 ^ 8 := Nat.pow_le_pow_right (by decide) (by omega)
               have : s.bs[i].toNat * 128 ^ i ≤ 127 * 128 ^ 8 := Nat.mul_le_mul (by omega) h8
               omega
            rw [Nat.mod_eq_of_lt hc, Nat.mod_eq_of_lt hsm, Nat.mul_comm]
           rw [hval]
           simp only [addOn] at heq
           rw [heq] at huint
           dsimp only at huint
           have hsl := hs.slc (l := i + 1) (r := s.bs.length) (by omega) (Nat.le_refl _)
           rw [List.take_length] at hsl
           replace hsl : SlV (b :: X) w2 (slc v (i + 1) s.bs.length 1) (s.bs.drop (i + 1)) := hsl
           repeat' (first | refine W1 ?_ | (exfalso; omega) | (refine VG ?_ ?_ <;> intro hg) | (refine VC ?_ ?_ <;> intro hc))
           all_goals
            refine WL_slice_l (l := i + 1) rfl hs rfl (by simp) (by omega) rfl ?_
            refine W ?_
            refine WL_eff0 (OE_store1 (u := slc v (i + 1) s.bs.length 1) rfl rfl hsl.cells hsl.one hb (by simp)) ?_
            rintro _ w3 ⟨hT, hb3⟩
            refine W ?_
            refine WQ_noGoto_ret ?_
            refine WR ?_
            rw [huint]
            exact .mk ⟨rfl, ⟨_, hb3, hsl.ext hT (fun c hc => by simp at hc; simp [hc]) (fun c hc => .inl hc)⟩, hT⟩
       · rw [hdrop, rdU_on h10 hc] at heq
         have hnext : rdU 0 s.bs = addOn (i + 1) (acc + s.bs[i].toNat % 128 * 128 ^ i % 18446744073709551616) (rdU (i + 1) (s.bs.drop (i + 1))) := by
          by_cases h9 : i = 9
          · have e10 : ∀ l, rdU (i + 1) l = .inl 7 := fun l => by rw [show i + 1 = 10 by omega]; exact rdU_ten l
            rw [heq, e10]; rfl
          · have h8 : 128 ^ i ≤ 128 ^ 8 := Nat.pow_le_pow_right (by decide) (by omega)
            have : s.bs[i].toNat % 128 * 128 ^ i ≤ 127 * 128 ^ 8 := Nat.mul_le_mul (by omega) h8
            rw [Nat.mod_eq_of_lt (by omega), heq]
         have hlt2 : i + 1 ≤ 9 → acc + s.bs[i].toNat % 128 * 128 ^ i % 18446744073709551616 < 128 ^ (i + 1) := fun h => by
          have h1 : s.bs[i].toNat % 128 * 128 ^ i ≤ 127 * 128 ^ i := Nat.mul_le_mul_right _ (by omega)
          have h2 : s.bs[i].toNat % 128 * 128 ^ i % 18446744073709551616 ≤ s.bs[i].toNat % 128 * 128 ^ i := Nat.mod_le _ _
          rw [Nat.pow_succ]
          omega
         generalize hG : acc + s.bs[i].toNat % 128 * 128 ^ i % 18446744073709551616 = acc' at *
         repeat' (first | refine W1 ?_ | (exfalso; omega) | (refine VG ?_ ?_ <;> intro hg) | (refine VC ?_ ?_ <;> intro hc))
         all_goals exact WQ_loop (i + 1, acc') ⟨rfl, rfl, rfl, trivial⟩ ⟨rfl, by dsimp only; omega, by dsimp only; omega, by dsimp only; omega, hlt2, hnext⟩ (by dsimp only; omega)
 · repeat' (first | refine W1 ?_ | (exfalso; omega) | (refine VG ?_ ?_ <;> intro hg) | (refine VC ?_ ?_ <;> intro hc))
   refine WQ_noGoto_ret ?_
   refine WR ?_
   rw [uintS_bad he]
   exact .mk ⟨rfl, ⟨v, hb, hs⟩, Stp.refl _ _⟩
theorem xor_m1 {a : Int} (h0 : 0 ≤ a) (h1 : a < 9223372036854775808) : Go.bits .xor .i64 a (-1) = -a - 1 := by
 obtain ⟨n, rfl⟩ := Int.eq_ofNat_of_zero_le h0
 have e1 : (BitVec.ofInt 64 (n : Int)).toNat = n := by
  rw [BitVec.ofInt_natCast, BitVec.toNat_ofNat]; exact Nat.mod_eq_of_lt (by omega)
 have e2 : BitVec.ofInt 64 (-1 : Int) = BitVec.allOnes 64 := by decide
 show IntKind.i64.wrap ((BitVec.ofInt 64 (n : Int) ^^^ BitVec.ofInt 64 (-1 : Int)).toNat : Int) = _
 rw [e2, BitVec.xor_allOnes, BitVec.toNat_not, e1]
 simp [IntKind.wrap, IntKind.bits, IntKind.signed]
 omega
theorem xor_0 {a : Int} (h0 : 0 ≤ a) (h1 : a < 9223372036854775808) : Go.bits .xor .i64 a 0 = a := by
 obtain ⟨n, rfl⟩ := Int.eq_ofNat_of_zero_le h0
 have e1 : (BitVec.ofInt 64 (n : Int)).toNat = n := by
  rw [BitVec.ofInt_natCast, BitVec.toNat_ofNat]; exact Nat.mod_eq_of_lt (by omega)
 have e2 : BitVec.ofInt 64 (0 : Int) = 0#64 := by decide
 show IntKind.i64.wrap ((BitVec.ofInt 64 (n : Int) ^^^ BitVec.ofInt 64 (0 : Int)).toNat : Int) = _
 rw [e2, BitVec.xor_zero, e1]
 simp [IntKind.wrap, IntKind.bits, IntKind.signed]
 omega
theorem u64_and1 (u : Nat) (h : u < 18446744073709551616) : Go.bits .and .u64 (u : Int) 1 = ((u % 2 : Nat) : Int) := by
 have e1 : (BitVec.ofInt 64 (u : Int)).toNat = u := by
  rw [BitVec.ofInt_natCast, BitVec.toNat_ofNat]; exact Nat.mod_eq_of_lt (by omega)
 have e2 : (BitVec.ofInt 64 (1 : Int)).toNat = 1 := by decide
 show IntKind.u64.wrap ((BitVec.ofInt 64 (u : Int) &&& BitVec.ofInt 64 (1 : Int)).toNat : Int) = _
 rw [BitVec.toNat_and, e1, e2, Nat.and_one_is_mod, IntKind.wrap_u64]
 omega
theorem uintS_lt (s : Rs) : (uintS s).2 < 18446744073709551616 := by
 unfold uintS
 split
 · cases h : rdU 0 s.bs with
   | inl e => simp
   | inr p =>
     obtain ⟨v, r⟩ := p
     have := (rdU_dec _ _ _ _ (by omega) h).2.1
     simpa using this
 · simp
theorem RInt_any (X : List Nat) (b : Nat) (s : Rs) (w : World) (hr : Rd X w b s) :
 Calls Tryz.prog 14 #[.pointer (some ⟨b, 0, none⟩)] w (Ret fun r w' => r = .int .i64 (intS s).2 ∧ Rd X w' b (intS s).1 ∧ Stp [b] w w') := by
 refine calls_of_WC1 (n := 14) Tryz.func14 rfl rfl rfl ?_
 refine W ?_
 refine CL rfl (evs1 rfl) rfl (RUint_any X b s w hr) ?_
 rintro _ w1 ⟨rfl, hr1, hT⟩
 have hlt := uintS_lt s
 have hi : (intS s).1 = (uintS s).1 := rfl
 have hi2 : (intS s).2 = zagI (uintS s).2 := rfl
 rw [hi, hi2]
 clear hi hi2
 generalize (uintS s).2 = u at *
 refine W ?_
 refine WL_pure (PR_shr (yk := .u64) (s := 1) (r := ((u / 2 : Nat) : Int)) rfl rfl (by decide) (by simp)) rfl ?_
 refine WL_pure (PR_convTo (b := ((u / 2 : Nat) : Int)) rfl (wrap_i64_of (by unfold I64; omega))) rfl ?_
 refine W ?_
 refine WL_pure (PR_and (r := ((u % 2 : Nat) : Int)) rfl rfl (u64_and1 u hlt)) rfl ?_
 refine WL_pure (PR_convTo (b := ((u % 2 : Nat) : Int)) rfl (wrap_i64_of (by unfold I64; omega))) rfl ?_
 refine W ?_
 refine WL_pure (PR_xor (r := zagI u) rfl rfl ?_) rfl ?_
 · unfold zagI
   by_cases h : u % 2 = 1
   · rw [if_pos h, h]
     exact xor_m1 (by omega) (by omega)
   · rw [if_neg h, show u % 2 = 0 by omega]
     exact xor_0 (by omega) (by omega)
 refine W ?_
 refine WR ?_
 exact .mk ⟨rfl, hr1, hT⟩
theorem _root_.Go.Eng.Row.anyX' {β : Type} [Flat β] {X X' : List Nat} {w : World} {base T : Nat} {v : Value} {xs : List β} (h : Row X w base T v xs) : Row X' w base T v xs := by
 obtain ⟨css, hl, hr, ho⟩ := h
 exact ⟨css, hl, fun i h1 h2 => hr i h1 h2, ho⟩
theorem Rlen_any (X : List Nat) (b most : Nat) (s : Rs) (w : World) (hm : most ≤ 1000000) (hr : Rd X w b s) :
 Calls Tryz.prog 42 #[.pointer (some ⟨b, 0, none⟩), .int .i64 (most : Int)] w (Ret fun r w' => r = .int .i64 ((lengthS most s).2 : Int) ∧ Rd X w' b (lengthS most s).1 ∧ Stp [b] w w') := by
 refine calls_of_WC2 (n := 36) Tryz.func42 rfl rfl rfl ?_
 refine W ?_
 refine CL rfl (evs1 rfl) rfl (RUint_any X b s w hr) ?_
 rintro _ w1 ⟨rfl, hr1, hT⟩
 have hlt := uintS_lt s
 have hdef : lengthS most s = (if (uintS s).1.e = 0 then (if most < (uintS s).2 then (⟨(uintS s).1.bs, 2⟩, 0) else ((uintS s).1, (uintS s).2)) else ((uintS s).1, 0)) := rfl
 rw [hdef]
 clear hdef hr
 generalize (uintS s).2 = u at *
 generalize (uintS s).1 = s1 at *
 obtain ⟨v, hblk, hs⟩ := id hr1
 by_cases he : s1.e = 0
 · rw [if_pos he]
   by_cases hmu : most < u
   · rw [if_pos hmu]
     repeat' (first | refine W1 ?_ | (exfalso; omega) | (refine VG ?_ ?_ <;> intro hg) | (refine VC ?_ ?_ <;> intro hc))
     refine WL_pure (PR_convTo (b := ((most : Nat) : Int)) rfl (wrap_u64_of (by omega) (by omega))) rfl ?_
     repeat' (first | refine W1 ?_ | (exfalso; omega) | (refine VG ?_ ?_ <;> intro hg) | (refine VC ?_ ?_ <;> intro hc))
     refine CL rfl (evs2 rfl rfl) rfl (Fail_any b 2 v s1.e _ hblk) ?_
     rintro _ w2 ⟨rfl, hb2, hT2⟩
     rw [if_pos he] at hb2
     repeat' (first | refine W1 ?_ | (exfalso; omega) | (refine VG ?_ ?_ <;> intro hg) | (refine VC ?_ ?_ <;> intro hc))
     refine WR ?_
     exact .mk ⟨rfl, ⟨v, hb2, hs.ext hT2 (fun c hc => by simp at hc; simp [hc]) (fun c hc => .inl hc)⟩, hT.trans hT2⟩
   · rw [if_neg hmu]
     repeat' (first | refine W1 ?_ | (exfalso; omega) | (refine VG ?_ ?_ <;> intro hg) | (refine VC ?_ ?_ <;> intro hc))
     refine WL_pure (PR_convTo (b := ((most : Nat) : Int)) rfl (wrap_u64_of (by omega) (by omega))) rfl ?_
     repeat' (first | refine W1 ?_ | (exfalso; omega) | (refine VG ?_ ?_ <;> intro hg) | (refine VC ?_ ?_ <;> intro hc))
     refine WL_pure (PR_convTo (b := ((u : Nat) : Int)) rfl (wrap_i64_of (by unfold I64; omega))) rfl ?_
     refine W ?_
     refine WR ?_
     exact .mk ⟨rfl, hr1, hT⟩
 · rw [if_neg he]
   repeat' (first | refine W1 ?_ | (exfalso; omega) | (refine VG ?_ ?_ <;> intro hg) | (refine VC ?_ ?_ <;> intro hc))
   refine WR ?_
   exact .mk ⟨rfl, hr1, hT⟩
theorem RText_any (X : List Nat) (b most : Nat) (s : Rs) (w : World) (hm : most ≤ 1000000) (hr : Rd X w b s) :
 Calls Tryz.prog 13 #[.pointer (some ⟨b, 0, none⟩), .int .i64 (most : Int)] w (Ret fun r w' => r = str (textS most s).2 ∧ Rd X w' b (textS most s).1 ∧ Stp [b] w w') := by
 refine calls_of_WC2 (n := 56) Tryz.func13 rfl rfl rfl ?_
 refine W ?_
 refine CL rfl (evs2 rfl rfl) rfl (Rlen_any X b most s w hm hr) ?_
 rintro _ w1 ⟨rfl, hr1, hT⟩
 have hdef : textS most s = (if (lengthS most s).1.e = 0 then (if (lengthS most s).1.bs.length < (lengthS most s).2 then (⟨(lengthS most s).1.bs, 6⟩, [])
  else (⟨(lengthS most s).1.bs.drop (lengthS most s).2, 0⟩, (lengthS most s).1.bs.take (lengthS most s).2)) else ((lengthS most s).1, [])) := rfl
 rw [hdef]
 clear hdef hr
 generalize (lengthS most s).2 = u at *
 generalize (lengthS most s).1 = s1 at *
 obtain ⟨v, hblk, hs⟩ := id hr1
 have hmax := hs.max
 by_cases he : s1.e = 0
 · rw [if_pos he]
   by_cases hmu : s1.bs.length < u
   · rw [if_pos hmu]
     repeat' (first | refine W1 ?_ | (exfalso; omega) | (refine VG ?_ ?_ <;> intro hg) | (refine VC ?_ ?_ <;> intro hc))
     refine CL rfl (evs2 rfl rfl) rfl (Fail_any b 6 v s1.e _ hblk) ?_
     rintro _ w2 ⟨rfl, hb2, hT2⟩
     rw [if_pos he] at hb2
     repeat' (first | refine W1 ?_ | (exfalso; omega) | (refine VG ?_ ?_ <;> intro hg) | (refine VC ?_ ?_ <;> intro hc))
     refine WR ?_
     exact .mk ⟨rfl, ⟨v, hb2, hs.ext hT2 (fun c hc => by simp at hc; simp [hc]) (fun c hc => .inl hc)⟩, hT.trans hT2⟩
   · rw [if_neg hmu]
     have hs1 := hs.slc (l := 0) (r := u) (by omega) (by omega)
     rw [List.drop_zero] at hs1
     replace hs1 : SlV (b :: X) w1 (slc v 0 u 1) (s1.bs.take u) := hs1
     have hs2 := hs.slc (l := u) (r := s1.bs.length) (by omega) (Nat.le_refl _)
     rw [List.take_length] at hs2
     replace hs2 : SlV (b :: X) w1 (slc v u s1.bs.length 1) (s1.bs.drop u) := hs2
     repeat' (first | refine W1 ?_ | (exfalso; omega) | (refine VG ?_ ?_ <;> intro hg) | (refine VC ?_ ?_ <;> intro hc))
     refine WL_slice_h (r := u) rfl hs rfl rfl (by omega) rfl ?_
     refine WL_pure (PR_convB rfl hs1) rfl ?_
     refine W ?_
     refine WL_slice_l (l := u) rfl hs rfl rfl (by omega) rfl ?_
     refine W ?_
     refine WL_eff0 (OE_store1 (u := slc v u s1.bs.length 1) rfl rfl hs2.cells hs2.one hblk (by simp)) ?_
     rintro _ w3 ⟨hT3, hb3⟩
     refine W ?_
     refine WR ?_
     rw [he] at hb3
     exact .mk ⟨rfl, ⟨_, hb3, hs2.ext hT3 (fun c hc => by simp at hc; simp [hc]) (fun c hc => .inl hc)⟩, hT.trans hT3⟩
 · rw [if_neg he]
   repeat' (first | refine W1 ?_ | (exfalso; omega) | (refine VG ?_ ?_ <;> intro hg) | (refine VC ?_ ?_ <;> intro hc))
   refine WR ?_
   exact .mk ⟨rfl, hr1, hT⟩
theorem buildBf (p : Option Addr) (l c : Nat) (w : World) : (Instr.build 83 #[(0, .slice p l c)]).run Tryz.prog w = .ok (.agg #[.slice p l c, .int .i64 0]) w := by kernel_rfl
theorem buildRd (p : Option Addr) (l c : Nat) (w : World) : (Instr.build 85 #[(0, .agg #[.slice p l c, .int .i64 0])]).run Tryz.prog w = .ok (.agg #[.slice p l c, .int .i64 0]) w := by kernel_rfl
theorem NewReader_any (X : List Nat) (v : Value) (bs : Bs) (w : World) (hl : bs.length ≤ 140737488355328) (hs : SlV [] w v bs) (hX : ∀ c ∈ X, c < w.heap.size) :
 Calls Tryz.prog 11 #[v] w (Ret fun r w' => ∃ b, r = .pointer (some ⟨b, 0, none⟩) ∧ w.heap.size ≤ b ∧ Rd X w' b ⟨bs, 0⟩ ∧ Stp [] w w') := by
 refine calls_of_WC1 (n := 8) Tryz.func11 rfl rfl rfl ?_
 refine W ?_
 refine CL rfl (evs1 rfl) rfl (Clone_any v bs w hs hl) ?_
 rintro cv w1 ⟨hrow, hT⟩
 have hsv := hrow.slv0
 obtain ⟨p, c, rfl, -⟩ := id hsv
 refine WL_build (vs := [(0, .slice p bs.length c)]) rfl (buildBf _ _ _) rfl ?_
 refine WL_build (vs := [(0, .agg #[.slice p bs.length c, .int .i64 0])]) rfl (buildRd _ _ _) rfl ?_
 refine WL_eff (OE_box rfl) rfl ?_
 rintro _ w2 ⟨b, rfl, hb, e0, hS⟩
 replace e0 : Blk w2 b 85 [.slice p bs.length c, .int .i64 0] := e0
 refine W ?_
 refine WR ?_
 have hz := hT.size
 refine .mk ⟨b, rfl, by omega, ⟨_, e0, ?_⟩, hT.trans hS⟩
 have hx := hrow.anyX' (X' := X) |>.slvX (fun d hd hd' => by
  have h1 := (hrow.ob_le d hd').1
  have h2 := hX d hd
  omega)
 exact hx.ext (X' := b :: X) hS (by simp) (fun d hd => by
  rcases List.mem_cons.1 hd with rfl | hd
  · exact .inr hb
  · exact .inl hd)
open Go Go.Eng Go.RowKit Go.Proofs
theorem ruleE_two {r : Rul} (h : checkT r = 0) (h0 : ruleE r ≠ 0) : ruleE r = 2 := by
 have key : ∀ (x : Nd) (t : Int), mustF x t = 0 → errX x ≠ 0 → errX x = 2 := fun x t hm he => by
  unfold mustF at hm
  unfold errX at he ⊢
  split at hm
  · rename_i hn
    rw [if_pos hn] at he ⊢
    split at hm
    · simp at hm
    · rename_i h1
      rw [if_neg h1] at he ⊢
      split at he
      · rename_i h2; rw [if_pos h2]
      · exact absurd rfl he
  · simp at hm
 unfold ruleE at h0 ⊢
 rw [if_neg (by simpa using h)] at h0 ⊢
 unfold checkT at h
 split at h
 · simp at h
 · split at h
   · simp at h
   · split at h
     · contradiction
     · rename_i hm1
       have hm1' : mustF r.cnd 2 = 0 := by omega
       split at h0
       · rename_i he
         rw [if_pos he]
         exact key _ _ hm1' he
       · rename_i he
         rw [if_neg he]
         exact key _ _ h h0
theorem encC_pos (q : Cr) : 1 ≤ (encC q).length := by
 unfold encC textB
 simp only [List.length_append]
 have := uintB_pos q.name.length
 omega
theorem encC_len {q : Cr} (h : CrOk q) : (encC q).length ≤ 100000000 := by
 have l1 := textB_len h.lname
 have l2 := intB_len h.frm
 have l3 := textB_len h.lon
 have l4 := intsB_len h.cnd h.lcnd
 have l5 := intsB_len h.due h.ldue
 have l6 := textB_len h.lunl
 have l7 := textB_len h.lels
 unfold encC
 simp only [List.length_append]
 omega
theorem rdSome (a : Addr) (w : World) : (binOp .eql 40 (.pointer (some a)) (.pointer none)).run Tryz.prog w = .ok (.bool false) w := by kernel_rfl
set_option maxHeartbeats 4000000 in
theorem compileSourcesLaw (lv : Value) (l : List Int) (er : Value) (m : Int) (w : World) (hF : SlV [] w flds fieldNames) (hm : w.cell? ⟨1, 0, none⟩ = some (.int .i64 m)) (hLG : LenG w) (hTW : TabW w) (hv4 : w.cell? ⟨4, 0, none⟩ = some er) (hev : er = .nilIface ∨ ∃ te pe, er = .iface te pe)
 (hs : SlV [] w lv l) (hl : ∀ a ∈ l, I64 a) :
 Calls Tryz.prog 3 #[lv] w (Ret fun r w' => r = .bool true ∧ Stp [] w w') := by
 refine calls_of_WC1 (n := 131) Tryz.func3 rfl rfl rfl ?_
 refine W ?_
 refine CL rfl (evs1 rfl) rfl (Rules_any lv l _ hs hl) ?_
 rintro _ w1 ⟨rs, h4, hall, rfl, hS⟩
 have hln : (rs.flatMap (showRule dateS)).length ≤ 4000 := by have := GnRule.total hall; omega
 have hpp := parse_print dateS_ok (fun x hx => (hall x hx).ok) hln
 refine CL rfl (evs1 rfl) rfl (Parse_any [] _ er m _ (by simp) (hLG.up hS) (hS.cell (by simp) hm) (hS.cell (by simp) hv4) hev (by omega)) ?_
 rintro rv w2 ⟨hr, hT⟩
 rw [hpp] at hr
 obtain ⟨gv, rfl, hgv⟩ := hr
 replace hS := hS.trans hT
 clear hT
 repeat' (first | refine W1 ?_ | (exfalso; omega) | (refine VG ?_ ?_ <;> intro hg) | (refine VC ?_ ?_ <;> intro hc))
 refine CL rfl (evs1 rfl) rfl (Print_any [] gv rs _ (by simp) hgv (fun x hx => ⟨(hall x hx).ok.frm, (hall x hx).ok.cond, (hall x hx).ok.due⟩) (by omega) (hTW.up hS)) ?_
 rintro _ w3 ⟨rfl, hT⟩
 replace hgv := hgv.up hT
 replace hS := hS.trans hT
 clear hT
 refine CL rfl (evs1 rfl) rfl (Parse_any [] _ er m _ (by simp) (hLG.up hS) (hS.cell (by simp) hm) (hS.cell (by simp) hv4) hev (by omega)) ?_
 rintro rv w4 ⟨hr, hT⟩
 rw [hpp] at hr
 obtain ⟨gu, rfl, hgu⟩ := hr
 replace hgv := hgv.up hT
 replace hS := hS.trans hT
 clear hT hpp
 have hlr : (rs.map RuleM.rul).length = rs.length := List.length_map ..
 have hmg := hgv.max
 repeat' (first | refine W1 ?_ | (exfalso; omega) | (refine VG ?_ ?_ <;> intro hg) | (refine VC ?_ ?_ <;> intro hc))
 have hgv0 := hgv
 have hgu0 := hgu
 have hS0 := hS
 refine WC_loop (σ := Nat) (fun i => [(3, gv), (6, gu), (9, .int .i64 i)]) (fun i w' => i ≤ rs.length ∧ Stp [] w4 w') (fun i => rs.length - i) 0 ⟨rfl, rfl, rfl, trivial⟩ ⟨Nat.zero_le _, Stp.refl _ _⟩ ?_
 clear hgv hgu hS
 rintro i w5 ⟨hi, hT⟩
 have hgv := hgv0.up hT
 have hgu := hgu0.up hT
 have hS := hS0.trans hT
 by_cases hlt : i < rs.length
 · have hli : i < (rs.map RuleM.rul).length := by omega
   have hG := hall _ (List.getElem_mem hlt)
   have hri : (rs.map RuleM.rul)[i] = rs[i].rul := by simp
   obtain ⟨ka, kb, hka, hkb, hca⟩ := slvRul hgv hli
   obtain ⟨kc, ke, hkc, hke, hcb⟩ := slvRul hgu hli
   rw [hri] at hka hkb hkc hke
   have hz1 : sizeN rs[i].cond ≤ 1000 := Nat.le_trans hG.cond.size (by decide)
   have hz2 : sizeN rs[i].due ≤ 1000 := Nat.le_trans hG.due.size (by decide)
   have hck := hG.check
   repeat' (first | refine W1 ?_ | (exfalso; omega) | (refine VG ?_ ?_ <;> intro hg) | (refine VC ?_ ?_ <;> intro hc))
   refine WL_pure (PR_loadRul rfl rfl hgv hli hca) rfl ?_
   rw [hri]
   refine CL rfl (evs1 rfl) rfl (Rule_any _ rs[i].rul _ ⟨ka, kb, rfl, hka, hkb⟩ hz1 hz2 (hF.up hS) m (hS.cell (by simp) hm)) ?_
   rintro _ w6 ⟨cv, rfl, hcv, hT7⟩
   obtain ⟨k1, d1, rfl, hk1, hd1⟩ := hcv [] (by simp)
   replace hca : ∀ j u, (rlC (rs.map RuleM.rul)[i] ka kb)[j]? = some u → _ := fun j u hj => cell_on hgv hli (hT7.mono (by simp)) (hca j u hj)
   replace hcb : ∀ j u, (rlC (rs.map RuleM.rul)[i] kc ke)[j]? = some u → _ := fun j u hj => cell_on hgu hli (hT7.mono (by simp)) (hcb j u hj)
   replace hgv := hgv.up hT7; replace hgu := hgu.up hT7; replace hka := hka.up hT7; replace hkb := hkb.up hT7; replace hkc := hkc.up hT7; replace hke := hke.up hT7
   replace hS := hS.trans hT7
   replace hT := hT.trans hT7
   clear hT7
   clear hcv
   refine W ?_
   refine WL_eff OE_alloc rfl ?_
   rintro _ w7 ⟨b10, rfl, hb10, e0, hT7⟩
   refine WL_eff0 (OE_storeA (us := crC (crF rs[i].rul) k1 d1) rfl rfl rfl rfl (crC_one hk1 hd1) e0 rfl) ?_
   rintro _ w8 ⟨hT2, e10⟩
   replace hT7 := keep_node hT7 hb10 hT2
   clear hT2 e0 hb10
   replace hca : ∀ j u, (rlC (rs.map RuleM.rul)[i] ka kb)[j]? = some u → _ := fun j u hj => cell_on hgv hli (hT7.mono (by simp)) (hca j u hj)
   replace hcb : ∀ j u, (rlC (rs.map RuleM.rul)[i] kc ke)[j]? = some u → _ := fun j u hj => cell_on hgu hli (hT7.mono (by simp)) (hcb j u hj)
   replace hgv := hgv.up hT7; replace hgu := hgu.up hT7; replace hka := hka.up hT7; replace hkb := hkb.up hT7; replace hkc := hkc.up hT7; replace hke := hke.up hT7; replace hk1 := hk1.up hT7; replace hd1 := hd1.up hT7
   replace hS := hS.trans hT7
   replace hT := hT.trans hT7
   clear hT7
   refine W ?_
   refine WL_pure (PR_loadRul rfl rfl hgu hli hcb) rfl ?_
   rw [hri]
   refine CL rfl (evs1 rfl) rfl (Rule_any _ rs[i].rul _ ⟨kc, ke, rfl, hkc, hke⟩ hz1 hz2 (hF.up hS) m (hS.cell (by simp) hm)) ?_
   rintro _ w9 ⟨cv, rfl, hcv, hT7⟩
   obtain ⟨k2, d2, rfl, hk2, hd2⟩ := hcv [] (by simp)
   replace hca : ∀ j u, (rlC (rs.map RuleM.rul)[i] ka kb)[j]? = some u → _ := fun j u hj => cell_on hgv hli (hT7.mono (by simp)) (hca j u hj)
   replace hcb : ∀ j u, (rlC (rs.map RuleM.rul)[i] kc ke)[j]? = some u → _ := fun j u hj => cell_on hgu hli (hT7.mono (by simp)) (hcb j u hj)
   replace hgv := hgv.up hT7; replace hgu := hgu.up hT7; replace hka := hka.up hT7; replace hkb := hkb.up hT7; replace hkc := hkc.up hT7; replace hke := hke.up hT7; replace hk1 := hk1.up hT7; replace hd1 := hd1.up hT7; replace e10 := e10.up hT7
   replace hS := hS.trans hT7
   replace hT := hT.trans hT7
   clear hT7
   clear hcv
   refine W ?_
   refine WL_eff OE_alloc rfl ?_
   rintro _ w10 ⟨b12, rfl, hb12, e0, hT7⟩
   refine WL_eff0 (OE_storeA (us := crC (crF rs[i].rul) k2 d2) rfl rfl rfl rfl (crC_one hk2 hd2) e0 rfl) ?_
   rintro _ w11 ⟨hT2, e12⟩
   replace hT7 := keep_node hT7 hb12 hT2
   clear hT2 e0 hb12
   replace hca : ∀ j u, (rlC (rs.map RuleM.rul)[i] ka kb)[j]? = some u → _ := fun j u hj => cell_on hgv hli (hT7.mono (by simp)) (hca j u hj)
   replace hcb : ∀ j u, (rlC (rs.map RuleM.rul)[i] kc ke)[j]? = some u → _ := fun j u hj => cell_on hgu hli (hT7.mono (by simp)) (hcb j u hj)
   replace hgv := hgv.up hT7; replace hgu := hgu.up hT7; replace hka := hka.up hT7; replace hkb := hkb.up hT7; replace hkc := hkc.up hT7; replace hke := hke.up hT7; replace hk1 := hk1.up hT7; replace hd1 := hd1.up hT7; replace hk2 := hk2.up hT7; replace hd2 := hd2.up hT7; replace e10 := e10.up hT7
   replace hS := hS.trans hT7
   replace hT := hT.trans hT7
   clear hT7
   repeat' (first | refine W1 ?_ | (exfalso; omega) | (refine VG ?_ ?_ <;> intro hg) | (refine VC ?_ ?_ <;> intro hc))
   refine CL rfl (evs2 rfl rfl) rfl (SameR_any _ _ (crF rs[i].rul) _ ⟨_, _, rfl, hk1, hd1⟩ ⟨_, _, rfl, hk2, hd2⟩) ?_
   rintro _ w12 ⟨rfl, hT7⟩
   replace hca : ∀ j u, (rlC (rs.map RuleM.rul)[i] ka kb)[j]? = some u → _ := fun j u hj => cell_on hgv hli (hT7.mono (by simp)) (hca j u hj)
   replace hcb : ∀ j u, (rlC (rs.map RuleM.rul)[i] kc ke)[j]? = some u → _ := fun j u hj => cell_on hgu hli (hT7.mono (by simp)) (hcb j u hj)
   replace hgv := hgv.up hT7; replace hgu := hgu.up hT7; replace hka := hka.up hT7; replace hkb := hkb.up hT7; replace hkc := hkc.up hT7; replace hke := hke.up hT7; replace hk1 := hk1.up hT7; replace hd1 := hd1.up hT7; replace hk2 := hk2.up hT7; replace hd2 := hd2.up hT7; replace e10 := e10.up hT7; replace e12 := e12.up hT7
   replace hS := hS.trans hT7
   replace hT := hT.trans hT7
   clear hT7
   by_cases he : ruleE rs[i].rul = 0
   · obtain ⟨hfit, hchk⟩ := rule_fit rs[i].rul he
     have hok := hfit.ok
     have hlen := encC_len hok
     have hpos := encC_pos (crF rs[i].rul)
     have hst := dec_steps hfit []
     have hcr : crF rs[i].rul = ⟨rs[i].rul.name, rs[i].rul.frm, rs[i].rul.on, exprF rs[i].rul.cnd, exprF rs[i].rul.due, rs[i].rul.unl, rs[i].rul.els⟩ := by unfold crF; rw [if_pos he]
     repeat' (first | refine W1 ?_ | (exfalso; omega) | (refine VG ?_ ?_ <;> intro hg) | (refine VC ?_ ?_ <;> intro hc))
     refine CL rfl (evs1 rfl) rfl (Encode_any _ (crF rs[i].rul) _ hok ⟨_, _, rfl, hk1, hd1⟩) ?_
     rintro ev w13 ⟨hrow, hT7⟩
     have hx := hrow.slv (X := []) (by simp)
     clear hrow
     replace hca : ∀ j u, (rlC (rs.map RuleM.rul)[i] ka kb)[j]? = some u → _ := fun j u hj => cell_on hgv hli (hT7.mono (by simp)) (hca j u hj)
     replace hcb : ∀ j u, (rlC (rs.map RuleM.rul)[i] kc ke)[j]? = some u → _ := fun j u hj => cell_on hgu hli (hT7.mono (by simp)) (hcb j u hj)
     replace hgv := hgv.up hT7; replace hgu := hgu.up hT7; replace hka := hka.up hT7; replace hkb := hkb.up hT7; replace hkc := hkc.up hT7; replace hke := hke.up hT7; replace hk1 := hk1.up hT7; replace hd1 := hd1.up hT7; replace hk2 := hk2.up hT7; replace hd2 := hd2.up hT7; replace e10 := e10.up hT7; replace e12 := e12.up hT7
     replace hS := hS.trans hT7
     replace hT := hT.trans hT7
     clear hT7
     refine CL rfl (evs1 rfl) rfl (NewReader_any [] ev (encC (crF rs[i].rul)) _ (by omega) hx (by simp)) ?_
     rintro _ w14 ⟨bR, rfl, hbR, hrd, hT7⟩
     have hgv' : SlV [bR] w14 gv (rs.map RuleM.rul) := hgv.ext hT7 (by simp) (fun c hc => by simp at hc; subst hc; exact .inr hbR)
     have hb1 := hS.size
     have hb2 := hT.size
     have nR : b10 ≠ bR := by have := e10.lt; omega
     replace hca : ∀ j u, (rlC (rs.map RuleM.rul)[i] ka kb)[j]? = some u → _ := fun j u hj => cell_on hgv hli (hT7.mono (by simp)) (hca j u hj)
     replace hcb : ∀ j u, (rlC (rs.map RuleM.rul)[i] kc ke)[j]? = some u → _ := fun j u hj => cell_on hgu hli (hT7.mono (by simp)) (hcb j u hj)
     replace hgv := hgv.up hT7; replace hgu := hgu.up hT7; replace hka := hka.up hT7; replace hkb := hkb.up hT7; replace hkc := hkc.up hT7; replace hke := hke.up hT7; replace hk1 := hk1.up hT7; replace hd1 := hd1.up hT7; replace hk2 := hk2.up hT7; replace hd2 := hd2.up hT7; replace e10 := e10.up hT7; replace e12 := e12.up hT7
     replace hS := hS.trans hT7
     replace hT := hT.trans hT7
     clear hT7
     clear hgv0 hgu0 hk1 hd1 hk2 hd2 hka hkb hkc hke hcb hx
     repeat' (first | refine W1 ?_ | (exfalso; omega) | (refine VG ?_ ?_ <;> intro hg) | (refine VC ?_ ?_ <;> intro hc))
     refine WC_drawn 52 ([bR]) [] [(0, 0), (1, 0), (2, 0), (3, 0), (5, 0), (6, 0), (7, 0), (8, 0), (9, 1), (4, 2), (10, 0), (11, 0), (12, 0), (13, 0), (15, 0), (16, 0), (17, 0), (18, 0), (19, 1), (14, 2), (20, 0), (21, 0), (22, 0), (23, 0), (25, 0), (26, 0), (27, 0), (28, 0), (29, 1), (24, 2), (30, 0), (31, 0), (32, 0), (33, 0), (34, 1), (35, 0), (36, 0), (37, 0), (38, 0), (39, 1), (40, 0), (41, 0), (42, 0), (43, 0), (44, 1), (45, 0), (46, 0), (47, 0), (48, 0), (49, 1), (50, 0), (51, 0)] rfl mixed (by kernel_rfl) (by kernel_rfl) (by kernel_rfl) (fun w1 hS1 => ?_)
     replace hca : ∀ j u, (rlC (rs.map RuleM.rul)[i] ka kb)[j]? = some u → _ := fun j u hj => cell_on hgv hli (hS1.mono (by simp)) (hca j u hj)
     replace hgv' := hgv'.up hS1
     replace hrd := hrd.up hS1
     replace e10 := e10.up hS1
     replace hS := hS.trans hS1
     replace hT := hT.trans hS1
     clear hS1 hgv hgu e12
     rw [hri] at hca
     have hcw : ∀ (wa wb : World) (j : Nat) (u : Value), Stp [bR] wa wb → SlV [bR] wa gv (rs.map RuleM.rul) → wa.cell? (elAddr gv i 13 j) = some u → wb.cell? (elAddr gv i 13 j) = some u := fun wa wb j u h1 h2 h3 => cell_on h2 hli h1 h3
     have c0 := hca 0 _ rfl
     have c1 := hca 1 _ rfl
     have c2 := hca 2 _ rfl
     have c5 := hca 11 _ rfl
     have c6 := hca 12 _ rfl
     clear hca hri
     rw [List.append_nil] at hst
     obtain ⟨s1, s2, s3, -⟩ := hst
     have q1 : (crF rs[i].rul).name = rs[i].rul.name := by rw [hcr]
     have q2 : (crF rs[i].rul).frm = rs[i].rul.frm := by rw [hcr]
     have q3 : (crF rs[i].rul).on = rs[i].rul.on := by rw [hcr]
     have q5 : (crF rs[i].rul).unl = rs[i].rul.unl := by rw [hcr]
     have q6 : (crF rs[i].rul).els = rs[i].rul.els := by rw [hcr]
     refine D ?_
     refine WD_free rfl trivial (fun w' => PR_eqlS (c := False) rfl rfl (fun _ => by simp [eqGuard]) (fun w => by simpa using rdSome _ w)) rfl ?_
     simp only [decide_false]
     repeat' (first | refine D1 ?_ | (exfalso; omega) | refine WD_splitN rfl rfl rfl rfl (fun hg => ?_) (fun hg => ?_) | (refine WD_splitBN rfl rfl rfl rfl (fun hg => ?_) (fun hg => ?_) <;> refine D1 ?_) | fail)
     refine WD_read rfl rfl (fun w' hS' => PR_load1 rfl rfl (hcw _ _ 0 _ hS' hgv' c0)) rfl ?_
     repeat' (first | refine D1 ?_ | (exfalso; omega) | refine WD_splitN rfl rfl rfl rfl (fun hg => ?_) (fun hg => ?_) | (refine WD_splitBN rfl rfl rfl rfl (fun hg => ?_) (fun hg => ?_) <;> refine D1 ?_) | fail)
     have t1 : (textS 12 ⟨encC (crF rs[i].rul), 0⟩).2 = rs[i].rul.name := (congrArg Prod.snd s1).trans q1
     have t2 : (intS (textS 12 ⟨encC (crF rs[i].rul), 0⟩).1).2 = rs[i].rul.frm := (congrArg Prod.snd s2).trans q2
     have t3 : (textS 12 (intS (textS 12 ⟨encC (crF rs[i].rul), 0⟩).1).1).2 = rs[i].rul.on := (congrArg Prod.snd s3).trans q3
     refine WD_eff rfl rfl (OE_call rfl (evs2 rfl rfl) (RText_any [] bR 12 _ _ (by decide) hrd)) (fun _ _ h => h.2.2) rfl ?_
     clear hrd
     rintro _ wA ⟨rfl, hrd, hT7⟩
     replace c0 := hcw _ _ _ _ hT7 hgv' c0
     replace c1 := hcw _ _ _ _ hT7 hgv' c1
     replace c2 := hcw _ _ _ _ hT7 hgv' c2
     replace c5 := hcw _ _ _ _ hT7 hgv' c5
     replace c6 := hcw _ _ _ _ hT7 hgv' c6
     replace hgv' := hgv'.ext hT7 (fun _ h => h) (fun _ h => .inl h)
     replace e10 := e10.ext hT7 (by simp; exact nR)
     replace hS := hS.own hT7 (fun c hc => .inr (by simp at hc; subst hc; omega))
     replace hT := hT.own hT7 (fun c hc => .inr (by simp at hc; subst hc; omega))
     clear hT7
     simp only [t1]
     repeat' (first | refine D1 ?_ | (exfalso; omega) | refine WD_splitN rfl rfl rfl rfl (fun hg => ?_) (fun hg => ?_) | (refine WD_splitBN rfl rfl rfl rfl (fun hg => ?_) (fun hg => ?_) <;> refine D1 ?_) | fail)
     all_goals try (exact absurd rfl hg)
     refine WD_read rfl rfl (fun w' hS' => PR_load1 rfl rfl (hcw _ _ 1 _ hS' hgv' c1)) rfl ?_
     repeat' (first | refine D1 ?_ | (exfalso; omega) | refine WD_splitN rfl rfl rfl rfl (fun hg => ?_) (fun hg => ?_) | (refine WD_splitBN rfl rfl rfl rfl (fun hg => ?_) (fun hg => ?_) <;> refine D1 ?_) | fail)
     refine WD_eff rfl rfl (OE_call rfl (evs1 rfl) (RInt_any [] bR _ _ hrd)) (fun _ _ h => h.2.2) rfl ?_
     clear hrd
     rintro _ wB ⟨rfl, hrd, hT7⟩
     replace c0 := hcw _ _ _ _ hT7 hgv' c0
     replace c1 := hcw _ _ _ _ hT7 hgv' c1
     replace c2 := hcw _ _ _ _ hT7 hgv' c2
     replace c5 := hcw _ _ _ _ hT7 hgv' c5
     replace c6 := hcw _ _ _ _ hT7 hgv' c6
     replace hgv' := hgv'.ext hT7 (fun _ h => h) (fun _ h => .inl h)
     replace e10 := e10.ext hT7 (by simp; exact nR)
     replace hS := hS.own hT7 (fun c hc => .inr (by simp at hc; subst hc; omega))
     replace hT := hT.own hT7 (fun c hc => .inr (by simp at hc; subst hc; omega))
     clear hT7
     simp only [t2]
     repeat' (first | refine D1 ?_ | (exfalso; omega) | refine WD_splitN rfl rfl rfl rfl (fun hg => ?_) (fun hg => ?_) | (refine WD_splitBN rfl rfl rfl rfl (fun hg => ?_) (fun hg => ?_) <;> refine D1 ?_) | fail)
     all_goals try (exact absurd rfl hg)
     refine WD_read rfl rfl (fun w' hS' => PR_load1 rfl rfl (hcw _ _ 2 _ hS' hgv' c2)) rfl ?_
     repeat' (first | refine D1 ?_ | (exfalso; omega) | refine WD_splitN rfl rfl rfl rfl (fun hg => ?_) (fun hg => ?_) | (refine WD_splitBN rfl rfl rfl rfl (fun hg => ?_) (fun hg => ?_) <;> refine D1 ?_) | fail)
     refine WD_eff rfl rfl (OE_call rfl (evs2 rfl rfl) (RText_any [] bR 12 _ _ (by decide) hrd)) (fun _ _ h => h.2.2) rfl ?_
     clear hrd
     rintro _ wC ⟨rfl, hrd, hT7⟩
     replace c0 := hcw _ _ _ _ hT7 hgv' c0
     replace c1 := hcw _ _ _ _ hT7 hgv' c1
     replace c2 := hcw _ _ _ _ hT7 hgv' c2
     replace c5 := hcw _ _ _ _ hT7 hgv' c5
     replace c6 := hcw _ _ _ _ hT7 hgv' c6
     replace hgv' := hgv'.ext hT7 (fun _ h => h) (fun _ h => .inl h)
     replace e10 := e10.ext hT7 (by simp; exact nR)
     replace hS := hS.own hT7 (fun c hc => .inr (by simp at hc; subst hc; omega))
     replace hT := hT.own hT7 (fun c hc => .inr (by simp at hc; subst hc; omega))
     clear hT7
     simp only [t3]
     rw [hcr] at e10
     repeat' (first | refine D1 ?_ | (exfalso; omega) | refine WD_splitN rfl rfl rfl rfl (fun hg => ?_) (fun hg => ?_) | (refine WD_splitBN rfl rfl rfl rfl (fun hg => ?_) (fun hg => ?_) <;> refine D1 ?_) | fail)
     all_goals try (exact absurd rfl hg)
     refine WD_read rfl rfl (fun w' hS' => PR_load1 rfl rfl (hcw _ _ 11 _ hS' hgv' c5)) rfl ?_
     repeat' (first | refine D1 ?_ | (exfalso; omega) | refine WD_splitN rfl rfl rfl rfl (fun hg => ?_) (fun hg => ?_) | (refine WD_splitBN rfl rfl rfl rfl (fun hg => ?_) (fun hg => ?_) <;> refine D1 ?_) | fail)
     all_goals try (exact absurd rfl hg)
     refine WD_read rfl rfl (fun w' hS' => PR_load1 rfl rfl (hcw _ _ 12 _ hS' hgv' c6)) rfl ?_
     repeat' (first | refine D1 ?_ | (exfalso; omega) | refine WD_splitN rfl rfl rfl rfl (fun hg => ?_) (fun hg => ?_) | (refine WD_splitBN rfl rfl rfl rfl (fun hg => ?_) (fun hg => ?_) <;> refine D1 ?_) | fail)
     all_goals try (exact absurd rfl hg)
     repeat' (first | refine W1 ?_ | (exfalso; omega) | (refine VG ?_ ?_ <;> intro hg) | (refine VC ?_ ?_ <;> intro hc))
     all_goals try (exact absurd rfl hc)
     exact WQ_loop (i + 1) ⟨rfl, rfl, rfl, trivial⟩ ⟨hlt, hT⟩ (by omega)
   · have h2 := ruleE_two hck he
     rw [h2] at *
     repeat' (first | refine W1 ?_ | (exfalso; omega) | (refine VG ?_ ?_ <;> intro hg) | (refine VC ?_ ?_ <;> intro hc))
     exact WQ_loop (i + 1) ⟨rfl, rfl, rfl, trivial⟩ ⟨hlt, hT⟩ (by omega)
 · have hie : i = rs.length := by omega
   subst hie
   repeat' (first | refine W1 ?_ | (exfalso; omega) | (refine VG ?_ ?_ <;> intro hg) | (refine VC ?_ ?_ <;> intro hc))
   refine CL rfl evs0 rfl (lives15_any _ (hF.up hS)) ?_
   rintro _ w6 ⟨rfl, hT7⟩
   refine W ?_
   refine WR ?_
   exact .mk ⟨rfl, hS.trans hT7⟩
end Go.Proofs.YtgpibcgebpgmiaaGreatDoor
