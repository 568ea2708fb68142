/-
Merged by program out of own texts: Liv3, Liv4, Arg20, Src1.
-/
import Derived.Test.YtgpibcgebpgmiaaGreatDoorM5

namespace Go.Proofs.YtgpibcgebpgmiaaGreatDoor
open Go Go.Eng Go.RowKit
set_option linter.unusedVariables false

theorem fieldL_any (s : Str) (w : World) : Calls Tryz.prog 63 #[str s] w (Ret fun r w' => (∀ X, NdV X w' r (.mk 4 0 s [])) ∧ Stp [] w w') := by
  refine calls_of_WC1 (n := 5) Tryz.func63 rfl rfl rfl ?_
  refine W ?_
  refine WL_eff OE_alloc rfl ?_
  rintro _ w1 ⟨b, rfl, hb, hblk, hS⟩
  refine W ?_
  apply WL_build (vs := [(0, .int .i64 4), (2, str s)]) rfl (buildN02 _ _) rfl
  refine WL_eff0 (OE_storeA (us := ndC (.mk 4 0 s []) (.slice none 0 0)) rfl rfl rfl rfl (ndC_one (x := .mk 4 0 s []) (nilSlv (α := Nd) [] w)) hblk rfl) ?_
  rintro _ w2 ⟨hS2, hblk2⟩
  refine W ?_
  refine WQ_retc rfl rfl rfl hblk2 rfl ?_
  exact .mk ⟨fun X => ⟨_, rfl, nilSlv _ _⟩, hS.own hS2 (fun c hc => .inr (by simp at hc; omega))⟩
theorem numberL_any (n : Int) (w : World) : Calls Tryz.prog 64 #[.int .i64 n] w (Ret fun r w' => (∀ X, NdV X w' r (.mk 1 n [] [])) ∧ Stp [] w w') := by
  refine calls_of_WC1 (n := 5) Tryz.func64 rfl rfl rfl ?_
  refine W ?_
  refine WL_eff OE_alloc rfl ?_
  rintro _ w1 ⟨b, rfl, hb, hblk, hS⟩
  refine W ?_
  apply WL_build (vs := [(0, .int .i64 1), (1, .int .i64 n)]) rfl (buildN01 _ _) rfl
  refine WL_eff0 (OE_storeA (us := ndC (.mk 1 n [] []) (.slice none 0 0)) rfl rfl rfl rfl (ndC_one (x := .mk 1 n [] []) (nilSlv (α := Nd) [] w)) hblk rfl) ?_
  rintro _ w2 ⟨hS2, hblk2⟩
  refine W ?_
  refine WQ_retc rfl rfl rfl hblk2 rfl ?_
  exact .mk ⟨fun X => ⟨_, rfl, nilSlv _ _⟩, hS.own hS2 (fun c hc => .inr (by simp at hc; omega))⟩
theorem twoL_any (X : List Nat) (k : Int) (s : Str) (u0 u1 : Value) (y0 y1 : Nd) (w : World) (hX0 : ∀ b ∈ X, b < w.heap.size) (h0 : NdV X w u0 y0) (h1 : NdV X w u1 y1) :
    Calls Tryz.prog 62 #[.int .i64 k, str s, u0, u1] w (Ret fun r w' => NdV X w' r (.mk k 0 s [y0, y1]) ∧ Stp [] w w') := by
  obtain ⟨k0, rfl, s0⟩ := h0
  obtain ⟨k1, rfl, s1⟩ := h1
  obtain ⟨p0, c0, rfl, -⟩ := id s0
  obtain ⟨p1, c1, rfl, -⟩ := id s1
  refine calls_of_WC4 (n := 15) Tryz.func62 rfl rfl rfl ?_
  refine W ?_
  refine WL_eff (OE_box rfl) rfl ?_
  rintro _ w1 ⟨b1, rfl, hb1, e1, hS1⟩
  replace e1 : Blk w1 b1 _ (ndC y0 (.slice p0 y0.kids.length c0)) := e1
  refine WL_eff (OE_box rfl) rfl ?_
  rintro _ w2 ⟨b2, rfl, hb2, e2, hS2⟩
  replace e2 : Blk w2 b2 _ (ndC y1 (.slice p1 y1.kids.length c1)) := e2
  replace e1 := e1.up hS2
  have hS := hS1.trans hS2
  clear hS1 hS2
  refine WL_eff OE_alloc rfl ?_
  rintro _ w3 ⟨b, rfl, hb, hblk, hS3⟩
  replace e1 := e1.up hS3
  replace e2 := e2.up hS3
  have hz := hS.size
  replace hS := hS.trans hS3
  have hw : ∀ c ∈ b :: X, c ∈ X ∨ w.heap.size ≤ c := fun c hc => by
    rcases List.mem_cons.1 hc with rfl | h
    · right; omega
    · exact .inl h
  replace s0 := s0.ext hS (by simp) hw
  replace s1 := s1.ext hS (by simp) hw
  have hX : ∀ c ∈ b :: X, c < w3.heap.size := fun c hc => by
    rcases List.mem_cons.1 hc with rfl | h
    · exact hblk.lt
    · exact Nat.lt_of_lt_of_le (hX0 c h) hS.size
  refine W ?_
  refine WL_eff (OE_buildSlice (vs := [(0, .agg #[.int .i64 y0.kind, .int .i64 y0.num, str y0.word, .slice p0 y0.kids.length c0]), (1, .agg #[.int .i64 y1.kind, .int .i64 y1.num, str y1.word, .slice p1 y1.kids.length c1])]) rfl (buildSN2 _ _ _ _ _ _ _ _ _ _ _ _)) rfl ?_
  rintro bv w4 hN
  have hbv : SlV (b :: X) w4 bv [y0, y1] := hN.slvG (css := [ndC y0 _, ndC y1 _]) hX rfl rfl rfl (reps2 s0 s1) (by simp [maxLen])
  have hT := NewSl.stp hN
  clear hN
  replace hblk := hblk.up hT
  replace hS := hS.trans hT
  obtain ⟨p, c, rfl, -⟩ := id hbv
  apply WL_build (vs := [(0, .int .i64 k), (2, str s), (3, .slice p 2 c)]) rfl (buildN023 _ _ _ _ _) rfl
  have hlt := hblk.lt
  refine WL_eff0 (OE_storeA (us := ndC (.mk k 0 s [y0, y1]) (.slice p 2 c)) rfl rfl rfl rfl (ndC_one (x := .mk k 0 s [y0, y1]) hbv) hblk rfl) ?_
  rintro _ w5 ⟨hS5, hblk5⟩
  refine W ?_
  refine WQ_retc rfl rfl rfl hblk5 rfl ?_
  refine .mk ⟨⟨_, rfl, ?_⟩, hS.own hS5 (fun c hc => .inr (by simp at hc; omega))⟩
  exact (hbv.ext (X' := b :: X) hS5 (by simp) (fun _ h => .inl h)).wk (fun c hc => List.mem_cons_of_mem _ hc)
theorem SameIntsL_any (va vb : Value) (xs ys : List Int) (w : World) (ha : SlV [] w va xs) (hb : SlV [] w vb ys) :
    Calls Tryz.prog 19 #[va, vb] w (Ret fun r w' => r = .bool (decide (xs = ys)) ∧ Stp [] w w') := by
  have hma := ha.max
  have hmb := hb.max
  refine calls_of_WC2 (n := 26) Tryz.func19 rfl rfl rfl ?_
  refine W ?_
  by_cases hl : xs.length = ys.length
  case neg =>
    repeat' (first | refine W1 ?_ | (exfalso; omega) | refine WL_split rfl rfl (fun hg => ?_) (fun hg => ?_) | refine WL_splitB rfl rfl (fun hg => ?_) (fun hg => ?_) | refine WC_cond rfl (fun hc => ?_) (fun hc => ?_) | refine WC_condB rfl (fun hc => ?_) (fun hc => ?_))
    first | refine WQ_ret1 rfl rfl ?_ | refine WQ_ret2 rfl rfl rfl ?_ | refine WQ_ret3 rfl rfl rfl rfl ?_ | refine WQ_ret0 rfl ?_ | refine WQ_end0 rfl ?_
    exact .mk ⟨by congr 1; rw [eq_comm, decide_eq_false_iff_not]; exact fun h => hl (by rw [h]), Stp.refl _ _⟩
  repeat' (first | refine W1 ?_ | (exfalso; omega) | refine WL_split rfl rfl (fun hg => ?_) (fun hg => ?_) | refine WL_splitB rfl rfl (fun hg => ?_) (fun hg => ?_) | refine WC_cond rfl (fun hc => ?_) (fun hc => ?_) | refine WC_condB rfl (fun hc => ?_) (fun hc => ?_))
  refine WC_loop (σ := Nat) (fun j => [(0, va), (1, vb), (4, .bool false), (5, .int .i64 (j : Int))]) (fun j w' => j ≤ xs.length ∧ Stp [] w w' ∧ ∀ i (h : i < xs.length), i < j → xs[i] = ys[i]'(by omega)) (fun j => xs.length - j) 0 ⟨rfl, rfl, rfl, rfl, trivial⟩ ⟨Nat.zero_le _, Stp.refl _ _, fun i _ h => absurd h (Nat.not_lt_zero _)⟩ ?_
  rintro j w2 ⟨hj, hS, heq⟩
  try dsimp only at hj heq ⊢
  replace ha := ha.up hS
  replace hb := hb.up hS
  by_cases hlt : j < xs.length
  · have hlt' : j < ys.length := by omega
    repeat' (first | refine W1 ?_ | (exfalso; omega) | refine WL_split rfl rfl (fun hg => ?_) (fun hg => ?_) | refine WL_splitB rfl rfl (fun hg => ?_) (fun hg => ?_) | refine WC_cond rfl (fun hc => ?_) (fun hc => ?_) | refine WC_condB rfl (fun hc => ?_) (fun hc => ?_))
    refine WC_drawn 9 [] [] [(0, 0), (1, 0), (2, 0), (3, 1), (4, 0), (5, 0), (6, 0), (7, 1), (8, 0)] rfl mixed (by kernel_rfl) (by kernel_rfl) (by kernel_rfl) (fun w1 hS1 => ?_)
    replace ha := ha.up hS1
    replace hb := hb.up hS1
    replace hS := hS.trans hS1
    refine D ?_
    by_cases he : xs[j] = ys[j]
    · have hk : ∀ i (h : i < xs.length), i < j + 1 → xs[i] = ys[i]'(by omega) := fun i h hi => by
        by_cases hij : i = j
        · subst hij; exact he
        · exact heq i h (by omega)
      repeat' (first | refine W1 ?_ | (exfalso; omega) | refine WL_split rfl rfl (fun hg => ?_) (fun hg => ?_) | refine WL_splitB rfl rfl (fun hg => ?_) (fun hg => ?_) | refine WC_cond rfl (fun hc => ?_) (fun hc => ?_) | refine WC_condB rfl (fun hc => ?_) (fun hc => ?_))
      exact WQ_loop (j + 1) ⟨rfl, rfl, rfl, rfl, trivial⟩ ⟨hlt, hS, hk⟩ (Nat.sub_lt_sub_left hlt (Nat.lt_succ_self j))
    · repeat' (first | refine W1 ?_ | (exfalso; omega) | refine WL_split rfl rfl (fun hg => ?_) (fun hg => ?_) | refine WL_splitB rfl rfl (fun hg => ?_) (fun hg => ?_) | refine WC_cond rfl (fun hc => ?_) (fun hc => ?_) | refine WC_condB rfl (fun hc => ?_) (fun hc => ?_))
      first | refine WQ_ret1 rfl rfl ?_ | refine WQ_ret2 rfl rfl rfl ?_ | refine WQ_ret3 rfl rfl rfl rfl ?_ | refine WQ_ret0 rfl ?_ | refine WQ_end0 rfl ?_
      exact .mk ⟨by congr 1; rw [eq_comm, decide_eq_false_iff_not]; exact fun h => he (by simp [h]), hS⟩
  · have hje : j = xs.length := by omega
    subst hje
    repeat' (first | refine W1 ?_ | (exfalso; omega) | refine WL_split rfl rfl (fun hg => ?_) (fun hg => ?_) | refine WL_splitB rfl rfl (fun hg => ?_) (fun hg => ?_) | refine WC_cond rfl (fun hc => ?_) (fun hc => ?_) | refine WC_condB rfl (fun hc => ?_) (fun hc => ?_))
    first | refine WQ_ret1 rfl rfl ?_ | refine WQ_ret2 rfl rfl rfl ?_ | refine WQ_ret3 rfl rfl rfl rfl ?_ | refine WQ_ret0 rfl ?_ | refine WQ_end0 rfl ?_
    exact .mk ⟨by congr 1; rw [eq_comm, decide_eq_true_eq]; exact List.ext_getElem hl (fun i h h' => heq i h h), hS⟩
abbrev yA : Nd := .mk 7 0 [100, 97, 121, 115] [(.mk 4 0 [100, 97, 121] []), (.mk 1 3 [] [])]
abbrev yB : Nd := .mk 6 0 [62] [.mk 10 0 [98, 101, 116, 119, 101, 101, 110] [(.mk 4 0 [100, 97, 121] []), (.mk 4 0 [115, 101, 114, 118, 101, 100] [])], (.mk 1 14 [] [])]
abbrev yC1 : Nd := .mk 6 0 [61] [(.mk 4 0 [101, 120, 116, 114, 97] []), (.mk 1 0 [] [])]
abbrev yC : Nd := .mk 9 0 [] [yC1, (.mk 4 0 [100, 97, 121] []), (.mk 4 0 [115, 101, 114, 118, 101, 100] [])]
abbrev yD : Nd := .mk 6 0 [43] [(.mk 4 0 [97, 109, 111, 117, 110, 116] []), (.mk 4 0 [100, 97, 121] [])]
theorem ofA : nestN yA = 2 ∧ typeT yA = 3 ∧ sizeN yA = 3 := by
  refine ⟨?_, ?_, ?_⟩
  · simp only [yA, nestN_eq, Nd.kids, List.map_cons, List.map_nil]; rfl
  · simp only [yA, typeT_eq, Nd.kids, Nd.kind, Nd.num, Nd.word, List.map_cons, List.map_nil]; rfl
  · simp only [yA, sizeN_eq, Nd.kids, List.map_cons, List.map_nil]; rfl
theorem ofB : nestN yB = 3 ∧ typeT yB = 2 ∧ sizeN yB = 5 := by
  refine ⟨?_, ?_, ?_⟩
  · simp only [yB, nestN_eq, Nd.kids, List.map_cons, List.map_nil]; rfl
  · simp only [yB, typeT_eq, Nd.kids, Nd.kind, Nd.num, Nd.word, List.map_cons, List.map_nil]; rfl
  · simp only [yB, sizeN_eq, Nd.kids, List.map_cons, List.map_nil]; rfl
theorem ofC : nestN yC = 3 ∧ typeT yC = 3 ∧ sizeN yC = 6 := by
  refine ⟨?_, ?_, ?_⟩
  · simp only [yC, yC1, nestN_eq, Nd.kids, List.map_cons, List.map_nil]; rfl
  · simp only [yC, yC1, typeT_eq, Nd.kids, Nd.kind, Nd.num, Nd.word, List.map_cons, List.map_nil]; rfl
  · simp only [yC, yC1, sizeN_eq, Nd.kids, List.map_cons, List.map_nil]; rfl
theorem ofD : nestN yD = 2 ∧ typeT yD = 0 ∧ sizeN yD = 3 := by
  refine ⟨?_, ?_, ?_⟩
  · simp only [yD, nestN_eq, Nd.kids, List.map_cons, List.map_nil]; rfl
  · simp only [yD, typeT_eq, Nd.kids, Nd.kind, Nd.num, Nd.word, List.map_cons, List.map_nil]; rfl
  · simp only [yD, sizeN_eq, Nd.kids, List.map_cons, List.map_nil]; rfl
theorem usC : usesF yC = [0, 1, 2] := by
  rw [uses_eq]
  simp only [yC, yC1, usesR, usesT_eq, List.map_cons, List.map_nil, List.any_cons, List.any_nil]
  decide +kernel
abbrev rlA : Rul := ⟨[97, 110, 115, 119, 101, 114], 0, [109, 111, 116, 105, 111, 110], yB, yA, [], []⟩
abbrev rlB : Rul := ⟨[97, 110, 115, 119, 101, 114], 0, [109, 111, 116, 105, 111, 110], yB, (.mk 1 3 [] []), [], []⟩
abbrev rlD : Rul := ⟨[105, 102], 0, [109, 111, 116, 105, 111, 110], yB, yA, [], []⟩
theorem ckA : checkT rlA = 0 := by
  have h : namesT rlA = true := by decide +kernel
  have m1 : mustF yB 2 = 0 := by unfold mustF; rw [ofB.1, ofB.2.1]; decide
  have m2 : mustF yA 3 = 0 := by unfold mustF; rw [ofA.1, ofA.2.1]; decide
  unfold checkT
  rw [h, if_neg (by decide), if_neg (by decide), m1, m2]
  decide
theorem ckB : checkT rlB = 21 := by
  have h : namesT rlB = true := by decide +kernel
  have m1 : mustF yB 2 = 0 := by unfold mustF; rw [ofB.1, ofB.2.1]; decide
  have m2 : mustF (.mk 1 3 [] []) 3 = 21 := by unfold mustF; rw [show nestN (.mk 1 3 [] []) = 1 by simp only [nestN_eq, Nd.kids, List.map_nil]; rfl, show typeT (.mk 1 3 [] []) = 1 by simp only [typeT_eq, Nd.kids, Nd.kind, Nd.num, Nd.word, List.map_nil]; rfl]; decide
  unfold checkT
  rw [h, if_neg (by decide), if_neg (by decide), m1, m2]
  decide
theorem ckD : checkT rlD = 7 := by
  have h : namesT rlD = false := by decide +kernel
  unfold checkT
  rw [if_pos h]
theorem fdS : fieldF [115, 101, 114, 118, 101, 100] = (1, 3, true) := by decide +kernel
end Go.Proofs.YtgpibcgebpgmiaaGreatDoor


namespace Go.Proofs.YtgpibcgebpgmiaaGreatDoor
open Go Go.Eng Go.RowKit
set_option linter.unusedVariables false
theorem OfL_any (v : Value) (x : Nd) (t e : Int) (w : World) (hx : NdV [] w v x) (hF : SlV [] w flds fieldNames) (h1 : (if nestN x ≤ 12 then typeT x else 0) = t) (h2 : (if nestN x ≤ 12 then (if typeT x = 0 then 21 else 0) else 2) = e) :
    Calls Tryz.prog 17 #[v] w (Ret fun r w' => r = .tuple #[.int .i64 t, .int .i64 e] ∧ Stp [] w w') := by
  have := Of_any [] [] v x w hx hF
  rw [h1, h2] at this
  exact this
theorem CheckL_any (v : Value) (r : Rul) (c m : Int) (w : World) (hv : RulV [] w v r) (hF : SlV [] w flds fieldNames) (hm : w.cell? ⟨1, 0, none⟩ = some (.int .i64 m)) (h : checkT r = c) :
    Calls Tryz.prog 18 #[v] w (Ret fun r' w' => r' = .int .i64 c ∧ Stp [] w w') := by
  have := Check14_any v r m w hv hF hm
  rw [h] at this
  exact this
theorem buildN03 (k : Int) (p : Option Addr) (l c : Nat) (w : World) : (Instr.build 36 #[(0, .int .i64 k), (3, .slice p l c)]).run Tryz.prog w = .ok (.agg #[.int .i64 k, .int .i64 0, str [], .slice p l c]) w := by kernel_rfl
theorem buildRlL (a o : Str) (k n : Int) (s : Str) (p : Option Addr) (l c : Nat) (k' n' : Int) (s' : Str) (p' : Option Addr) (l' c' : Nat) (w : World) : (Instr.build 38 #[(0, str a), (2, str o), (3, .agg #[.int .i64 k, .int .i64 n, str s, .slice p l c]), (4, .agg #[.int .i64 k', .int .i64 n', str s', .slice p' l' c'])]).run Tryz.prog w = .ok (.agg #[str a, .int .i64 0, str o, .int .i64 k, .int .i64 n, str s, .slice p l c, .int .i64 k', .int .i64 n', str s', .slice p' l' c', str [], str []]) w := by kernel_rfl
set_option maxHeartbeats 2000000 in
theorem lives14_any (m : Int) (w : World) (hF : SlV [] w flds fieldNames) (hm : w.cell? ⟨1, 0, none⟩ = some (.int .i64 m)) : Calls Tryz.prog 21 #[] w (Ret fun r w' => r = .bool true ∧ Stp [] w w') := by
  have oA1 : (if nestN yA ≤ 12 then typeT yA else 0) = 3 := by rw [ofA.1, ofA.2.1]; decide
  have oA2 : (if nestN yA ≤ 12 then (if typeT yA = 0 then 21 else 0) else 2) = (0 : Int) := by rw [ofA.1, ofA.2.1]; decide
  have oB1 : (if nestN yB ≤ 12 then typeT yB else 0) = 2 := by rw [ofB.1, ofB.2.1]; decide
  have oB2 : (if nestN yB ≤ 12 then (if typeT yB = 0 then 21 else 0) else 2) = (0 : Int) := by rw [ofB.1, ofB.2.1]; decide
  have oC1 : (if nestN yC ≤ 12 then typeT yC else 0) = 3 := by rw [ofC.1, ofC.2.1]; decide
  have oC2 : (if nestN yC ≤ 12 then (if typeT yC = 0 then 21 else 0) else 2) = (0 : Int) := by rw [ofC.1, ofC.2.1]; decide
  have oD1 : (if nestN yD ≤ 12 then typeT yD else 0) = 0 := by rw [ofD.1, ofD.2.1]; decide
  have oD2 : (if nestN yD ≤ 12 then (if typeT yD = 0 then 21 else 0) else 2) = (21 : Int) := by rw [ofD.1, ofD.2.1]; decide
  have kC : okN yC = true := okN_of_size yC (by rw [ofC.2.2]; decide)
  have hS : Stp [] w w := Stp.refl _ _
  refine calls_of_WC0 (n := 127) Tryz.func21 rfl rfl ?_
  refine W ?_
  refine WL_eff (OE_call rfl (evs1 rfl) (fieldL_any [100, 97, 121] _)) rfl ?_
  rintro rh1 w1 ⟨h1, hT⟩
  replace hS := hS.trans hT
  clear hT
  replace h1 := h1 []
  refine W ?_
  refine WL_eff (OE_call rfl (evs1 rfl) (numberL_any 3 _)) rfl ?_
  rintro rh2 w1 ⟨h2, hT⟩
  replace h1 := h1.up hT
  replace hS := hS.trans hT
  clear hT
  replace h2 := h2 []
  refine W ?_
  refine WL_eff (OE_call rfl (evs4 rfl rfl rfl rfl) (twoL_any [] 7 [100, 97, 121, 115] _ _ _ _ _ (by simp) h1 h2)) rfl ?_
  rintro rh3 w1 ⟨h3, hT⟩
  replace hS := hS.trans hT
  clear hT
  clear h1 h2
  obtain ⟨ka, rfl, sa⟩ := h3
  refine W ?_
  refine WL_eff OE_alloc rfl ?_
  rintro _ w1 ⟨b1, rfl, hb, e0, hT⟩
  refine WL_eff0 (OE_storeA (us := ndC yA ka) rfl rfl rfl rfl (ndC_one sa) e0 rfl) ?_
  rintro _ w2 ⟨hT2, e1⟩
  replace hT := hT.own hT2 (fun b hb => .inr (by simp at hb; omega))
  clear hT2 e0 hb
  replace sa := sa.up hT
  replace hS := hS.trans hT
  clear hT
  refine W ?_
  refine WL_eff (OE_call rfl (evs1 rfl) (fieldL_any [100, 97, 121] _)) rfl ?_
  rintro rh1 w1 ⟨h1, hT⟩
  replace sa := sa.up hT
  replace e1 := e1.up hT
  replace hS := hS.trans hT
  clear hT
  replace h1 := h1 []
  refine W ?_
  refine WL_eff (OE_call rfl (evs1 rfl) (fieldL_any [115, 101, 114, 118, 101, 100] _)) rfl ?_
  rintro rh2 w1 ⟨h2, hT⟩
  replace sa := sa.up hT
  replace e1 := e1.up hT
  replace h1 := h1.up hT
  replace hS := hS.trans hT
  clear hT
  replace h2 := h2 []
  refine W ?_
  refine WL_eff (OE_call rfl (evs4 rfl rfl rfl rfl) (twoL_any [] 10 [98, 101, 116, 119, 101, 101, 110] _ _ _ _ _ (by simp) h1 h2)) rfl ?_
  rintro rh3 w1 ⟨h3, hT⟩
  replace sa := sa.up hT
  replace e1 := e1.up hT
  replace hS := hS.trans hT
  clear hT
  clear h1 h2
  refine W ?_
  refine WL_eff (OE_call rfl (evs1 rfl) (numberL_any 14 _)) rfl ?_
  rintro rh4 w1 ⟨h4, hT⟩
  replace sa := sa.up hT
  replace e1 := e1.up hT
  replace h3 := h3.up hT
  replace hS := hS.trans hT
  clear hT
  replace h4 := h4 []
  refine W ?_
  refine WL_eff (OE_call rfl (evs4 rfl rfl rfl rfl) (twoL_any [] 6 [62] _ _ _ _ _ (by simp) h3 h4)) rfl ?_
  rintro rh5 w1 ⟨h5, hT⟩
  replace sa := sa.up hT
  replace e1 := e1.up hT
  replace hS := hS.trans hT
  clear hT
  clear h3 h4
  obtain ⟨kb, rfl, sb⟩ := h5
  refine W ?_
  refine WL_eff OE_alloc rfl ?_
  rintro _ w1 ⟨b2, rfl, hb, e0, hT⟩
  refine WL_eff0 (OE_storeA (us := ndC yB kb) rfl rfl rfl rfl (ndC_one sb) e0 rfl) ?_
  rintro _ w2 ⟨hT2, e2⟩
  replace hT := hT.own hT2 (fun b hb => .inr (by simp at hb; omega))
  clear hT2 e0 hb
  replace sa := sa.up hT
  replace e1 := e1.up hT
  replace sb := sb.up hT
  replace hS := hS.trans hT
  clear hT
  refine W ?_
  refine WL_eff (OE_call rfl (evs1 rfl) (fieldL_any [101, 120, 116, 114, 97] _)) rfl ?_
  rintro rh1 w1 ⟨h1, hT⟩
  replace sa := sa.up hT
  replace e1 := e1.up hT
  replace sb := sb.up hT
  replace e2 := e2.up hT
  replace hS := hS.trans hT
  clear hT
  replace h1 := h1 []
  refine W ?_
  refine WL_eff (OE_call rfl (evs1 rfl) (numberL_any 0 _)) rfl ?_
  rintro rh2 w1 ⟨h2, hT⟩
  replace sa := sa.up hT
  replace e1 := e1.up hT
  replace sb := sb.up hT
  replace e2 := e2.up hT
  replace h1 := h1.up hT
  replace hS := hS.trans hT
  clear hT
  replace h2 := h2 []
  refine W ?_
  refine WL_eff (OE_call rfl (evs4 rfl rfl rfl rfl) (twoL_any [] 6 [61] _ _ _ _ _ (by simp) h1 h2)) rfl ?_
  rintro rh3 w1 ⟨h3, hT⟩
  replace sa := sa.up hT
  replace e1 := e1.up hT
  replace sb := sb.up hT
  replace e2 := e2.up hT
  replace hS := hS.trans hT
  clear hT
  clear h1 h2
  refine W ?_
  refine WL_eff (OE_call rfl (evs1 rfl) (fieldL_any [100, 97, 121] _)) rfl ?_
  rintro rh4 w1 ⟨h4, hT⟩
  replace sa := sa.up hT
  replace e1 := e1.up hT
  replace sb := sb.up hT
  replace e2 := e2.up hT
  replace h3 := h3.up hT
  replace hS := hS.trans hT
  clear hT
  replace h4 := h4 []
  refine W ?_
  refine WL_eff (OE_call rfl (evs1 rfl) (fieldL_any [115, 101, 114, 118, 101, 100] _)) rfl ?_
  rintro rh5 w1 ⟨h5, hT⟩
  replace sa := sa.up hT
  replace e1 := e1.up hT
  replace sb := sb.up hT
  replace e2 := e2.up hT
  replace h3 := h3.up hT
  replace h4 := h4.up hT
  replace hS := hS.trans hT
  clear hT
  replace h5 := h5 []
  obtain ⟨k0, rfl, s0⟩ := h3
  obtain ⟨k1, rfl, s1⟩ := h4
  obtain ⟨k2, rfl, s2⟩ := h5
  obtain ⟨p0, c0, rfl, -⟩ := id s0
  obtain ⟨p1, c1, rfl, -⟩ := id s1
  obtain ⟨p2, c2, rfl, -⟩ := id s2
  refine W ?_
  refine WL_eff (OE_buildSlice (vs := [(0, .agg #[.int .i64 6, .int .i64 0, str [61], .slice p0 2 c0]), (1, .agg #[.int .i64 4, .int .i64 0, str [100, 97, 121], .slice p1 0 c1]), (2, .agg #[.int .i64 4, .int .i64 0, str [115, 101, 114, 118, 101, 100], .slice p2 0 c2])]) rfl (buildSN3 _ _ _ _ _ _ _ _ _ _ _ _ _ _ _ _ _ _)) rfl ?_
  rintro bv w3 hN
  have hbv : SlV [] w3 bv yC.kids := hN.slvG (X := []) (css := [ndC yC1 _, ndC (.mk 4 0 [100, 97, 121] []) _, ndC (.mk 4 0 [115, 101, 114, 118, 101, 100] []) _]) (by simp) rfl rfl rfl (reps3 (y0 := yC1) (y1 := .mk 4 0 [100, 97, 121] []) (y2 := .mk 4 0 [115, 101, 114, 118, 101, 100] []) s0 s1 s2) (show 3 ≤ maxLen by decide)
  have hT := NewSl.stp hN
  clear hN s0 s1 s2
  replace sa := sa.up hT
  replace e1 := e1.up hT
  replace sb := sb.up hT
  replace e2 := e2.up hT
  replace hS := hS.trans hT
  clear hT
  obtain ⟨p, c, rfl, -⟩ := id hbv
  apply WL_build (vs := [(0, .int .i64 9), (3, .slice p 3 c)]) rfl (buildN03 _ _ _ _) rfl
  refine W ?_
  refine WL_eff OE_alloc rfl ?_
  rintro _ w1 ⟨b3, rfl, hb, e0, hT⟩
  refine WL_eff0 (OE_storeA (us := ndC yC (.slice p 3 c)) rfl rfl rfl rfl (ndC_one (x := yC) hbv) e0 rfl) ?_
  rintro _ w2 ⟨hT2, e3⟩
  replace hT := hT.own hT2 (fun b hb => .inr (by simp at hb; omega))
  clear hT2 e0 hb
  replace sa := sa.up hT
  replace e1 := e1.up hT
  replace sb := sb.up hT
  replace e2 := e2.up hT
  replace hbv := hbv.up hT
  replace hS := hS.trans hT
  clear hT
  refine W ?_
  refine WL_eff (OE_call rfl (evs1 rfl) (OfL_any _ yA _ _ _ ⟨ka, rfl, sa⟩ (hF.up hS) oA1 oA2)) rfl ?_
  rintro _ w1 ⟨rfl, hT⟩
  replace sa := sa.up hT
  replace e1 := e1.up hT
  replace sb := sb.up hT
  replace e2 := e2.up hT
  replace hbv := hbv.up hT
  replace e3 := e3.up hT
  replace hS := hS.trans hT
  clear hT
  refine W ?_
  refine WL_eff (OE_call rfl (evs1 rfl) (OfL_any _ yB _ _ _ ⟨kb, rfl, sb⟩ (hF.up hS) oB1 oB2)) rfl ?_
  rintro _ w1 ⟨rfl, hT⟩
  replace sa := sa.up hT
  replace e1 := e1.up hT
  replace sb := sb.up hT
  replace e2 := e2.up hT
  replace hbv := hbv.up hT
  replace e3 := e3.up hT
  replace hS := hS.trans hT
  clear hT
  refine W ?_
  refine WL_eff (OE_call rfl (evs1 rfl) (fieldL_any [97, 109, 111, 117, 110, 116] _)) rfl ?_
  rintro rh1 w1 ⟨h1, hT⟩
  replace sa := sa.up hT
  replace e1 := e1.up hT
  replace sb := sb.up hT
  replace e2 := e2.up hT
  replace hbv := hbv.up hT
  replace e3 := e3.up hT
  replace hS := hS.trans hT
  clear hT
  replace h1 := h1 []
  refine W ?_
  refine WL_eff (OE_call rfl (evs1 rfl) (fieldL_any [100, 97, 121] _)) rfl ?_
  rintro rh2 w1 ⟨h2, hT⟩
  replace sa := sa.up hT
  replace e1 := e1.up hT
  replace sb := sb.up hT
  replace e2 := e2.up hT
  replace hbv := hbv.up hT
  replace e3 := e3.up hT
  replace h1 := h1.up hT
  replace hS := hS.trans hT
  clear hT
  replace h2 := h2 []
  refine W ?_
  refine WL_eff (OE_call rfl (evs4 rfl rfl rfl rfl) (twoL_any [] 6 [43] _ _ _ _ _ (by simp) h1 h2)) rfl ?_
  rintro rh3 w1 ⟨h3, hT⟩
  replace sa := sa.up hT
  replace e1 := e1.up hT
  replace sb := sb.up hT
  replace e2 := e2.up hT
  replace hbv := hbv.up hT
  replace e3 := e3.up hT
  replace hS := hS.trans hT
  clear hT
  clear h1 h2
  refine W ?_
  refine WL_eff (OE_call rfl (evs1 rfl) (OfL_any _ yD _ _ _ h3 (hF.up hS) oD1 oD2)) rfl ?_
  rintro _ w1 ⟨rfl, hT⟩
  replace sa := sa.up hT
  replace e1 := e1.up hT
  replace sb := sb.up hT
  replace e2 := e2.up hT
  replace hbv := hbv.up hT
  replace e3 := e3.up hT
  replace hS := hS.trans hT
  clear hT
  clear h3
  refine W ?_
  refine WL_eff (OE_call rfl (evs1 rfl) (OfL_any _ yC _ _ _ ⟨_, rfl, hbv⟩ (hF.up hS) oC1 oC2)) rfl ?_
  rintro _ w1 ⟨rfl, hT⟩
  replace sa := sa.up hT
  replace e1 := e1.up hT
  replace sb := sb.up hT
  replace e2 := e2.up hT
  replace hbv := hbv.up hT
  replace e3 := e3.up hT
  replace hS := hS.trans hT
  clear hT
  obtain ⟨p0, c0, rfl, -⟩ := id sb
  obtain ⟨p1, c1, rfl, -⟩ := id sa
  refine W ?_
  apply WL_build (vs := [(0, str [97, 110, 115, 119, 101, 114]), (2, str [109, 111, 116, 105, 111, 110]), (3, .agg (ndC yB (.slice p0 2 c0)).toArray), (4, .agg (ndC yA (.slice p1 2 c1)).toArray)]) rfl (buildRlL _ _ _ _ _ _ _ _ _ _ _ _ _ _) rfl
  refine W ?_
  refine WL_eff OE_alloc rfl ?_
  rintro _ w1 ⟨b12, rfl, hb, e0, hT⟩
  refine WL_eff0 (OE_storeA (us := rlC rlA (.slice p0 2 c0) (.slice p1 2 c1)) rfl rfl rfl rfl (rlC_one rlA sb sa) e0 rfl) ?_
  rintro _ w2 ⟨hT2, e12⟩
  replace hT := hT.own hT2 (fun b hb => .inr (by simp at hb; omega))
  clear hT2 e0 hb
  replace sa := sa.up hT
  replace e1 := e1.up hT
  replace sb := sb.up hT
  replace e2 := e2.up hT
  replace hbv := hbv.up hT
  replace e3 := e3.up hT
  replace hS := hS.trans hT
  clear hT
  refine W ?_
  refine WL_eff OE_alloc rfl ?_
  rintro _ w1 ⟨b13, rfl, hb, e0, hT⟩
  refine WL_eff0 (OE_storeA (us := rlC rlA (.slice p0 2 c0) (.slice p1 2 c1)) rfl rfl rfl rfl (rlC_one rlA sb sa) e0 rfl) ?_
  rintro _ w2 ⟨hT2, e13⟩
  have hbw : w.heap.size ≤ b13 := Nat.le_trans hS.size hb
  replace sa := (sa.ext (X' := [b13]) hT (by simp) (fun b h => by simp at h; subst h; exact .inr hb)).ext hT2 (by simp) (fun _ h => .inl h)
  have n1 : b1 ≠ b13 := by have := e1.lt; omega
  replace sb := (sb.ext (X' := [b13]) hT (by simp) (fun b h => by simp at h; subst h; exact .inr hb)).ext hT2 (by simp) (fun _ h => .inl h)
  have n2 : b2 ≠ b13 := by have := e2.lt; omega
  replace hbv := (hbv.ext (X' := [b13]) hT (by simp) (fun b h => by simp at h; subst h; exact .inr hb)).ext hT2 (by simp) (fun _ h => .inl h)
  have n3 : b3 ≠ b13 := by have := e3.lt; omega
  have n12 : b12 ≠ b13 := by have := e12.lt; omega
  replace hT := hT.own hT2 (fun b hb => .inr (by simp at hb; omega))
  replace e1 := e1.up hT
  replace e2 := e2.up hT
  replace e3 := e3.up hT
  replace e12 := e12.up hT
  replace hS := hS.trans hT
  clear hT hT2 e0 hb
  refine W ?_
  refine WL_eff (OE_call rfl (evs1 rfl) (numberL_any 3 _)) rfl ?_
  rintro _ w1 ⟨h1, hT⟩
  obtain ⟨k3, rfl, s3⟩ := h1 [b13]
  clear h1
  replace sa := sa.up hT
  replace e1 := e1.up hT
  replace sb := sb.up hT
  replace e2 := e2.up hT
  replace hbv := hbv.up hT
  replace e3 := e3.up hT
  replace e12 := e12.up hT
  replace e13 := e13.up hT
  replace hS := hS.trans hT
  clear hT
  refine W ?_
  refine WL_eff0 (OE_store (us := ndC (.mk 1 3 [] []) k3) rfl rfl rfl rfl (ndC_one (x := .mk 1 3 [] []) s3) e13 (by simp)) ?_
  rintro _ w2 ⟨hT, e13⟩
  replace e13 : Blk w2 b13 38 (rlC rlB (.slice p0 2 c0) k3) := e13
  replace sa := (sa.ext hT (by simp) (fun _ h => .inl h)).wk (X' := []) (by simp)
  replace e1 := e1.ext hT (by simp; exact n1)
  replace sb := (sb.ext hT (by simp) (fun _ h => .inl h)).wk (X' := []) (by simp)
  replace e2 := e2.ext hT (by simp; exact n2)
  replace hbv := (hbv.ext hT (by simp) (fun _ h => .inl h)).wk (X' := []) (by simp)
  replace e3 := e3.ext hT (by simp; exact n3)
  replace e12 := e12.ext hT (by simp; exact n12)
  replace s3 := (s3.ext hT (by simp) (fun _ h => .inl h)).wk (X' := []) (by simp)
  replace hS := hS.own hT (fun b hb => .inr (by simp at hb; omega))
  clear hT hbw
  refine W ?_
  refine WL_eff OE_alloc rfl ?_
  rintro _ w1 ⟨b14, rfl, hb, e0, hT⟩
  refine WL_eff0 (OE_storeA (us := rlC rlA (.slice p0 2 c0) (.slice p1 2 c1)) rfl rfl rfl rfl (rlC_one rlA sb sa) e0 rfl) ?_
  rintro _ w2 ⟨hT2, e14⟩
  have hbw : w.heap.size ≤ b14 := Nat.le_trans hS.size hb
  replace sa := (sa.ext (X' := [b14]) hT (by simp) (fun b h => by simp at h; subst h; exact .inr hb)).ext hT2 (by simp) (fun _ h => .inl h)
  have n1 : b1 ≠ b14 := by have := e1.lt; omega
  replace sb := (sb.ext (X' := [b14]) hT (by simp) (fun b h => by simp at h; subst h; exact .inr hb)).ext hT2 (by simp) (fun _ h => .inl h)
  have n2 : b2 ≠ b14 := by have := e2.lt; omega
  replace hbv := (hbv.ext (X' := [b14]) hT (by simp) (fun b h => by simp at h; subst h; exact .inr hb)).ext hT2 (by simp) (fun _ h => .inl h)
  have n3 : b3 ≠ b14 := by have := e3.lt; omega
  have n12 : b12 ≠ b14 := by have := e12.lt; omega
  have n13 : b13 ≠ b14 := by have := e13.lt; omega
  replace s3 := (s3.ext (X' := [b14]) hT (by simp) (fun b h => by simp at h; subst h; exact .inr hb)).ext hT2 (by simp) (fun _ h => .inl h)
  replace hT := hT.own hT2 (fun b hb => .inr (by simp at hb; omega))
  replace e1 := e1.up hT
  replace e2 := e2.up hT
  replace e3 := e3.up hT
  replace e12 := e12.up hT
  replace e13 := e13.up hT
  replace hS := hS.trans hT
  clear hT hT2 e0 hb
  refine W ?_
  refine WL_eff0 (OE_store1 (o := 0) (u := str [105, 102]) rfl rfl rfl rfl e14 (by simp)) ?_
  rintro _ w2 ⟨hT, e14⟩
  replace e14 : Blk w2 b14 38 (rlC rlD (.slice p0 2 c0) (.slice p1 2 c1)) := e14
  replace sa := (sa.ext hT (by simp) (fun _ h => .inl h)).wk (X' := []) (by simp)
  replace e1 := e1.ext hT (by simp; exact n1)
  replace sb := (sb.ext hT (by simp) (fun _ h => .inl h)).wk (X' := []) (by simp)
  replace e2 := e2.ext hT (by simp; exact n2)
  replace hbv := (hbv.ext hT (by simp) (fun _ h => .inl h)).wk (X' := []) (by simp)
  replace e3 := e3.ext hT (by simp; exact n3)
  replace e12 := e12.ext hT (by simp; exact n12)
  replace e13 := e13.ext hT (by simp; exact n13)
  replace s3 := (s3.ext hT (by simp) (fun _ h => .inl h)).wk (X' := []) (by simp)
  replace hS := hS.own hT (fun b hb => .inr (by simp at hb; omega))
  clear hT hbw
  refine W ?_
  refine WL_eff (OE_call rfl (evs1 rfl) (Field_any [115, 101, 114, 118, 101, 100] _ (hF.up hS))) rfl ?_
  rintro _ w1 ⟨rfl, hT⟩
  rw [fdS]
  replace sa := sa.up hT
  replace e1 := e1.up hT
  replace sb := sb.up hT
  replace e2 := e2.up hT
  replace hbv := hbv.up hT
  replace e3 := e3.up hT
  replace e12 := e12.up hT
  replace e13 := e13.up hT
  replace s3 := s3.up hT
  replace e14 := e14.up hT
  replace hS := hS.trans hT
  clear hT
  repeat' (first | refine W1 ?_ | (exfalso; omega) | refine WL_split rfl rfl (fun hg => ?_) (fun hg => ?_) | refine WL_splitB rfl rfl (fun hg => ?_) (fun hg => ?_) | refine WC_cond rfl (fun hc => ?_) (fun hc => ?_) | refine WC_condB rfl (fun hc => ?_) (fun hc => ?_))
  all_goals try (exfalso; first | (apply absurd rfl; assumption) | (simp at hc; done) | (simp at hg; done))
  repeat' (first | refine W1 ?_ | (exfalso; omega) | refine WL_split rfl rfl (fun hg => ?_) (fun hg => ?_) | refine WL_splitB rfl rfl (fun hg => ?_) (fun hg => ?_) | refine WC_cond rfl (fun hc => ?_) (fun hc => ?_) | refine WC_condB rfl (fun hc => ?_) (fun hc => ?_))
  all_goals try (exact absurd rfl (by assumption))
  refine WL_eff (OE_call rfl (evs1 rfl) (Uses_any yC _ _ kC ⟨_, rfl, hbv⟩ (hF.up hS))) rfl ?_
  rintro ru w1 ⟨hr, hT⟩
  rw [usC] at hr
  have hru := hr.slv0
  clear hr
  replace sa := sa.up hT
  replace e1 := e1.up hT
  replace sb := sb.up hT
  replace e2 := e2.up hT
  replace hbv := hbv.up hT
  replace e3 := e3.up hT
  replace e12 := e12.up hT
  replace e13 := e13.up hT
  replace s3 := s3.up hT
  replace e14 := e14.up hT
  replace hS := hS.trans hT
  clear hT
  refine W ?_
  refine WL_eff (OE_buildSlice (vs := [(0, .int .i64 0), (1, .int .i64 1), (2, .int .i64 2)]) rfl (buildSI3 _ _ _)) rfl ?_
  rintro rv w1 hN
  have hrv := hN.slv (X := []) (ys := [(0 : Int), 1, 2]) (by simp) rfl rfl (by simp [maxLen])
  have hT := NewSl.stp hN
  clear hN
  replace sa := sa.up hT
  replace e1 := e1.up hT
  replace sb := sb.up hT
  replace e2 := e2.up hT
  replace hbv := hbv.up hT
  replace e3 := e3.up hT
  replace e12 := e12.up hT
  replace e13 := e13.up hT
  replace s3 := s3.up hT
  replace e14 := e14.up hT
  replace hru := hru.up hT
  replace hS := hS.trans hT
  clear hT
  refine W ?_
  refine WL_eff (OE_call rfl (evs2 rfl rfl) (SameIntsL_any _ _ _ _ _ hru hrv)) rfl ?_
  rintro _ w1 ⟨rfl, hT⟩
  clear hru hrv
  replace sa := sa.up hT
  replace e1 := e1.up hT
  replace sb := sb.up hT
  replace e2 := e2.up hT
  replace hbv := hbv.up hT
  replace e3 := e3.up hT
  replace e12 := e12.up hT
  replace e13 := e13.up hT
  replace s3 := s3.up hT
  replace e14 := e14.up hT
  replace hS := hS.trans hT
  clear hT
  rw [decide_eq_true (rfl : [(0 : Int), 1, 2] = [0, 1, 2])]
  repeat' (first | refine W1 ?_ | (exfalso; omega) | refine WL_split rfl rfl (fun hg => ?_) (fun hg => ?_) | refine WL_splitB rfl rfl (fun hg => ?_) (fun hg => ?_) | refine WC_cond rfl (fun hc => ?_) (fun hc => ?_) | refine WC_condB rfl (fun hc => ?_) (fun hc => ?_))
  all_goals try (exact absurd rfl (by assumption))
  refine WL_eff (OE_call rfl (evs1 rfl) (CheckL_any _ rlA 0 m _ ⟨_, _, rfl, sb, sa⟩ (hF.up hS) (hS.cell (by simp) hm) ckA)) rfl ?_
  rintro _ w1 ⟨rfl, hT⟩
  replace sa := sa.up hT
  replace e1 := e1.up hT
  replace sb := sb.up hT
  replace e2 := e2.up hT
  replace hbv := hbv.up hT
  replace e3 := e3.up hT
  replace e12 := e12.up hT
  replace e13 := e13.up hT
  replace s3 := s3.up hT
  replace e14 := e14.up hT
  replace hS := hS.trans hT
  clear hT
  repeat' (first | refine W1 ?_ | (exfalso; omega) | refine WL_split rfl rfl (fun hg => ?_) (fun hg => ?_) | refine WL_splitB rfl rfl (fun hg => ?_) (fun hg => ?_) | refine WC_cond rfl (fun hc => ?_) (fun hc => ?_) | refine WC_condB rfl (fun hc => ?_) (fun hc => ?_))
  all_goals try (exact absurd rfl (by assumption))
  refine WL_eff (OE_call rfl (evs1 rfl) (CheckL_any _ rlB 21 m _ ⟨_, _, rfl, sb, s3⟩ (hF.up hS) (hS.cell (by simp) hm) ckB)) rfl ?_
  rintro _ w1 ⟨rfl, hT⟩
  replace sa := sa.up hT
  replace e1 := e1.up hT
  replace sb := sb.up hT
  replace e2 := e2.up hT
  replace hbv := hbv.up hT
  replace e3 := e3.up hT
  replace e12 := e12.up hT
  replace e13 := e13.up hT
  replace s3 := s3.up hT
  replace e14 := e14.up hT
  replace hS := hS.trans hT
  clear hT
  repeat' (first | refine W1 ?_ | (exfalso; omega) | refine WL_split rfl rfl (fun hg => ?_) (fun hg => ?_) | refine WL_splitB rfl rfl (fun hg => ?_) (fun hg => ?_) | refine WC_cond rfl (fun hc => ?_) (fun hc => ?_) | refine WC_condB rfl (fun hc => ?_) (fun hc => ?_))
  all_goals try (exact absurd rfl (by assumption))
  refine WL_eff (OE_call rfl (evs1 rfl) (CheckL_any _ rlD 7 m _ ⟨_, _, rfl, sb, sa⟩ (hF.up hS) (hS.cell (by simp) hm) ckD)) rfl ?_
  rintro _ w1 ⟨rfl, hT⟩
  replace sa := sa.up hT
  replace e1 := e1.up hT
  replace sb := sb.up hT
  replace e2 := e2.up hT
  replace hbv := hbv.up hT
  replace e3 := e3.up hT
  replace e12 := e12.up hT
  replace e13 := e13.up hT
  replace s3 := s3.up hT
  replace e14 := e14.up hT
  replace hS := hS.trans hT
  clear hT
  repeat' (first | refine W1 ?_ | (exfalso; omega) | refine WL_split rfl rfl (fun hg => ?_) (fun hg => ?_) | refine WL_splitB rfl rfl (fun hg => ?_) (fun hg => ?_) | refine WC_cond rfl (fun hc => ?_) (fun hc => ?_) | refine WC_condB rfl (fun hc => ?_) (fun hc => ?_))
  all_goals try (exact absurd rfl (by assumption))
  first | refine WQ_ret1 rfl rfl ?_ | refine WQ_ret2 rfl rfl rfl ?_ | refine WQ_ret3 rfl rfl rfl rfl ?_ | refine WQ_ret0 rfl ?_ | refine WQ_end0 rfl ?_
  exact .mk ⟨rfl, hS⟩
end Go.Proofs.YtgpibcgebpgmiaaGreatDoor


/-
What the listed variables of the parser's laws read as.
-/
namespace Go.Eng
open Go Go.RowKit Go.Proofs
set_option linter.unusedVariables false
/-- one listed variable -/
def Laid1 (P : Program) (w : World) (n : String) (d : DataW Unit) : Prop := ∃ g t cs fuel p, P.globalNamed n = some g ∧ (P.globals[g]?).map (·.type) = some t ∧ w.var? P n = some cs ∧ DataW.trod (fun _ => ()) P w 0 (fun _ => true) false fuel t cs.toList = some (d, p)
theorem laid1_of {P : Program} {w : World} : ∀ (l : List (String × DataW Unit)) (ps : List MemPlace), DataW.LaidVars P w l ps → ∀ (n : String) (d : DataW Unit), (n, d) ∈ l → Laid1 P w n d
  | [], _, _, n, d, h => by simp at h
  | (n0, d0) :: r, ps, hl, n, d, h => by
    obtain ⟨g, t, cs, fuel, p, q, h1, h2, h3, h4, h5, _⟩ := hl
    rcases List.mem_cons.1 h with h | h
    · cases h
      exact ⟨g, t, cs, fuel, p, h1, h2, h3, h4⟩
    · exact laid1_of r q h5 n d h
theorem laid1_tab {P : Program} {w : World} {name : String} {g t e n : Nat} {k : IntKind} {zs : List Int} (h : Laid1 P w name (Lib.tabData k zs)) (hg : P.globalNamed name = some g) (hty : (P.globals[g]?).map (·.type) = some t) (ht : P.underlying t = some (.array n e)) (he : P.underlying e = some (.int k)) (hce : P.cellsOf e = 1) (hct : P.cellsOf t = n) : Lib.TabIs P w name k zs := by
  obtain ⟨g', t', cs, fuel, p, hg', ht', hvar, hd⟩ := h
  obtain rfl := Option.some.inj (hg.symm.trans hg')
  obtain rfl := Option.some.inj (hty.symm.trans ht')
  unfold Lib.TabIs
  rw [hvar, ← Lib.cells_of_tab ht he hce hct hd]
theorem laid1_strs {P : Program} {W : World} {name : String} {g t e n : Nat} {ss : List Str} (hg : P.globalNamed name = some g) (ht : (P.globals[g]?).map (·.type) = some t) (hu : P.underlying t = some (.array n e)) (he : P.underlying e = some .string) (hc : P.cellsOf e = 1)
    (hn : ss.length = n) (h : Laid1 P W name (.agg (ss.map (fun s => DataW.lit (.string s))))) :
    ∀ i (hi : i < ss.length), W.cell? ⟨g, i, none⟩ = some (str ss[i]) := by
  obtain ⟨g0, t0, cs0, f0, p0, hg0, ht0, hv0, hd0⟩ := h
  obtain rfl := Option.some.inj (hg.symm.trans hg0)
  obtain rfl := Option.some.inj (ht.symm.trans ht0)
  obtain ⟨xs, m1, rfl, hx1, hlen, hn3, hel⟩ := DataW.trod_array hu hd0
  intro i hi
  have h1 := hel i (by omega)
  rw [hc, Nat.mul_one] at h1
  have hxi : xs[i]? = some (xs[i]'(by omega)) := List.getElem?_eq_getElem (by omega)
  rw [hxi] at h1
  obtain ⟨s, e1, e2, _⟩ := DataW.trod_string he h1
  have e3 : DataW.agg (ss.map (fun s => DataW.lit (.string s))) = (DataW.agg (xs.map (·.1)) : DataW Unit) := congrArg Prod.fst hx1
  simp only [DataW.agg.injEq] at e3
  have e4 : (DataW.lit (.string ss[i]) : DataW Unit) = (xs[i]'(by omega)).1 := by
    have h2 := congrArg (fun l => l[i]?) e3
    simp only [List.getElem?_map, hxi, List.getElem?_eq_getElem hi, Option.map_some, Option.some.injEq] at h2
    exact h2
  rw [e2] at e4
  simp only [DataW.lit.injEq, Lit.string.injEq] at e4
  have hv := World.var?_cell hg0 hv0 i
  rw [hv]
  have h5 : cs0.toList[i]? = some (.string s) := by
    have h6 := congrArg (fun l => l[0]?) e1
    simpa [List.getElem?_take, List.getElem?_drop] using h6
  rw [← Array.getElem?_toList, h5]
  congr 1
  simp only [str, e4]
theorem laid1_iface {P : Program} {W : World} {name : String} {g t : Nat} {ms : Array (String × TypeId)} {d : DataW Unit} (hg : P.globalNamed name = some g) (ht : (P.globals[g]?).map (·.type) = some t) (hu : P.underlying t = some (.interface ms)) (h : Laid1 P W name d) :
    ∃ er, W.cell? ⟨g, 0, none⟩ = some er ∧ (er = .nilIface ∨ ∃ te pe, er = .iface te pe) := by
  obtain ⟨g0, t0, cs0, f0, p0, hg0, ht0, hv0, hd0⟩ := h
  obtain rfl := Option.some.inj (hg.symm.trans hg0)
  obtain rfl := Option.some.inj (ht.symm.trans ht0)
  have hv := World.var?_cell hg0 hv0 0
  rw [hv]
  rw [← Array.getElem?_toList]
  generalize cs0.toList = cs at *
  cases f0 with
  | zero => simp [DataW.trod] at hd0
  | succ f =>
    unfold DataW.trod at hd0
    rw [hu] at hd0
    match cs, hd0 with
    | [], hd0 => simp at hd0
    | a :: b :: r, hd0 => simp at hd0
    | [x], hd0 =>
      refine ⟨x, rfl, ?_⟩
      cases x with
      | nilIface => exact .inl rfl
      | iface u v => exact .inr ⟨u, v, rfl⟩
      | _ => simp at hd0
end Go.Eng
namespace Go.Proofs.YtgpibcgebpgmiaaGreatDoor
open Go Go.Eng Go.RowKit Go.Proofs
set_option linter.unusedVariables false
abbrev laid7 : List (String × DataW Unit) := [("math/bits.deBruijn32tab", Rows.laid_math_bits_deBruijn32tab), ("math/bits.deBruijn64tab", Rows.laid_math_bits_deBruijn64tab), ("internal/strconv.uint64pow10", Rows.laid_internal_strconv_uint64pow10), ("strconv.ErrRange", Rows.laid_strconv_ErrRange), ("strconv.ErrSyntax", Rows.laid_strconv_ErrSyntax), ("rollbook/date.lengths", Rows.laid_rollbook_date_lengths), ("rollbook/types.fields", Rows.laid_rollbook_types_fields)]
theorem laid7_vars {W : World} (h : laidMetH Tryz.prog laid7 W) : ∃ ps, DataW.LaidVars Tryz.prog W laid7 ps := by
  rw [MakeChecks.laidMetH_plain _ _ _ (by kernel_rfl)] at h
  obtain ⟨ps, h, _⟩ := h
  exact ⟨ps, h⟩
theorem laid7_fields {W : World} (h : laidMetH Tryz.prog laid7 W) : SlV [] W flds fieldNames := by
  obtain ⟨ps, h⟩ := laid7_vars h
  have h1 := laid1_of _ _ h "rollbook/types.fields" Rows.laid_rollbook_types_fields (by simp [laid7])
  have hc := laid1_strs (g := 0) (t := 166) (e := 9) (n := 7) (ss := fieldNames) (by kernel_rfl) (by kernel_rfl) Tryz.underlying166 Tryz.underlying9 (by kernel_rfl) rfl h1
  have hlt : 0 < W.heap.size := block_lt_of_cell (a := ⟨0, 0, none⟩) (hc 0 (by decide))
  refine ⟨some ⟨0, 0, none⟩, 7, rfl, by decide, by decide, (fun h => by cases h), fun i hi => ⟨0, 0, [str fieldNames[i]], rfl, hlt, by simp, rfl, fun j u hu => ?_⟩⟩
  have hj : j = 0 := by
    have := (List.getElem?_eq_some_iff.1 hu).1
    simp at this
    exact this
  subst hj
  simp at hu
  subst hu
  have := hc i hi
  simpa [GoRep.k, Flat.k] using this
theorem laid7_tab {W : World} (h : laidMetH Tryz.prog laid7 W) : TabW W := by
  obtain ⟨ps, h⟩ := laid7_vars h
  have h1 := laid1_of _ _ h "internal/strconv.uint64pow10" Rows.laid_internal_strconv_uint64pow10 (by simp [laid7])
  exact laid1_tab (k := .u64) (zs := Lib.pow10Tab) (g := 2) (t := 236) (e := 97) (n := 20) h1 (by kernel_rfl) (by kernel_rfl) Tryz.underlying236 Tryz.underlying97 (by kernel_rfl) (by kernel_rfl)
theorem laid7_lengths {W : World} (h : laidMetH Tryz.prog laid7 W) : LenG W := by
  obtain ⟨ps, h⟩ := laid7_vars h
  have h1 := laid1_of _ _ h "rollbook/date.lengths" Rows.laid_rollbook_date_lengths (by simp [laid7])
  have h2 := laid1_tab (k := .i64) (zs := lengthsL) (g := 5) (t := 249) (e := 3) (n := 13) h1 (by kernel_rfl) (by kernel_rfl) Tryz.underlying249 Tryz.underlying3 (by kernel_rfl) (by kernel_rfl)
  intro i u hu
  have hi := (List.getElem?_eq_some_iff.1 hu).1
  rw [Lib.TabIs.cell h2 (g := 5) (by kernel_rfl) i hi]
  simp [List.getD, hu]
theorem laid7_err {W : World} (h : laidMetH Tryz.prog laid7 W) : ∃ er, W.cell? ⟨4, 0, none⟩ = some er ∧ (er = .nilIface ∨ ∃ te pe, er = .iface te pe) := by
  obtain ⟨ps, h⟩ := laid7_vars h
  have h1 := laid1_of _ _ h "strconv.ErrRange" Rows.laid_strconv_ErrRange (by simp [laid7])
  exact laid1_iface (g := 4) (t := 72) (by kernel_rfl) (by kernel_rfl) Tryz.underlying72 h1
end Go.Proofs.YtgpibcgebpgmiaaGreatDoor


/-
TypesSources, walked.
-/
namespace Go.Proofs.YtgpibcgebpgmiaaGreatDoor
open Go Go.Eng Go.RowKit Go.Proofs
set_option linter.unusedVariables false
theorem PR_loadRulNd {P : Program} {n : Nat} {e : Env} {w : World} {d : Option Nat} {ty : TypeId} {pos : String} {af : Array Edge} {g : Option (Nat × Bool)} {X : List Nat} {v : Value} {l : List Rul} {i : Nat} {ki kd : Value} {x : Operand} {t : TypeId} {D : TypeDesc} (o : Nat) (us : List Value) [hu : Und P t D] (hA : aggB D = true) [hsz : Siz P t 4] (hx : ev e x = some (.pointer (some (elAddr v i 13 o)))) (hs : SlV X w v l) (hi : i < l.length)
    (hl : us.length = 4) (hus : ∀ j u, us[j]? = some u → (rlC l[i] ki kd)[o + j]? = some u) (hc : ∀ j u, (rlC l[i] ki kd)[j]? = some u → w.cell? (elAddr v i 13 j) = some u) :
    PR P n ⟨d, .load t x, ty, pos, af, g⟩ e w (.agg us.toArray) := by
  obtain ⟨p, l', c, rfl⟩ := hs.isSome hi
  refine PR_loadN (cs := us) hA hx hl (fun j u hu => ?_)
  have := hc (o + j) u (hus j u hu)
  simpa [elAddr, Nat.add_assoc] using this
theorem due_cells (r : Rul) (ki kd : Value) : ∀ j u, (ndC r.due kd)[j]? = some u → (rlC r ki kd)[7 + j]? = some u := fun j u hu => by
  have hj := (List.getElem?_eq_some_iff.1 hu).1
  simp at hj
  match j, hj with
  | 0, _ | 1, _ | 2, _ | 3, _ => exact hu
theorem cnd_cells (r : Rul) (ki kd : Value) : ∀ j u, (ndC r.cnd ki)[j]? = some u → (rlC r ki kd)[3 + j]? = some u := fun j u hu => by
  have hj := (List.getElem?_eq_some_iff.1 hu).1
  simp at hj
  match j, hj with
  | 0, _ | 1, _ | 2, _ | 3, _ => exact hu
theorem buildSR2 (r q : Rul) (p : Option Addr) (a c : Nat) (p' : Option Addr) (a' c' : Nat) (p2 : Option Addr) (a2 c2 : Nat) (p3 : Option Addr) (a3 c3 : Nat) (w : World) : (Instr.buildSlice 23 2 #[(0, .agg (rlC r (.slice p a c) (.slice p' a' c')).toArray), (1, .agg (rlC q (.slice p2 a2 c2) (.slice p3 a3 c3)).toArray)]).run Tryz.prog w = .ok (.slice (some ⟨w.heap.size, 0, none⟩) 2 2) (w.alloc (.cells (rlC r (.slice p a c) (.slice p' a' c') ++ rlC q (.slice p2 a2 c2) (.slice p3 a3 c3)).toArray 38)) := by kernel_rfl
theorem repsR2 {X : List Nat} {w : World} {r q : Rul} {cs ds : List Value} (h : GoRep.rep X w r cs) (h2 : GoRep.rep X w q ds) : ∀ i (hi : i < [r, q].length) (hi' : i < [cs, ds].length), GoRep.rep X w [r, q][i] [cs, ds][i]
  | 0, _, _ => h
  | 1, _, _ => h2
set_option maxHeartbeats 4000000 in
theorem sourcesLaw (lv mv : Value) (l l2 : List Int) (er : Value) (m : Int) (w : World) (hF : SlV [] w flds fieldNames) (hm : w.cell? ⟨1, 0, none⟩ = some (.int .i64 m)) (hLG : LenG w) (hTW : TabW w) (hv4 : w.cell? ⟨4, 0, none⟩ = some er) (hev : er = .nilIface ∨ ∃ te pe, er = .iface te pe)
    (hs : SlV [] w lv l) (hl : ∀ a ∈ l, I64 a) (hs2 : SlV [] w mv l2) (hl2 : ∀ a ∈ l2, I64 a) :
    Calls Tryz.prog 4 #[lv, mv] w (Ret fun r w' => r = .bool true ∧ Stp [] w w') := by
  refine calls_of_WC2 (n := 110) Tryz.func4 rfl rfl rfl ?_
  refine W ?_
  refine WL_eff (OE_call rfl (evs1 rfl) (Rule14_nest [] lv l _ hs hl (by simp))) rfl ?_
  rintro _ w1 ⟨rl, ⟨ki, kd, rfl, hki, hkd⟩, hz1, hz2, hck, ⟨hn1, hn2⟩, hS⟩
  obtain ⟨r, rfl⟩ : ∃ r : RuleM, r.rul = rl := ⟨⟨rl.name, rl.frm, rl.on, rl.cnd, rl.due, rl.unl, rl.els⟩, rfl⟩
  have hrok := check_rule hck (show nestN r.cond ≤ 7 from Nat.le_trans hn1 (by decide)) (show nestN r.due ≤ 7 from Nat.le_trans hn2 (by decide))
  have hrl := rule_len hrok hn1 hn2
  refine W ?_
  refine WL_eff (OE_call rfl (evs1 rfl) (Rule14_nest [] mv l2 _ (hs2.up hS) hl2 (by simp))) rfl ?_
  rintro _ w2 ⟨rl2, ⟨kj, ke, rfl, hkj, hke⟩, hz3, hz4, hck2, ⟨hn3, hn4⟩, hT⟩
  obtain ⟨r2, rfl⟩ : ∃ r : RuleM, r.rul = rl2 := ⟨⟨rl2.name, rl2.frm, rl2.on, rl2.cnd, rl2.due, rl2.unl, rl2.els⟩, rfl⟩
  have hrok2 := check_rule hck2 (show nestN r2.cond ≤ 7 from Nat.le_trans hn3 (by decide)) (show nestN r2.due ≤ 7 from Nat.le_trans hn4 (by decide))
  have hrl2 := rule_len hrok2 hn3 hn4
  replace hki := hki.up hT
  replace hkd := hkd.up hT
  replace hS := hS.trans hT
  clear hT
  obtain ⟨p1, a1, rfl, -⟩ := id hki
  obtain ⟨p2, a2, rfl, -⟩ := id hkd
  obtain ⟨p3, a3, rfl, -⟩ := id hkj
  obtain ⟨p4, a4, rfl, -⟩ := id hke
  refine WL_eff (OE_buildSlice (vs := [(0, .agg (rlC r.rul _ _).toArray), (1, .agg (rlC r2.rul _ _).toArray)]) rfl (fun w => buildSR2 _ _ _ _ _ _ _ _ _ _ _ _ _ _ w)) rfl ?_
  rintro bv w3 hN
  have hT := NewSl.stp hN
  have hbv : SlV [] w3 bv ([r, r2].map RuleM.rul) := hN.slvG (css := [rlC r.rul _ _, rlC r2.rul _ _]) (by simp) rfl rfl rfl (repsR2 ⟨_, _, rfl, hki, hkd⟩ ⟨_, _, rfl, hkj, hke⟩) (by simp [maxLen])
  replace hS := hS.trans hT
  clear hN hT
  have hall : ∀ x ∈ [r, r2], RuleOk x ∧ checkT x.rul = 0 ∧ sizeN x.cond ≤ 400 ∧ sizeN x.due ≤ 400 ∧ nestN x.cond ≤ 3 ∧ nestN x.due ≤ 4 := fun x hx => by
    simp only [List.mem_cons, List.not_mem_nil, or_false] at hx
    rcases hx with rfl | rfl
    · exact ⟨hrok, hck, hz1, hz2, hn1, hn2⟩
    · exact ⟨hrok2, hck2, hz3, hz4, hn3, hn4⟩
  have hln : ([r, r2].flatMap (showRule dateS)).length ≤ 4000 := by simp; omega
  have hpp := parse_print dateS_ok (fun x hx => (hall x hx).1) hln
  have h2 : [r, r2].length = 2 := rfl
  generalize [r, r2] = rs at *
  clear hki hkd hkj hke hrok hrok2 hrl hrl2 hck hck2 hz1 hz2 hz3 hz4 hn1 hn2 hn3 hn4
  refine W ?_
  refine WL_eff (OE_call rfl (evs1 rfl) (Print_any [] bv rs _ (by simp) hbv (fun x hx => ⟨(hall x hx).1.frm, (hall x hx).1.cond, (hall x hx).1.due⟩) (by omega) (hTW.up hS))) rfl ?_
  rintro _ w4 ⟨rfl, hT⟩
  replace hbv := hbv.up hT
  replace hS := hS.trans hT
  clear hT
  refine WL_eff (OE_call rfl (evs1 rfl) (Parse_any [] _ er m _ (by simp) (hLG.up hS) (hS.cell (by simp) hm) (hS.cell (by simp) hv4) hev (by omega))) rfl ?_
  rintro rv w5 ⟨hr, hT⟩
  rw [hpp] at hr
  obtain ⟨gv, rfl, hgv⟩ := hr
  replace hbv := hbv.up hT
  replace hS := hS.trans hT
  clear hT hpp
  have hlr : (rs.map RuleM.rul).length = 2 := by rw [List.length_map, h2]
  repeat' (first | refine W1 ?_ | (exfalso; omega) | refine WL_split rfl rfl (fun hg => ?_) (fun hg => ?_) | refine WL_splitB rfl rfl (fun hg => ?_) (fun hg => ?_) | refine WC_cond rfl (fun hc => ?_) (fun hc => ?_) | refine WC_condB rfl (fun hc => ?_) (fun hc => ?_))
  have hgv0 := hgv
  have hbv0 := hbv
  have hS0 := hS
  refine WC_loop (σ := Nat) (fun i => [(5, bv), (6, gv), (9, .int .i64 i)]) (fun i w' => i ≤ 2 ∧ Stp [] w5 w') (fun i => 2 - i) 0 ⟨rfl, rfl, rfl, trivial⟩ ⟨Nat.zero_le _, Stp.refl _ _⟩ ?_
  clear hgv hbv hS
  rintro i w6 ⟨hi, hT⟩
  have hgv := hgv0.up hT
  have hbv := hbv0.up hT
  have hS := hS0.trans hT
  by_cases hlt : i < 2
  · have hli : i < (rs.map RuleM.rul).length := by omega
    have hmem : rs[i] ∈ rs := List.getElem_mem (by omega)
    obtain ⟨q1, q2, q3, q4, q5, q6⟩ := hall _ hmem
    have hri : (rs.map RuleM.rul)[i] = rs[i].rul := by simp
    obtain ⟨ka, kb, hka, hkb, hca⟩ := slvRul hgv hli
    obtain ⟨kc, ke, hkc, hke, hcb⟩ := slvRul hbv hli
    rw [hri] at hka hkb hkc hke
    obtain ⟨-, -, g3, g4⟩ := check_parts q2
    obtain ⟨t1, -⟩ := must_ok (by decide) g3
    obtain ⟨t2, -⟩ := must_ok (by decide) g4
    replace t1 : typeT rs[i].cond = 2 := t1
    replace t2 : typeT rs[i].due = 3 := t2
    have od1 : (if nestN rs[i].due ≤ 12 then typeT rs[i].due else 0) = 3 := by rw [if_pos (by omega), t2]
    have od2 : (if nestN rs[i].due ≤ 12 then (if typeT rs[i].due = 0 then 21 else 0) else 2) = (0 : Int) := by rw [if_pos (by omega), t2]; decide
    have oc1 : (if nestN rs[i].cond ≤ 12 then typeT rs[i].cond else 0) = 2 := by rw [if_pos (by omega), t1]
    have oc2 : (if nestN rs[i].cond ≤ 12 then (if typeT rs[i].cond = 0 then 21 else 0) else 2) = (0 : Int) := by rw [if_pos (by omega), t1]; decide
    clear g3 g4
    repeat' (first | refine W1 ?_ | (exfalso; omega) | refine WL_split rfl rfl (fun hg => ?_) (fun hg => ?_) | refine WL_splitB rfl rfl (fun hg => ?_) (fun hg => ?_) | refine WC_cond rfl (fun hc => ?_) (fun hc => ?_) | refine WC_condB rfl (fun hc => ?_) (fun hc => ?_))
    refine WL_pure (PR_loadRulNd 7 (ndC rs[i].rul.due kb) rfl rfl hgv hli rfl (by rw [hri]; exact due_cells _ ka kb) hca) rfl ?_
    refine WL_eff (OE_call rfl (evs1 rfl) (Of_any [] [] _ rs[i].rul.due _ ⟨kb, rfl, hkb⟩ (hF.up hS))) rfl ?_
    rintro _ w7 ⟨rfl, hT7⟩
    rw [show rs[i].rul.due = rs[i].due from rfl, od1, od2]
    replace hca : ∀ j u, (rlC (rs.map RuleM.rul)[i] ka kb)[j]? = some u → w7.cell? (elAddr gv i 13 j) = some u := fun j u hj => cell_on hgv hli (hT7.mono (by simp)) (hca j u hj)
    replace hcb : ∀ j u, (rlC (rs.map RuleM.rul)[i] kc ke)[j]? = some u → w7.cell? (elAddr bv i 13 j) = some u := fun j u hj => cell_on hbv hli (hT7.mono (by simp)) (hcb j u hj)
    replace hgv := hgv.up hT7; replace hbv := hbv.up hT7; replace hka := hka.up hT7; replace hkb := hkb.up hT7; replace hkc := hkc.up hT7; replace hke := hke.up hT7
    replace hS := hS.trans hT7
    replace hT := hT.trans hT7
    clear hT7
    refine W ?_
    refine WL_pure (PR_loadRulNd 3 (ndC rs[i].rul.cnd ka) rfl rfl hgv hli rfl (by rw [hri]; exact cnd_cells _ ka kb) hca) rfl ?_
    refine WL_eff (OE_call rfl (evs1 rfl) (Of_any [] [] _ rs[i].rul.cnd _ ⟨ka, rfl, hka⟩ (hF.up hS))) rfl ?_
    rintro _ w8 ⟨rfl, hT7⟩
    rw [show rs[i].rul.cnd = rs[i].cond from rfl, oc1, oc2]
    replace hca : ∀ j u, (rlC (rs.map RuleM.rul)[i] ka kb)[j]? = some u → w8.cell? (elAddr gv i 13 j) = some u := fun j u hj => cell_on hgv hli (hT7.mono (by simp)) (hca j u hj)
    replace hcb : ∀ j u, (rlC (rs.map RuleM.rul)[i] kc ke)[j]? = some u → w8.cell? (elAddr bv i 13 j) = some u := fun j u hj => cell_on hbv hli (hT7.mono (by simp)) (hcb j u hj)
    replace hgv := hgv.up hT7; replace hbv := hbv.up hT7; replace hka := hka.up hT7; replace hkb := hkb.up hT7; replace hkc := hkc.up hT7; replace hke := hke.up hT7
    replace hS := hS.trans hT7
    replace hT := hT.trans hT7
    clear hT7
    repeat' (first | refine W1 ?_ | (exfalso; omega) | refine WL_split rfl rfl (fun hg => ?_) (fun hg => ?_) | refine WL_splitB rfl rfl (fun hg => ?_) (fun hg => ?_) | refine WC_cond rfl (fun hc => ?_) (fun hc => ?_) | refine WC_condB rfl (fun hc => ?_) (fun hc => ?_))
    refine WL_pure (PR_loadRul rfl rfl hgv hli hca) rfl ?_
    refine W ?_
    refine WL_eff (OE_call rfl (evs1 rfl) (Check14_any _ (rs.map RuleM.rul)[i] m _ ⟨ka, kb, rfl, by rw [hri]; exact hka, by rw [hri]; exact hkb⟩ (hF.up hS) (hS.cell (by simp) hm))) rfl ?_
    rintro _ w9 ⟨rfl, hT7⟩
    rw [hri, q2]
    replace hca : ∀ j u, (rlC (rs.map RuleM.rul)[i] ka kb)[j]? = some u → w9.cell? (elAddr gv i 13 j) = some u := fun j u hj => cell_on hgv hli (hT7.mono (by simp)) (hca j u hj)
    replace hcb : ∀ j u, (rlC (rs.map RuleM.rul)[i] kc ke)[j]? = some u → w9.cell? (elAddr bv i 13 j) = some u := fun j u hj => cell_on hbv hli (hT7.mono (by simp)) (hcb j u hj)
    replace hgv := hgv.up hT7; replace hbv := hbv.up hT7; replace hka := hka.up hT7; replace hkb := hkb.up hT7; replace hkc := hkc.up hT7; replace hke := hke.up hT7
    replace hS := hS.trans hT7
    replace hT := hT.trans hT7
    clear hT7
    repeat' (first | refine W1 ?_ | (exfalso; omega) | refine WL_split rfl rfl (fun hg => ?_) (fun hg => ?_) | refine WL_splitB rfl rfl (fun hg => ?_) (fun hg => ?_) | refine WC_cond rfl (fun hc => ?_) (fun hc => ?_) | refine WC_condB rfl (fun hc => ?_) (fun hc => ?_))
    refine WC_drawn 14 [] [] [(0, 0), (1, 0), (2, 0), (3, 0), (4, 1), (6, 0), (7, 0), (8, 0), (9, 0), (10, 1), (5, 2), (11, 2), (12, 2), (13, 0)] rfl mixed (by kernel_rfl) (by kernel_rfl) (by kernel_rfl) (fun w1 hS1 => ?_)
    replace hca : ∀ j u, (rlC (rs.map RuleM.rul)[i] ka kb)[j]? = some u → w1.cell? (elAddr gv i 13 j) = some u := fun j u hj => cell_on hgv hli (hS1.mono (by simp)) (hca j u hj)
    replace hcb : ∀ j u, (rlC (rs.map RuleM.rul)[i] kc ke)[j]? = some u → w1.cell? (elAddr bv i 13 j) = some u := fun j u hj => cell_on hbv hli (hS1.mono (by simp)) (hcb j u hj)
    replace hgv := hgv.up hS1; replace hbv := hbv.up hS1; replace hka := hka.up hS1; replace hkb := hkb.up hS1; replace hkc := hkc.up hS1; replace hke := hke.up hS1
    replace hS := hS.trans hS1
    replace hT := hT.trans hS1
    clear hS1
    refine D ?_
    refine WD_read rfl trivial (fun w' hS' => PR_loadRulNd 7 (ndC rs[i].rul.due kb) rfl rfl (hgv.up hS') hli rfl (by rw [hri]; exact due_cells _ ka kb) (fun j u hj => cell_on hgv hli (hS'.mono (by simp)) (hca j u hj))) rfl ?_
    refine D ?_
    refine WD_read rfl trivial (fun w' hS' => PR_loadRulNd 7 (ndC rs[i].rul.due ke) rfl rfl (hbv.up hS') hli rfl (by rw [hri]; exact due_cells _ kc ke) (fun j u hj => cell_on hbv hli (hS'.mono (by simp)) (hcb j u hj))) rfl ?_
    refine D ?_
    refine WD_eff rfl trivial (OE_call rfl (evs1 rfl) (Uses_any rs[i].rul.due _ _ (okN_of_size _ (show sizeN rs[i].due ≤ _ by omega)) ⟨_, rfl, hkb⟩ (hF.up hS))) (fun _ _ h => h.2) rfl ?_
    rintro u1 w21 ⟨hu1, hTT⟩
    replace hu1 := hu1.slv0
    replace hca : ∀ j u, (rlC (rs.map RuleM.rul)[i] ka kb)[j]? = some u → w21.cell? (elAddr gv i 13 j) = some u := fun j u hj => cell_on hgv hli (hTT.mono (by simp)) (hca j u hj)
    replace hcb : ∀ j u, (rlC (rs.map RuleM.rul)[i] kc ke)[j]? = some u → w21.cell? (elAddr bv i 13 j) = some u := fun j u hj => cell_on hbv hli (hTT.mono (by simp)) (hcb j u hj)
    replace hgv := hgv.up hTT; replace hbv := hbv.up hTT; replace hka := hka.up hTT; replace hkb := hkb.up hTT; replace hkc := hkc.up hTT; replace hke := hke.up hTT
    replace hS := hS.trans hTT
    replace hT := hT.trans hTT
    clear hTT
    refine D ?_
    refine WD_eff rfl trivial (OE_call rfl (evs1 rfl) (Uses_any rs[i].rul.due _ _ (okN_of_size _ (show sizeN rs[i].due ≤ _ by omega)) ⟨_, rfl, hke⟩ (hF.up hS))) (fun _ _ h => h.2) rfl ?_
    rintro u2 w22 ⟨hu2, hTT⟩
    replace hu2 := hu2.slv0
    replace hca : ∀ j u, (rlC (rs.map RuleM.rul)[i] ka kb)[j]? = some u → w22.cell? (elAddr gv i 13 j) = some u := fun j u hj => cell_on hgv hli (hTT.mono (by simp)) (hca j u hj)
    replace hcb : ∀ j u, (rlC (rs.map RuleM.rul)[i] kc ke)[j]? = some u → w22.cell? (elAddr bv i 13 j) = some u := fun j u hj => cell_on hbv hli (hTT.mono (by simp)) (hcb j u hj)
    replace hgv := hgv.up hTT; replace hbv := hbv.up hTT; replace hka := hka.up hTT; replace hkb := hkb.up hTT; replace hkc := hkc.up hTT; replace hke := hke.up hTT; replace hu1 := hu1.up hTT
    replace hS := hS.trans hTT
    replace hT := hT.trans hTT
    clear hTT
    refine D ?_
    refine WD_eff rfl trivial (OE_call rfl (evs2 rfl rfl) (SameIntsL_any _ _ _ _ _ hu1 hu2)) (fun _ _ h => h.2) rfl ?_
    rintro _ w30 ⟨rfl, hTT⟩
    replace hca : ∀ j u, (rlC (rs.map RuleM.rul)[i] ka kb)[j]? = some u → w30.cell? (elAddr gv i 13 j) = some u := fun j u hj => cell_on hgv hli (hTT.mono (by simp)) (hca j u hj)
    replace hcb : ∀ j u, (rlC (rs.map RuleM.rul)[i] kc ke)[j]? = some u → w30.cell? (elAddr bv i 13 j) = some u := fun j u hj => cell_on hbv hli (hTT.mono (by simp)) (hcb j u hj)
    replace hgv := hgv.up hTT; replace hbv := hbv.up hTT; replace hka := hka.up hTT; replace hkb := hkb.up hTT; replace hkc := hkc.up hTT; replace hke := hke.up hTT
    replace hS := hS.trans hTT
    replace hT := hT.trans hTT
    clear hTT
    rw [decide_eq_true (rfl : usesF rs[i].rul.due = usesF rs[i].rul.due)]
    refine D ?_
    repeat' (first | refine W1 ?_ | (exfalso; omega) | refine WL_split rfl rfl (fun hg => ?_) (fun hg => ?_) | refine WL_splitB rfl rfl (fun hg => ?_) (fun hg => ?_) | refine WC_cond rfl (fun hc => ?_) (fun hc => ?_) | refine WC_condB rfl (fun hc => ?_) (fun hc => ?_))
    refine WC_drawn 18 [] [] [(0, 0), (1, 0), (2, 0), (3, 0), (4, 0), (5, 0), (6, 0), (7, 1), (9, 0), (10, 0), (11, 0), (12, 0), (13, 1), (8, 2), (14, 2), (15, 2), (16, 0), (17, 0)] rfl mixed (by kernel_rfl) (by kernel_rfl) (by kernel_rfl) (fun w1 hS1 => ?_)
    replace hca : ∀ j u, (rlC (rs.map RuleM.rul)[i] ka kb)[j]? = some u → w1.cell? (elAddr gv i 13 j) = some u := fun j u hj => cell_on hgv hli (hS1.mono (by simp)) (hca j u hj)
    replace hcb : ∀ j u, (rlC (rs.map RuleM.rul)[i] kc ke)[j]? = some u → w1.cell? (elAddr bv i 13 j) = some u := fun j u hj => cell_on hbv hli (hS1.mono (by simp)) (hcb j u hj)
    replace hgv := hgv.up hS1; replace hbv := hbv.up hS1; replace hka := hka.up hS1; replace hkb := hkb.up hS1; replace hkc := hkc.up hS1; replace hke := hke.up hS1
    replace hS := hS.trans hS1
    replace hT := hT.trans hS1
    clear hS1
    refine D ?_
    refine WD_read rfl rfl (fun w' hS' => PR_loadRulNd 3 (ndC rs[i].rul.cnd ka) rfl rfl (hgv.up hS') hli rfl (by rw [hri]; exact cnd_cells _ ka kb) (fun j u hj => cell_on hgv hli (hS'.mono (by simp)) (hca j u hj))) rfl ?_
    refine D ?_
    refine WD_read rfl rfl (fun w' hS' => PR_loadRulNd 3 (ndC rs[i].rul.cnd kc) rfl rfl (hbv.up hS') hli rfl (by rw [hri]; exact cnd_cells _ kc ke) (fun j u hj => cell_on hbv hli (hS'.mono (by simp)) (hcb j u hj))) rfl ?_
    refine D ?_
    refine WD_eff rfl rfl (OE_call rfl (evs1 rfl) (Uses_any rs[i].rul.cnd _ _ (okN_of_size _ (show sizeN rs[i].cond ≤ _ by omega)) ⟨_, rfl, hka⟩ (hF.up hS))) (fun _ _ h => h.2) rfl ?_
    rintro u3 w23 ⟨hu3, hTT⟩
    replace hu3 := hu3.slv0
    replace hca : ∀ j u, (rlC (rs.map RuleM.rul)[i] ka kb)[j]? = some u → w23.cell? (elAddr gv i 13 j) = some u := fun j u hj => cell_on hgv hli (hTT.mono (by simp)) (hca j u hj)
    replace hcb : ∀ j u, (rlC (rs.map RuleM.rul)[i] kc ke)[j]? = some u → w23.cell? (elAddr bv i 13 j) = some u := fun j u hj => cell_on hbv hli (hTT.mono (by simp)) (hcb j u hj)
    replace hgv := hgv.up hTT; replace hbv := hbv.up hTT; replace hka := hka.up hTT; replace hkb := hkb.up hTT; replace hkc := hkc.up hTT; replace hke := hke.up hTT
    replace hS := hS.trans hTT
    replace hT := hT.trans hTT
    clear hTT
    refine D ?_
    refine WD_eff rfl rfl (OE_call rfl (evs1 rfl) (Uses_any rs[i].rul.cnd _ _ (okN_of_size _ (show sizeN rs[i].cond ≤ _ by omega)) ⟨_, rfl, hkc⟩ (hF.up hS))) (fun _ _ h => h.2) rfl ?_
    rintro u4 w24 ⟨hu4, hTT⟩
    replace hu4 := hu4.slv0
    replace hca : ∀ j u, (rlC (rs.map RuleM.rul)[i] ka kb)[j]? = some u → w24.cell? (elAddr gv i 13 j) = some u := fun j u hj => cell_on hgv hli (hTT.mono (by simp)) (hca j u hj)
    replace hcb : ∀ j u, (rlC (rs.map RuleM.rul)[i] kc ke)[j]? = some u → w24.cell? (elAddr bv i 13 j) = some u := fun j u hj => cell_on hbv hli (hTT.mono (by simp)) (hcb j u hj)
    replace hgv := hgv.up hTT; replace hbv := hbv.up hTT; replace hka := hka.up hTT; replace hkb := hkb.up hTT; replace hkc := hkc.up hTT; replace hke := hke.up hTT; replace hu3 := hu3.up hTT
    replace hS := hS.trans hTT
    replace hT := hT.trans hTT
    clear hTT
    refine D ?_
    refine WD_eff rfl rfl (OE_call rfl (evs2 rfl rfl) (SameIntsL_any _ _ _ _ _ hu3 hu4)) (fun _ _ h => h.2) rfl ?_
    rintro _ w40 ⟨rfl, hTT⟩
    replace hca : ∀ j u, (rlC (rs.map RuleM.rul)[i] ka kb)[j]? = some u → w40.cell? (elAddr gv i 13 j) = some u := fun j u hj => cell_on hgv hli (hTT.mono (by simp)) (hca j u hj)
    replace hcb : ∀ j u, (rlC (rs.map RuleM.rul)[i] kc ke)[j]? = some u → w40.cell? (elAddr bv i 13 j) = some u := fun j u hj => cell_on hbv hli (hTT.mono (by simp)) (hcb j u hj)
    replace hgv := hgv.up hTT; replace hbv := hbv.up hTT; replace hka := hka.up hTT; replace hkb := hkb.up hTT; replace hkc := hkc.up hTT; replace hke := hke.up hTT
    replace hS := hS.trans hTT
    replace hT := hT.trans hTT
    clear hTT
    rw [decide_eq_true (rfl : usesF rs[i].rul.cnd = usesF rs[i].rul.cnd)]
    refine D ?_
    repeat' (first | refine W1 ?_ | (exfalso; omega) | refine WL_split rfl rfl (fun hg => ?_) (fun hg => ?_) | refine WL_splitB rfl rfl (fun hg => ?_) (fun hg => ?_) | refine WC_cond rfl (fun hc => ?_) (fun hc => ?_) | refine WC_condB rfl (fun hc => ?_) (fun hc => ?_))
    exact WQ_loop (i + 1) ⟨rfl, rfl, rfl, trivial⟩ ⟨by omega, hT⟩ (by omega)
  · repeat' (first | refine W1 ?_ | (exfalso; omega) | refine WL_split rfl rfl (fun hg => ?_) (fun hg => ?_) | refine WL_splitB rfl rfl (fun hg => ?_) (fun hg => ?_) | refine WC_cond rfl (fun hc => ?_) (fun hc => ?_) | refine WC_condB rfl (fun hc => ?_) (fun hc => ?_))
    refine WL_eff (OE_call rfl (evs0) (lives14_any m _ (hF.up hS) (hS.cell (by simp) hm))) rfl ?_
    rintro _ w9 ⟨rfl, hT9⟩
    refine W ?_
    first | refine WQ_ret1 rfl rfl ?_ | refine WQ_ret2 rfl rfl rfl ?_ | refine WQ_ret3 rfl rfl rfl rfl ?_ | refine WQ_ret0 rfl ?_ | refine WQ_end0 rfl ?_
    exact .mk ⟨rfl, hS.trans hT9⟩
end Go.Proofs.YtgpibcgebpgmiaaGreatDoor

