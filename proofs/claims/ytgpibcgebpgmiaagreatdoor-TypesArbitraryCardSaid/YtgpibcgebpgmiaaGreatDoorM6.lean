/-
Merged by program out of own texts: Liv4, Arb1, Arg19, Arg20.
-/
import Derived.Test.YtgpibcgebpgmiaaGreatDoorM5

namespace Go.Proofs.YtgpibcgebpgmiaaGreatDoor
open Go Go.Eng Go.RowKit
set_option linter.unusedVariables false
theorem OfL_any (v : Value) (x : Nd) (t e : Int) (w : World) (hx : NdV [] w v x) (hF : SlV [] w flds fieldNames) (h1 : (if nestN x ≤ 12 then typeT x else 0) = t) (h2 : (if nestN x ≤ 12 then (if typeT x = 0 then 21 else 0) else 2) = e) :
    Calls Tryz.prog 17 #[v] w (Ret fun r w' => r = .tuple #[.int .i64 t, .int .i64 e] ∧ Stp [] w w') := by
  have := Of_any [] [] v x w hx hF
  rw [h1, h2] at this
  exact this
theorem CheckL_any (v : Value) (r : Rul) (c m : Int) (w : World) (hv : RulV [] w v r) (hF : SlV [] w flds fieldNames) (hm : w.cell? ⟨1, 0, none⟩ = some (.int .i64 m)) (h : checkT r = c) :
    Calls Tryz.prog 18 #[v] w (Ret fun r' w' => r' = .int .i64 c ∧ Stp [] w w') := by
  have := Check14_any v r m w hv hF hm
  rw [h] at this
  exact this
theorem buildN03 (k : Int) (p : Option Addr) (l c : Nat) (w : World) : (Instr.build 36 #[(0, .int .i64 k), (3, .slice p l c)]).run Tryz.prog w = .ok (.agg #[.int .i64 k, .int .i64 0, str [], .slice p l c]) w := by kernel_rfl
theorem buildRlL (a o : Str) (k n : Int) (s : Str) (p : Option Addr) (l c : Nat) (k' n' : Int) (s' : Str) (p' : Option Addr) (l' c' : Nat) (w : World) : (Instr.build 38 #[(0, str a), (2, str o), (3, .agg #[.int .i64 k, .int .i64 n, str s, .slice p l c]), (4, .agg #[.int .i64 k', .int .i64 n', str s', .slice p' l' c'])]).run Tryz.prog w = .ok (.agg #[str a, .int .i64 0, str o, .int .i64 k, .int .i64 n, str s, .slice p l c, .int .i64 k', .int .i64 n', str s', .slice p' l' c', str [], str []]) w := by kernel_rfl
set_option maxHeartbeats 2000000 in
theorem lives14_any (m : Int) (w : World) (hF : SlV [] w flds fieldNames) (hm : w.cell? ⟨1, 0, none⟩ = some (.int .i64 m)) : Calls Tryz.prog 21 #[] w (Ret fun r w' => r = .bool true ∧ Stp [] w w') := by
  have oA1 : (if nestN yA ≤ 12 then typeT yA else 0) = 3 := by rw [ofA.1, ofA.2.1]; decide
  have oA2 : (if nestN yA ≤ 12 then (if typeT yA = 0 then 21 else 0) else 2) = (0 : Int) := by rw [ofA.1, ofA.2.1]; decide
  have oB1 : (if nestN yB ≤ 12 then typeT yB else 0) = 2 := by rw [ofB.1, ofB.2.1]; decide
  have oB2 : (if nestN yB ≤ 12 then (if typeT yB = 0 then 21 else 0) else 2) = (0 : Int) := by rw [ofB.1, ofB.2.1]; decide
  have oC1 : (if nestN yC ≤ 12 then typeT yC else 0) = 3 := by rw [ofC.1, ofC.2.1]; decide
  have oC2 : (if nestN yC ≤ 12 then (if typeT yC = 0 then 21 else 0) else 2) = (0 : Int) := by rw [ofC.1, ofC.2.1]; decide
  have oD1 : (if nestN yD ≤ 12 then typeT yD else 0) = 0 := by rw [ofD.1, ofD.2.1]; decide
  have oD2 : (if nestN yD ≤ 12 then (if typeT yD = 0 then 21 else 0) else 2) = (21 : Int) := by rw [ofD.1, ofD.2.1]; decide
  have kC : okN yC = true := okN_of_size yC (by rw [ofC.2.2]; decide)
  have hS : Stp [] w w := Stp.refl _ _
  refine calls_of_WC0 (n := 127) Tryz.func21 rfl rfl ?_
  refine W ?_
  refine WL_eff (OE_call rfl (evs1 rfl) (fieldL_any [100, 97, 121] _)) rfl ?_
  rintro rh1 w1 ⟨h1, hT⟩
  replace hS := hS.trans hT
  clear hT
  replace h1 := h1 []
  refine W ?_
  refine WL_eff (OE_call rfl (evs1 rfl) (numberL_any 3 _)) rfl ?_
  rintro rh2 w1 ⟨h2, hT⟩
  replace h1 := h1.up hT
  replace hS := hS.trans hT
  clear hT
  replace h2 := h2 []
  refine W ?_
  refine WL_eff (OE_call rfl (evs4 rfl rfl rfl rfl) (twoL_any [] 7 [100, 97, 121, 115] _ _ _ _ _ (by simp) h1 h2)) rfl ?_
  rintro rh3 w1 ⟨h3, hT⟩
  replace hS := hS.trans hT
  clear hT
  clear h1 h2
  obtain ⟨ka, rfl, sa⟩ := h3
  refine W ?_
  refine WL_eff OE_alloc rfl ?_
  rintro _ w1 ⟨b1, rfl, hb, e0, hT⟩
  refine WL_eff0 (OE_storeA (us := ndC yA ka) rfl rfl rfl rfl (ndC_one sa) e0 rfl) ?_
  rintro _ w2 ⟨hT2, e1⟩
  replace hT := hT.own hT2 (fun b hb => .inr (by simp at hb; omega))
  clear hT2 e0 hb
  replace sa := sa.up hT
  replace hS := hS.trans hT
  clear hT
  refine W ?_
  refine WL_eff (OE_call rfl (evs1 rfl) (fieldL_any [100, 97, 121] _)) rfl ?_
  rintro rh1 w1 ⟨h1, hT⟩
  replace sa := sa.up hT
  replace e1 := e1.up hT
  replace hS := hS.trans hT
  clear hT
  replace h1 := h1 []
  refine W ?_
  refine WL_eff (OE_call rfl (evs1 rfl) (fieldL_any [115, 101, 114, 118, 101, 100] _)) rfl ?_
  rintro rh2 w1 ⟨h2, hT⟩
  replace sa := sa.up hT
  replace e1 := e1.up hT
  replace h1 := h1.up hT
  replace hS := hS.trans hT
  clear hT
  replace h2 := h2 []
  refine W ?_
  refine WL_eff (OE_call rfl (evs4 rfl rfl rfl rfl) (twoL_any [] 10 [98, 101, 116, 119, 101, 101, 110] _ _ _ _ _ (by simp) h1 h2)) rfl ?_
  rintro rh3 w1 ⟨h3, hT⟩
  replace sa := sa.up hT
  replace e1 := e1.up hT
  replace hS := hS.trans hT
  clear hT
  clear h1 h2
  refine W ?_
  refine WL_eff (OE_call rfl (evs1 rfl) (numberL_any 14 _)) rfl ?_
  rintro rh4 w1 ⟨h4, hT⟩
  replace sa := sa.up hT
  replace e1 := e1.up hT
  replace h3 := h3.up hT
  replace hS := hS.trans hT
  clear hT
  replace h4 := h4 []
  refine W ?_
  refine WL_eff (OE_call rfl (evs4 rfl rfl rfl rfl) (twoL_any [] 6 [62] _ _ _ _ _ (by simp) h3 h4)) rfl ?_
  rintro rh5 w1 ⟨h5, hT⟩
  replace sa := sa.up hT
  replace e1 := e1.up hT
  replace hS := hS.trans hT
  clear hT
  clear h3 h4
  obtain ⟨kb, rfl, sb⟩ := h5
  refine W ?_
  refine WL_eff OE_alloc rfl ?_
  rintro _ w1 ⟨b2, rfl, hb, e0, hT⟩
  refine WL_eff0 (OE_storeA (us := ndC yB kb) rfl rfl rfl rfl (ndC_one sb) e0 rfl) ?_
  rintro _ w2 ⟨hT2, e2⟩
  replace hT := hT.own hT2 (fun b hb => .inr (by simp at hb; omega))
  clear hT2 e0 hb
  replace sa := sa.up hT
  replace e1 := e1.up hT
  replace sb := sb.up hT
  replace hS := hS.trans hT
  clear hT
  refine W ?_
  refine WL_eff (OE_call rfl (evs1 rfl) (fieldL_any [101, 120, 116, 114, 97] _)) rfl ?_
  rintro rh1 w1 ⟨h1, hT⟩
  replace sa := sa.up hT
  replace e1 := e1.up hT
  replace sb := sb.up hT
  replace e2 := e2.up hT
  replace hS := hS.trans hT
  clear hT
  replace h1 := h1 []
  refine W ?_
  refine WL_eff (OE_call rfl (evs1 rfl) (numberL_any 0 _)) rfl ?_
  rintro rh2 w1 ⟨h2, hT⟩
  replace sa := sa.up hT
  replace e1 := e1.up hT
  replace sb := sb.up hT
  replace e2 := e2.up hT
  replace h1 := h1.up hT
  replace hS := hS.trans hT
  clear hT
  replace h2 := h2 []
  refine W ?_
  refine WL_eff (OE_call rfl (evs4 rfl rfl rfl rfl) (twoL_any [] 6 [61] _ _ _ _ _ (by simp) h1 h2)) rfl ?_
  rintro rh3 w1 ⟨h3, hT⟩
  replace sa := sa.up hT
  replace e1 := e1.up hT
  replace sb := sb.up hT
  replace e2 := e2.up hT
  replace hS := hS.trans hT
  clear hT
  clear h1 h2
  refine W ?_
  refine WL_eff (OE_call rfl (evs1 rfl) (fieldL_any [100, 97, 121] _)) rfl ?_
  rintro rh4 w1 ⟨h4, hT⟩
  replace sa := sa.up hT
  replace e1 := e1.up hT
  replace sb := sb.up hT
  replace e2 := e2.up hT
  replace h3 := h3.up hT
  replace hS := hS.trans hT
  clear hT
  replace h4 := h4 []
  refine W ?_
  refine WL_eff (OE_call rfl (evs1 rfl) (fieldL_any [115, 101, 114, 118, 101, 100] _)) rfl ?_
  rintro rh5 w1 ⟨h5, hT⟩
  replace sa := sa.up hT
  replace e1 := e1.up hT
  replace sb := sb.up hT
  replace e2 := e2.up hT
  replace h3 := h3.up hT
  replace h4 := h4.up hT
  replace hS := hS.trans hT
  clear hT
  replace h5 := h5 []
  obtain ⟨k0, rfl, s0⟩ := h3
  obtain ⟨k1, rfl, s1⟩ := h4
  obtain ⟨k2, rfl, s2⟩ := h5
  obtain ⟨p0, c0, rfl, -⟩ := id s0
  obtain ⟨p1, c1, rfl, -⟩ := id s1
  obtain ⟨p2, c2, rfl, -⟩ := id s2
  refine W ?_
  refine WL_eff (OE_buildSlice (vs := [(0, .agg #[.int .i64 6, .int .i64 0, str [61], .slice p0 2 c0]), (1, .agg #[.int .i64 4, .int .i64 0, str [100, 97, 121], .slice p1 0 c1]), (2, .agg #[.int .i64 4, .int .i64 0, str [115, 101, 114, 118, 101, 100], .slice p2 0 c2])]) rfl (buildSN3 _ _ _ _ _ _ _ _ _ _ _ _ _ _ _ _ _ _)) rfl ?_
  rintro bv w3 hN
  have hbv : SlV [] w3 bv yC.kids := hN.slvG (X := []) (css := [ndC yC1 _, ndC (.mk 4 0 [100, 97, 121] []) _, ndC (.mk 4 0 [115, 101, 114, 118, 101, 100] []) _]) (by simp) rfl rfl rfl (reps3 (y0 := yC1) (y1 := .mk 4 0 [100, 97, 121] []) (y2 := .mk 4 0 [115, 101, 114, 118, 101, 100] []) s0 s1 s2) (show 3 ≤ maxLen by decide)
  have hT := NewSl.stp hN
  clear hN s0 s1 s2
  replace sa := sa.up hT
  replace e1 := e1.up hT
  replace sb := sb.up hT
  replace e2 := e2.up hT
  replace hS := hS.trans hT
  clear hT
  obtain ⟨p, c, rfl, -⟩ := id hbv
  apply WL_build (vs := [(0, .int .i64 9), (3, .slice p 3 c)]) rfl (buildN03 _ _ _ _) rfl
  refine W ?_
  refine WL_eff OE_alloc rfl ?_
  rintro _ w1 ⟨b3, rfl, hb, e0, hT⟩
  refine WL_eff0 (OE_storeA (us := ndC yC (.slice p 3 c)) rfl rfl rfl rfl (ndC_one (x := yC) hbv) e0 rfl) ?_
  rintro _ w2 ⟨hT2, e3⟩
  replace hT := hT.own hT2 (fun b hb => .inr (by simp at hb; omega))
  clear hT2 e0 hb
  replace sa := sa.up hT
  replace e1 := e1.up hT
  replace sb := sb.up hT
  replace e2 := e2.up hT
  replace hbv := hbv.up hT
  replace hS := hS.trans hT
  clear hT
  refine W ?_
  refine WL_eff (OE_call rfl (evs1 rfl) (OfL_any _ yA _ _ _ ⟨ka, rfl, sa⟩ (hF.up hS) oA1 oA2)) rfl ?_
  rintro _ w1 ⟨rfl, hT⟩
  replace sa := sa.up hT
  replace e1 := e1.up hT
  replace sb := sb.up hT
  replace e2 := e2.up hT
  replace hbv := hbv.up hT
  replace e3 := e3.up hT
  replace hS := hS.trans hT
  clear hT
  refine W ?_
  refine WL_eff (OE_call rfl (evs1 rfl) (OfL_any _ yB _ _ _ ⟨kb, rfl, sb⟩ (hF.up hS) oB1 oB2)) rfl ?_
  rintro _ w1 ⟨rfl, hT⟩
  replace sa := sa.up hT
  replace e1 := e1.up hT
  replace sb := sb.up hT
  replace e2 := e2.up hT
  replace hbv := hbv.up hT
  replace e3 := e3.up hT
  replace hS := hS.trans hT
  clear hT
  refine W ?_
  refine WL_eff (OE_call rfl (evs1 rfl) (fieldL_any [97, 109, 111, 117, 110, 116] _)) rfl ?_
  rintro rh1 w1 ⟨h1, hT⟩
  replace sa := sa.up hT
  replace e1 := e1.up hT
  replace sb := sb.up hT
  replace e2 := e2.up hT
  replace hbv := hbv.up hT
  replace e3 := e3.up hT
  replace hS := hS.trans hT
  clear hT
  replace h1 := h1 []
  refine W ?_
  refine WL_eff (OE_call rfl (evs1 rfl) (fieldL_any [100, 97, 121] _)) rfl ?_
  rintro rh2 w1 ⟨h2, hT⟩
  replace sa := sa.up hT
  replace e1 := e1.up hT
  replace sb := sb.up hT
  replace e2 := e2.up hT
  replace hbv := hbv.up hT
  replace e3 := e3.up hT
  replace h1 := h1.up hT
  replace hS := hS.trans hT
  clear hT
  replace h2 := h2 []
  refine W ?_
  refine WL_eff (OE_call rfl (evs4 rfl rfl rfl rfl) (twoL_any [] 6 [43] _ _ _ _ _ (by simp) h1 h2)) rfl ?_
  rintro rh3 w1 ⟨h3, hT⟩
  replace sa := sa.up hT
  replace e1 := e1.up hT
  replace sb := sb.up hT
  replace e2 := e2.up hT
  replace hbv := hbv.up hT
  replace e3 := e3.up hT
  replace hS := hS.trans hT
  clear hT
  clear h1 h2
  refine W ?_
  refine WL_eff (OE_call rfl (evs1 rfl) (OfL_any _ yD _ _ _ h3 (hF.up hS) oD1 oD2)) rfl ?_
  rintro _ w1 ⟨rfl, hT⟩
  replace sa := sa.up hT
  replace e1 := e1.up hT
  replace sb := sb.up hT
  replace e2 := e2.up hT
  replace hbv := hbv.up hT
  replace e3 := e3.up hT
  replace hS := hS.trans hT
  clear hT
  clear h3
  refine W ?_
  refine WL_eff (OE_call rfl (evs1 rfl) (OfL_any _ yC _ _ _ ⟨_, rfl, hbv⟩ (hF.up hS) oC1 oC2)) rfl ?_
  rintro _ w1 ⟨rfl, hT⟩
  replace sa := sa.up hT
  replace e1 := e1.up hT
  replace sb := sb.up hT
  replace e2 := e2.up hT
  replace hbv := hbv.up hT
  replace e3 := e3.up hT
  replace hS := hS.trans hT
  clear hT
  obtain ⟨p0, c0, rfl, -⟩ := id sb
  obtain ⟨p1, c1, rfl, -⟩ := id sa
  refine W ?_
  apply WL_build (vs := [(0, str [97, 110, 115, 119, 101, 114]), (2, str [109, 111, 116, 105, 111, 110]), (3, .agg (ndC yB (.slice p0 2 c0)).toArray), (4, .agg (ndC yA (.slice p1 2 c1)).toArray)]) rfl (buildRlL _ _ _ _ _ _ _ _ _ _ _ _ _ _) rfl
  refine W ?_
  refine WL_eff OE_alloc rfl ?_
  rintro _ w1 ⟨b12, rfl, hb, e0, hT⟩
  refine WL_eff0 (OE_storeA (us := rlC rlA (.slice p0 2 c0) (.slice p1 2 c1)) rfl rfl rfl rfl (rlC_one rlA sb sa) e0 rfl) ?_
  rintro _ w2 ⟨hT2, e12⟩
  replace hT := hT.own hT2 (fun b hb => .inr (by simp at hb; omega))
  clear hT2 e0 hb
  replace sa := sa.up hT
  replace e1 := e1.up hT
  replace sb := sb.up hT
  replace e2 := e2.up hT
  replace hbv := hbv.up hT
  replace e3 := e3.up hT
  replace hS := hS.trans hT
  clear hT
  refine W ?_
  refine WL_eff OE_alloc rfl ?_
  rintro _ w1 ⟨b13, rfl, hb, e0, hT⟩
  refine WL_eff0 (OE_storeA (us := rlC rlA (.slice p0 2 c0) (.slice p1 2 c1)) rfl rfl rfl rfl (rlC_one rlA sb sa) e0 rfl) ?_
  rintro _ w2 ⟨hT2, e13⟩
  have hbw : w.heap.size ≤ b13 := Nat.le_trans hS.size hb
  replace sa := (sa.ext (X' := [b13]) hT (by simp) (fun b h => by simp at h; subst h; exact .inr hb)).ext hT2 (by simp) (fun _ h => .inl h)
  have n1 : b1 ≠ b13 := by have := e1.lt; omega
  replace sb := (sb.ext (X' := [b13]) hT (by simp) (fun b h => by simp at h; subst h; exact .inr hb)).ext hT2 (by simp) (fun _ h => .inl h)
  have n2 : b2 ≠ b13 := by have := e2.lt; omega
  replace hbv := (hbv.ext (X' := [b13]) hT (by simp) (fun b h => by simp at h; subst h; exact .inr hb)).ext hT2 (by simp) (fun _ h => .inl h)
  have n3 : b3 ≠ b13 := by have := e3.lt; omega
  have n12 : b12 ≠ b13 := by have := e12.lt; omega
  replace hT := hT.own hT2 (fun b hb => .inr (by simp at hb; omega))
  replace e1 := e1.up hT
  replace e2 := e2.up hT
  replace e3 := e3.up hT
  replace e12 := e12.up hT
  replace hS := hS.trans hT
  clear hT hT2 e0 hb
  refine W ?_
  refine WL_eff (OE_call rfl (evs1 rfl) (numberL_any 3 _)) rfl ?_
  rintro _ w1 ⟨h1, hT⟩
  obtain ⟨k3, rfl, s3⟩ := h1 [b13]
  clear h1
  replace sa := sa.up hT
  replace e1 := e1.up hT
  replace sb := sb.up hT
  replace e2 := e2.up hT
  replace hbv := hbv.up hT
  replace e3 := e3.up hT
  replace e12 := e12.up hT
  replace e13 := e13.up hT
  replace hS := hS.trans hT
  clear hT
  refine W ?_
  refine WL_eff0 (OE_store (us := ndC (.mk 1 3 [] []) k3) rfl rfl rfl rfl (ndC_one (x := .mk 1 3 [] []) s3) e13 (by simp)) ?_
  rintro _ w2 ⟨hT, e13⟩
  replace e13 : Blk w2 b13 38 (rlC rlB (.slice p0 2 c0) k3) := e13
  replace sa := (sa.ext hT (by simp) (fun _ h => .inl h)).wk (X' := []) (by simp)
  replace e1 := e1.ext hT (by simp; exact n1)
  replace sb := (sb.ext hT (by simp) (fun _ h => .inl h)).wk (X' := []) (by simp)
  replace e2 := e2.ext hT (by simp; exact n2)
  replace hbv := (hbv.ext hT (by simp) (fun _ h => .inl h)).wk (X' := []) (by simp)
  replace e3 := e3.ext hT (by simp; exact n3)
  replace e12 := e12.ext hT (by simp; exact n12)
  replace s3 := (s3.ext hT (by simp) (fun _ h => .inl h)).wk (X' := []) (by simp)
  replace hS := hS.own hT (fun b hb => .inr (by simp at hb; omega))
  clear hT hbw
  refine W ?_
  refine WL_eff OE_alloc rfl ?_
  rintro _ w1 ⟨b14, rfl, hb, e0, hT⟩
  refine WL_eff0 (OE_storeA (us := rlC rlA (.slice p0 2 c0) (.slice p1 2 c1)) rfl rfl rfl rfl (rlC_one rlA sb sa) e0 rfl) ?_
  rintro _ w2 ⟨hT2, e14⟩
  have hbw : w.heap.size ≤ b14 := Nat.le_trans hS.size hb
  replace sa := (sa.ext (X' := [b14]) hT (by simp) (fun b h => by simp at h; subst h; exact .inr hb)).ext hT2 (by simp) (fun _ h => .inl h)
  have n1 : b1 ≠ b14 := by have := e1.lt; omega
  replace sb := (sb.ext (X' := [b14]) hT (by simp) (fun b h => by simp at h; subst h; exact .inr hb)).ext hT2 (by simp) (fun _ h => .inl h)
  have n2 : b2 ≠ b14 := by have := e2.lt; omega
  replace hbv := (hbv.ext (X' := [b14]) hT (by simp) (fun b h => by simp at h; subst h; exact .inr hb)).ext hT2 (by simp) (fun _ h => .inl h)
  have n3 : b3 ≠ b14 := by have := e3.lt; omega
  have n12 : b12 ≠ b14 := by have := e12.lt; omega
  have n13 : b13 ≠ b14 := by have := e13.lt; omega
  replace s3 := (s3.ext (X' := [b14]) hT (by simp) (fun b h => by simp at h; subst h; exact .inr hb)).ext hT2 (by simp) (fun _ h => .inl h)
  replace hT := hT.own hT2 (fun b hb => .inr (by simp at hb; omega))
  replace e1 := e1.up hT
  replace e2 := e2.up hT
  replace e3 := e3.up hT
  replace e12 := e12.up hT
  replace e13 := e13.up hT
  replace hS := hS.trans hT
  clear hT hT2 e0 hb
  refine W ?_
  refine WL_eff0 (OE_store1 (o := 0) (u := str [105, 102]) rfl rfl rfl rfl e14 (by simp)) ?_
  rintro _ w2 ⟨hT, e14⟩
  replace e14 : Blk w2 b14 38 (rlC rlD (.slice p0 2 c0) (.slice p1 2 c1)) := e14
  replace sa := (sa.ext hT (by simp) (fun _ h => .inl h)).wk (X' := []) (by simp)
  replace e1 := e1.ext hT (by simp; exact n1)
  replace sb := (sb.ext hT (by simp) (fun _ h => .inl h)).wk (X' := []) (by simp)
  replace e2 := e2.ext hT (by simp; exact n2)
  replace hbv := (hbv.ext hT (by simp) (fun _ h => .inl h)).wk (X' := []) (by simp)
  replace e3 := e3.ext hT (by simp; exact n3)
  replace e12 := e12.ext hT (by simp; exact n12)
  replace e13 := e13.ext hT (by simp; exact n13)
  replace s3 := (s3.ext hT (by simp) (fun _ h => .inl h)).wk (X' := []) (by simp)
  replace hS := hS.own hT (fun b hb => .inr (by simp at hb; omega))
  clear hT hbw
  refine W ?_
  refine WL_eff (OE_call rfl (evs1 rfl) (Field_any [115, 101, 114, 118, 101, 100] _ (hF.up hS))) rfl ?_
  rintro _ w1 ⟨rfl, hT⟩
  rw [fdS]
  replace sa := sa.up hT
  replace e1 := e1.up hT
  replace sb := sb.up hT
  replace e2 := e2.up hT
  replace hbv := hbv.up hT
  replace e3 := e3.up hT
  replace e12 := e12.up hT
  replace e13 := e13.up hT
  replace s3 := s3.up hT
  replace e14 := e14.up hT
  replace hS := hS.trans hT
  clear hT
  repeat' (first | refine W1 ?_ | (exfalso; omega) | refine WL_split rfl rfl (fun hg => ?_) (fun hg => ?_) | refine WL_splitB rfl rfl (fun hg => ?_) (fun hg => ?_) | refine WC_cond rfl (fun hc => ?_) (fun hc => ?_) | refine WC_condB rfl (fun hc => ?_) (fun hc => ?_))
  all_goals try (exfalso; first | (apply absurd rfl; assumption) | (simp at hc; done) | (simp at hg; done))
  repeat' (first | refine W1 ?_ | (exfalso; omega) | refine WL_split rfl rfl (fun hg => ?_) (fun hg => ?_) | refine WL_splitB rfl rfl (fun hg => ?_) (fun hg => ?_) | refine WC_cond rfl (fun hc => ?_) (fun hc => ?_) | refine WC_condB rfl (fun hc => ?_) (fun hc => ?_))
  all_goals try (exact absurd rfl (by assumption))
  refine WL_eff (OE_call rfl (evs1 rfl) (Uses_any yC _ _ kC ⟨_, rfl, hbv⟩ (hF.up hS))) rfl ?_
  rintro ru w1 ⟨hr, hT⟩
  rw [usC] at hr
  have hru := hr.slv0
  clear hr
  replace sa := sa.up hT
  replace e1 := e1.up hT
  replace sb := sb.up hT
  replace e2 := e2.up hT
  replace hbv := hbv.up hT
  replace e3 := e3.up hT
  replace e12 := e12.up hT
  replace e13 := e13.up hT
  replace s3 := s3.up hT
  replace e14 := e14.up hT
  replace hS := hS.trans hT
  clear hT
  refine W ?_
  refine WL_eff (OE_buildSlice (vs := [(0, .int .i64 0), (1, .int .i64 1), (2, .int .i64 2)]) rfl (buildSI3 _ _ _)) rfl ?_
  rintro rv w1 hN
  have hrv := hN.slv (X := []) (ys := [(0 : Int), 1, 2]) (by simp) rfl rfl (by simp [maxLen])
  have hT := NewSl.stp hN
  clear hN
  replace sa := sa.up hT
  replace e1 := e1.up hT
  replace sb := sb.up hT
  replace e2 := e2.up hT
  replace hbv := hbv.up hT
  replace e3 := e3.up hT
  replace e12 := e12.up hT
  replace e13 := e13.up hT
  replace s3 := s3.up hT
  replace e14 := e14.up hT
  replace hru := hru.up hT
  replace hS := hS.trans hT
  clear hT
  refine W ?_
  refine WL_eff (OE_call rfl (evs2 rfl rfl) (SameIntsL_any _ _ _ _ _ hru hrv)) rfl ?_
  rintro _ w1 ⟨rfl, hT⟩
  clear hru hrv
  replace sa := sa.up hT
  replace e1 := e1.up hT
  replace sb := sb.up hT
  replace e2 := e2.up hT
  replace hbv := hbv.up hT
  replace e3 := e3.up hT
  replace e12 := e12.up hT
  replace e13 := e13.up hT
  replace s3 := s3.up hT
  replace e14 := e14.up hT
  replace hS := hS.trans hT
  clear hT
  rw [decide_eq_true (rfl : [(0 : Int), 1, 2] = [0, 1, 2])]
  repeat' (first | refine W1 ?_ | (exfalso; omega) | refine WL_split rfl rfl (fun hg => ?_) (fun hg => ?_) | refine WL_splitB rfl rfl (fun hg => ?_) (fun hg => ?_) | refine WC_cond rfl (fun hc => ?_) (fun hc => ?_) | refine WC_condB rfl (fun hc => ?_) (fun hc => ?_))
  all_goals try (exact absurd rfl (by assumption))
  refine WL_eff (OE_call rfl (evs1 rfl) (CheckL_any _ rlA 0 m _ ⟨_, _, rfl, sb, sa⟩ (hF.up hS) (hS.cell (by simp) hm) ckA)) rfl ?_
  rintro _ w1 ⟨rfl, hT⟩
  replace sa := sa.up hT
  replace e1 := e1.up hT
  replace sb := sb.up hT
  replace e2 := e2.up hT
  replace hbv := hbv.up hT
  replace e3 := e3.up hT
  replace e12 := e12.up hT
  replace e13 := e13.up hT
  replace s3 := s3.up hT
  replace e14 := e14.up hT
  replace hS := hS.trans hT
  clear hT
  repeat' (first | refine W1 ?_ | (exfalso; omega) | refine WL_split rfl rfl (fun hg => ?_) (fun hg => ?_) | refine WL_splitB rfl rfl (fun hg => ?_) (fun hg => ?_) | refine WC_cond rfl (fun hc => ?_) (fun hc => ?_) | refine WC_condB rfl (fun hc => ?_) (fun hc => ?_))
  all_goals try (exact absurd rfl (by assumption))
  refine WL_eff (OE_call rfl (evs1 rfl) (CheckL_any _ rlB 21 m _ ⟨_, _, rfl, sb, s3⟩ (hF.up hS) (hS.cell (by simp) hm) ckB)) rfl ?_
  rintro _ w1 ⟨rfl, hT⟩
  replace sa := sa.up hT
  replace e1 := e1.up hT
  replace sb := sb.up hT
  replace e2 := e2.up hT
  replace hbv := hbv.up hT
  replace e3 := e3.up hT
  replace e12 := e12.up hT
  replace e13 := e13.up hT
  replace s3 := s3.up hT
  replace e14 := e14.up hT
  replace hS := hS.trans hT
  clear hT
  repeat' (first | refine W1 ?_ | (exfalso; omega) | refine WL_split rfl rfl (fun hg => ?_) (fun hg => ?_) | refine WL_splitB rfl rfl (fun hg => ?_) (fun hg => ?_) | refine WC_cond rfl (fun hc => ?_) (fun hc => ?_) | refine WC_condB rfl (fun hc => ?_) (fun hc => ?_))
  all_goals try (exact absurd rfl (by assumption))
  refine WL_eff (OE_call rfl (evs1 rfl) (CheckL_any _ rlD 7 m _ ⟨_, _, rfl, sb, sa⟩ (hF.up hS) (hS.cell (by simp) hm) ckD)) rfl ?_
  rintro _ w1 ⟨rfl, hT⟩
  replace sa := sa.up hT
  replace e1 := e1.up hT
  replace sb := sb.up hT
  replace e2 := e2.up hT
  replace hbv := hbv.up hT
  replace e3 := e3.up hT
  replace e12 := e12.up hT
  replace e13 := e13.up hT
  replace s3 := s3.up hT
  replace e14 := e14.up hT
  replace hS := hS.trans hT
  clear hT
  repeat' (first | refine W1 ?_ | (exfalso; omega) | refine WL_split rfl rfl (fun hg => ?_) (fun hg => ?_) | refine WL_splitB rfl rfl (fun hg => ?_) (fun hg => ?_) | refine WC_cond rfl (fun hc => ?_) (fun hc => ?_) | refine WC_condB rfl (fun hc => ?_) (fun hc => ?_))
  all_goals try (exact absurd rfl (by assumption))
  first | refine WQ_ret1 rfl rfl ?_ | refine WQ_ret2 rfl rfl rfl ?_ | refine WQ_ret3 rfl rfl rfl rfl ?_ | refine WQ_ret0 rfl ?_ | refine WQ_end0 rfl ?_
  exact .mk ⟨rfl, hS⟩
end Go.Proofs.YtgpibcgebpgmiaaGreatDoor


/-
TypesArbitrary, walked.
-/
namespace Go.Eng
open Go Go.RowKit Go.Proofs
theorem OE_ofPR {P : Program} {n : Nat} {o : Oper} {e : Env} {w : World} {v : Value} (h : PR P n o e w v) : OE P n o e w (fun v' w' => v' = v ∧ w' = w) := OE_value (v := v) (w' := w) (fun a ha => h.h a ha) ⟨rfl, rfl⟩
end Go.Eng
namespace Go.Proofs.YtgpibcgebpgmiaaGreatDoor
open Go Go.Eng Go.RowKit Go.Proofs
set_option linter.unusedVariables false
theorem Short01_any (a : Str) (z : Nat) (w : World) (hz : (z : Int) ≤ 1000000) :
    Calls Tryz.prog 23 #[str a, .int .i64 z] w (Ret fun r w' => r = str (a.take z) ∧ Stp [] w w') := by
  refine calls_of_WC2 (n := 11) Tryz.func23 rfl rfl rfl ?_
  refine W ?_
  have hmin : min (a.length : Int) z = ((min a.length z : Nat) : Int) := by omega
  have ht : a.take z = a.take (min a.length z) := by
    by_cases h : z ≤ a.length
    · rw [Nat.min_eq_right h]
    · rw [Nat.min_eq_left (by omega), List.take_of_length_le (by omega), List.take_of_length_le (by omega)]
  rw [ht]
  refine WL_pure (PR_sliceT_h rfl rfl hmin (by omega)) rfl ?_
  refine W ?_
  first | refine WQ_ret1 rfl rfl ?_ | refine WQ_ret2 rfl rfl rfl ?_ | refine WQ_ret3 rfl rfl rfl rfl ?_ | refine WQ_ret0 rfl ?_ | refine WQ_end0 rfl ?_
  exact .mk ⟨rfl, Stp.refl _ _⟩
theorem buildSSt2 (a b : Str) (w : World) : (Instr.buildSlice 56 2 #[(0, str a), (1, str b)]).run Tryz.prog w = .ok (.slice (some ⟨w.heap.size, 0, none⟩) 2 2) (w.alloc (.cells #[str a, str b] 9)) := by kernel_rfl
theorem buildSB1 (c : UInt8) (w : World) : (Instr.buildSlice 42 1 #[(0, .int .u8 (c.toNat : Int))]).run Tryz.prog w = .ok (.slice (some ⟨w.heap.size, 0, none⟩) 1 1) (w.alloc (.cells #[.int .u8 (c.toNat : Int)] 5)) := by kernel_rfl
theorem show_pos (r : RuleM) : 0 < (showRule dateS r).length := by unfold showRule headS; simp
set_option maxHeartbeats 2000000 in
theorem arbLaw (raw : Str) (lv : Value) (l : List Int) (z : Int) (c : UInt8) (er : Value) (m : Int) (w : World) (hF : SlV [] w flds fieldNames) (hm : w.cell? ⟨1, 0, none⟩ = some (.int .i64 m)) (hLG : LenG w) (hTW : TabW w) (hv4 : w.cell? ⟨4, 0, none⟩ = some er) (hev : er = .nilIface ∨ ∃ te pe, er = .iface te pe)
    (hs : SlV [] w lv l) (hl : ∀ a ∈ l, I64 a) (hz : I64 z) :
    Calls Tryz.prog 5 #[str raw, lv, .int .i64 z, .int .u8 (c.toNat : Int)] w (Ret fun r w' => r = .bool true ∧ Stp [] w w') := by
  refine calls_of_WC4 (n := 84) Tryz.func5 rfl rfl rfl ?_
  refine W ?_
  refine WL_eff (OE_call rfl (evs1 rfl) (Rule14_nest [] lv l _ hs hl (by simp))) rfl ?_
  rintro _ w1 ⟨rl, ⟨ki, kd, rfl, hki, hkd⟩, -, -, hck, ⟨hn1, hn2⟩, hS⟩
  obtain ⟨r, rfl⟩ : ∃ r : RuleM, r.rul = rl := ⟨⟨rl.name, rl.frm, rl.on, rl.cnd, rl.due, rl.unl, rl.els⟩, rfl⟩
  have hrok := check_rule hck (show nestN r.cond ≤ 7 from Nat.le_trans hn1 (by decide)) (show nestN r.due ≤ 7 from Nat.le_trans hn2 (by decide))
  have hrl := rule_len hrok hn1 hn2
  have hrp := show_pos r
  obtain ⟨p1, a1, rfl, -⟩ := id hki
  obtain ⟨p2, a2, rfl, -⟩ := id hkd
  refine WL_eff (OE_buildSlice (vs := [(0, .agg (rlC r.rul _ _).toArray)]) rfl (fun w => buildSR1 _ _ _ _ _ _ _ w)) rfl ?_
  rintro bv w2 hN
  have hT := NewSl.stp hN
  have hbv : SlV [] w2 bv ([r].map RuleM.rul) := hN.slvG (css := [rlC r.rul _ _]) (by simp) rfl rfl rfl (repsR1 ⟨_, _, rfl, hki, hkd⟩) (by simp [maxLen])
  replace hS := hS.trans hT
  clear hN hT
  refine WL_eff (OE_call rfl (evs1 rfl) (Print_any [] bv [r] _ (by simp) hbv (fun x hx => by simp at hx; subst hx; exact ⟨hrok.frm, hrok.cond, hrok.due⟩) (by simp; omega) (hTW.up hS))) rfl ?_
  rintro _ w3 ⟨rfl, hT⟩
  have hfl : [r].flatMap (showRule dateS) = showRule dateS r := by simp
  rw [hfl]
  generalize showRule dateS r = s at *
  replace hS := hS.trans hT
  clear hT
  repeat' (first | refine W1 ?_ | (exfalso; omega) | refine WL_split rfl rfl (fun hg => ?_) (fun hg => ?_) | refine WL_splitB rfl rfl (fun hg => ?_) (fun hg => ?_) | refine WC_cond rfl (fun hc => ?_) (fun hc => ?_) | refine WC_condB rfl (fun hc => ?_) (fun hc => ?_))
  refine WL_eff (OE_call rfl (evs2 rfl rfl) (Around01_any z s.length _ (by omega) hz)) rfl ?_
  rintro _ w4 ⟨rfl, hT⟩
  replace hS := hS.trans hT
  clear hT
  have hr := Int.emod_nonneg (if z < 0 then -(z + 1) else z) (b := (s.length : Int)) (by omega)
  have hr2 := Int.emod_lt_of_pos (if z < 0 then -(z + 1) else z) (b := (s.length : Int)) (by omega)
  generalize (if z < 0 then -(z + 1) else z) % (s.length : Int) = q at *
  obtain ⟨k, rfl⟩ : ∃ k : Nat, q = (k : Int) := ⟨q.toNat, by omega⟩
  refine W ?_
  refine WC_drawn 13 [] [] [(0, 0), (1, 0), (2, 0), (3, 0), (7, 0), (8, 0), (9, 0), (10, 0), (4, 2), (5, 2), (6, 0), (11, 0), (12, 0)] rfl mixed (by kernel_rfl) (by kernel_rfl) (by kernel_rfl) (fun w1 hS1 => ?_)
  replace hS := hS.trans hS1
  clear hS1
  refine D ?_
  refine WD_free rfl trivial (fun _ => PR_sliceT_h rfl rfl rfl (by omega)) rfl ?_
  refine D ?_
  refine WD_free rfl trivial (fun _ => PR_sliceT_l (l := k + 1) rfl rfl (by omega) (by omega)) rfl ?_
  refine WD_eff rfl trivial (OE_buildSlice (vs := [(0, .int .u8 (c.toNat : Int))]) rfl (fun w => buildSB1 _ w)) (fun _ _ h => NewSl.stp h) rfl ?_
  rintro cv w5 hN
  have hT := NewSl.stp hN
  have hcv : SlV [] w5 cv [c] := hN.slv (by simp) rfl rfl (by simp [maxLen])
  replace hS := hS.trans hT
  clear hN hT
  refine WD_eff rfl trivial (OE_ofPR (PR_convB rfl hcv)) (fun _ _ h => by rw [h.2]; exact Stp.refl _ _) rfl ?_
  rintro _ _ ⟨rfl, rfl⟩
  refine WD_free rfl trivial (fun _ => PR_addT rfl rfl (by simp; omega)) rfl ?_
  refine WD_free rfl trivial (fun _ => PR_addT rfl rfl (by simp; omega)) rfl ?_
  refine D ?_
  have hsl : (s.take k ++ [c] ++ s.drop (k + 1)).length ≤ 1000000 := by simp; omega
  generalize s.take k ++ [c] ++ s.drop (k + 1) = s2 at *
  refine W ?_
  refine WL_eff (OE_call rfl (evs2 rfl rfl) (Short01_any raw 4000 _ (by omega))) rfl ?_
  rintro _ w6 ⟨rfl, hT⟩
  replace hS := hS.trans hT
  clear hT
  refine W ?_
  refine WL_eff (OE_buildSlice (vs := [(0, str _), (1, str _)]) rfl (fun w => buildSSt2 _ _ w)) rfl ?_
  rintro tv w7 hN
  have hT := NewSl.stp hN
  have htv : SlV [] w7 tv [raw.take 4000, s2] := hN.slv (by simp) rfl rfl (by simp [maxLen])
  replace hS := hS.trans hT
  clear hN hT
  have hts : ∀ x ∈ [raw.take 4000, s2], x.length ≤ 1000000 := fun x hx => by
    simp only [List.mem_cons, List.not_mem_nil, or_false] at hx
    rcases hx with rfl | rfl
    · rw [List.length_take]; omega
    · exact hsl
  have htl : [raw.take 4000, s2].length = 2 := rfl
  generalize [raw.take 4000, s2] = ts at *
  have hw7 := hS.size
  refine W ?_
  have htv0 := htv
  have hS7 := hS
  refine WC_loop (σ := Nat) (fun i => [(11, tv), (12, .int .i64 i)]) (fun i w' => i ≤ 2 ∧ Stp [] w7 w') (fun i => 2 - i) 0 ⟨rfl, rfl, trivial⟩ ⟨Nat.zero_le _, Stp.refl _ _⟩ ?_
  clear hS htv hki hkd hbv hcv
  rintro i w8 ⟨hi, hT⟩
  have htv := htv0.up hT
  have hS := hS7.trans hT
  by_cases hlt : i < 2
  · have hlt' : i < ts.length := by omega
    repeat' (first | refine W1 ?_ | (exfalso; omega) | refine WL_split rfl rfl (fun hg => ?_) (fun hg => ?_) | refine WL_splitB rfl rfl (fun hg => ?_) (fun hg => ?_) | refine WC_cond rfl (fun hc => ?_) (fun hc => ?_) | refine WC_condB rfl (fun hc => ?_) (fun hc => ?_))
    have hP := Parse_any [] ts[i] er m w8 (by simp) (hLG.up hS) (hS.cell (by simp) hm) (hS.cell (by simp) hv4) hev (hts _ (List.getElem_mem hlt'))
    refine WL_eff (OE_call rfl (evs1 rfl) hP) rfl ?_
    rintro rv w9 ⟨hr, hT9⟩
    replace hT := hT.trans hT9
    replace hS := hS.trans hT9
    clear hP hT9
    cases hK : parseM ts[i] with
    | err a ec =>
      rw [hK] at hr
      have hr' : rv = .tuple #[.slice none 0 0, .int .i64 a, .int .i64 ec] := hr
      subst hr'
      refine W ?_
      refine WC_loop (σ := Unit) (fun _ => [(11, tv), (12, .int .i64 i), (13, .slice none 0 0), (16, .int .i64 0)]) (fun _ w' => w' = w9) (fun _ => 0) () ⟨rfl, rfl, rfl, rfl, trivial⟩ rfl ?_
      rintro _ _ rfl
      repeat' (first | refine W1 ?_ | (exfalso; omega) | refine WL_split rfl rfl (fun hg => ?_) (fun hg => ?_) | refine WL_splitB rfl rfl (fun hg => ?_) (fun hg => ?_) | refine WC_cond rfl (fun hc => ?_) (fun hc => ?_) | refine WC_condB rfl (fun hc => ?_) (fun hc => ?_))
      refine WQ_loop (i + 1) ⟨rfl, rfl, trivial⟩ ⟨by omega, hT⟩ (by omega)
    | ok rs =>
      rw [hK] at hr
      obtain ⟨lv2, rfl, hrs⟩ := hr
      have hcks := parse_check hK
      refine W ?_
      have hrs0 := hrs
      have hT0 := hT
      have hS0 := hS
      refine WC_loop (σ := Nat) (fun j => [(11, tv), (12, .int .i64 i), (13, lv2), (15, .int .i64 0), (16, .int .i64 j)]) (fun j w' => j ≤ rs.length ∧ Stp [] w9 w') (fun j => rs.length - j) 0 ⟨rfl, rfl, rfl, rfl, rfl, trivial⟩ ⟨Nat.zero_le _, Stp.refl _ _⟩ ?_
      clear hrs hT hS
      rintro j w10 ⟨hj, hTj⟩
      have hrs := hrs0.up hTj
      have hS := hS0.trans hTj
      have hln : (rs.map RuleM.rul).length = rs.length := by simp
      by_cases hjl : j < rs.length
      · have hjl' : j < (rs.map RuleM.rul).length := by rw [hln]; exact hjl
        obtain ⟨ki, kd, hki, hkd, hcl⟩ := slvRul hrs hjl'
        repeat' (first | refine W1 ?_ | (exfalso; omega) | refine WL_split rfl rfl (fun hg => ?_) (fun hg => ?_) | refine WL_splitB rfl rfl (fun hg => ?_) (fun hg => ?_) | refine WC_cond rfl (fun hc => ?_) (fun hc => ?_) | refine WC_condB rfl (fun hc => ?_) (fun hc => ?_))
        refine WL_pure (PR_loadRul rfl rfl hrs hjl' hcl) rfl ?_
        refine WL_eff (OE_call rfl (evs1 rfl) (Check14_any _ _ m _ ⟨ki, kd, rfl, hki, hkd⟩ (hF.up hS) (hS.cell (by simp) hm))) rfl ?_
        rintro _ w11 ⟨rfl, hT11⟩
        have hck := hcks rs[j] (List.getElem_mem hjl)
        have hri : (rs.map RuleM.rul)[j] = rs[j].rul := by simp
        rw [hri]
        generalize checkT rs[j].rul = kk at *
        have hmax := hrs0.max
        repeat' (first | refine W1 ?_ | (exfalso; omega) | refine WL_split rfl rfl (fun hg => ?_) (fun hg => ?_) | refine WL_splitB rfl rfl (fun hg => ?_) (fun hg => ?_) | refine WC_cond rfl (fun hc => ?_) (fun hc => ?_) | refine WC_condB rfl (fun hc => ?_) (fun hc => ?_))
        all_goals exact WQ_loop (j + 1) ⟨rfl, rfl, rfl, rfl, rfl, trivial⟩ ⟨hjl, hTj.trans hT11⟩ (by omega)
      · repeat' (first | refine W1 ?_ | (exfalso; omega) | refine WL_split rfl rfl (fun hg => ?_) (fun hg => ?_) | refine WL_splitB rfl rfl (fun hg => ?_) (fun hg => ?_) | refine WC_cond rfl (fun hc => ?_) (fun hc => ?_) | refine WC_condB rfl (fun hc => ?_) (fun hc => ?_))
        exact WQ_loop (i + 1) ⟨rfl, rfl, trivial⟩ ⟨by omega, hT0.trans hTj⟩ (by omega)
  · repeat' (first | refine W1 ?_ | (exfalso; omega) | refine WL_split rfl rfl (fun hg => ?_) (fun hg => ?_) | refine WL_splitB rfl rfl (fun hg => ?_) (fun hg => ?_) | refine WC_cond rfl (fun hc => ?_) (fun hc => ?_) | refine WC_condB rfl (fun hc => ?_) (fun hc => ?_))
    refine WL_eff (OE_call rfl (evs0) (lives14_any m _ (hF.up hS) (hS.cell (by simp) hm))) rfl ?_
    rintro _ w9 ⟨rfl, hT9⟩
    refine W ?_
    first | refine WQ_ret1 rfl rfl ?_ | refine WQ_ret2 rfl rfl rfl ?_ | refine WQ_ret3 rfl rfl rfl rfl ?_ | refine WQ_ret0 rfl ?_ | refine WQ_end0 rfl ?_
    exact .mk ⟨rfl, hS.trans hT9⟩
end Go.Proofs.YtgpibcgebpgmiaaGreatDoor


/-
Arguments: a slice of bytes, a byte.
-/
namespace Go.Proofs.YtgpibcgebpgmiaaGreatDoor
open Go Go.Eng Go.RowKit Go.Proofs Go.ChangeShapes Go.WideShapes Go.Deep
set_option linter.unusedVariables false
theorem u8_of {z : Int} (h : (Lit.int .u8 z).wf = true) : ∃ b : UInt8, z = (b.toNat : Int) := by
  have h2 : 0 ≤ z ∧ z ≤ 255 := by simpa [Lit.wf, IntKind.min, IntKind.max, IntKind.signed, IntKind.bits] using h
  refine ⟨UInt8.ofNat z.toNat, ?_⟩
  rw [UInt8.toNat_ofNat']
  omega
set_option maxRecDepth 100000 in
theorem open_u8 {H : Type} {enc : TypeId × Value → H} {w : World} {base : Nat} {spare : Nat → Bool} {held : Bool} {r : Reach} {b0 : Nat} {v : Value} {d : DataW H} {p : List MemPlace} (hv : Value.okWide Tryz.prog w r b0 5 v) (h : DataW.Trod enc Tryz.prog w base spare held 5 v d p) : ∃ b : UInt8, v = .int .u8 (b.toNat : Int) := by
  obtain ⟨z, rfl, _, _, hw⟩ := open_int Tryz.underlying5 hv h
  obtain ⟨b, rfl⟩ := u8_of hw
  exact ⟨b, rfl⟩
end Go.Proofs.YtgpibcgebpgmiaaGreatDoor


/-
What the listed variables of the parser's laws read as.
-/
namespace Go.Eng
open Go Go.RowKit Go.Proofs
set_option linter.unusedVariables false
/-- one listed variable -/
def Laid1 (P : Program) (w : World) (n : String) (d : DataW Unit) : Prop := ∃ g t cs fuel p, P.globalNamed n = some g ∧ (P.globals[g]?).map (·.type) = some t ∧ w.var? P n = some cs ∧ DataW.trod (fun _ => ()) P w 0 (fun _ => true) false fuel t cs.toList = some (d, p)
theorem laid1_of {P : Program} {w : World} : ∀ (l : List (String × DataW Unit)) (ps : List MemPlace), DataW.LaidVars P w l ps → ∀ (n : String) (d : DataW Unit), (n, d) ∈ l → Laid1 P w n d
  | [], _, _, n, d, h => by simp at h
  | (n0, d0) :: r, ps, hl, n, d, h => by
    obtain ⟨g, t, cs, fuel, p, q, h1, h2, h3, h4, h5, _⟩ := hl
    rcases List.mem_cons.1 h with h | h
    · cases h
      exact ⟨g, t, cs, fuel, p, h1, h2, h3, h4⟩
    · exact laid1_of r q h5 n d h
theorem laid1_tab {P : Program} {w : World} {name : String} {g t e n : Nat} {k : IntKind} {zs : List Int} (h : Laid1 P w name (Lib.tabData k zs)) (hg : P.globalNamed name = some g) (hty : (P.globals[g]?).map (·.type) = some t) (ht : P.underlying t = some (.array n e)) (he : P.underlying e = some (.int k)) (hce : P.cellsOf e = 1) (hct : P.cellsOf t = n) : Lib.TabIs P w name k zs := by
  obtain ⟨g', t', cs, fuel, p, hg', ht', hvar, hd⟩ := h
  obtain rfl := Option.some.inj (hg.symm.trans hg')
  obtain rfl := Option.some.inj (hty.symm.trans ht')
  unfold Lib.TabIs
  rw [hvar, ← Lib.cells_of_tab ht he hce hct hd]
theorem laid1_strs {P : Program} {W : World} {name : String} {g t e n : Nat} {ss : List Str} (hg : P.globalNamed name = some g) (ht : (P.globals[g]?).map (·.type) = some t) (hu : P.underlying t = some (.array n e)) (he : P.underlying e = some .string) (hc : P.cellsOf e = 1)
    (hn : ss.length = n) (h : Laid1 P W name (.agg (ss.map (fun s => DataW.lit (.string s))))) :
    ∀ i (hi : i < ss.length), W.cell? ⟨g, i, none⟩ = some (str ss[i]) := by
  obtain ⟨g0, t0, cs0, f0, p0, hg0, ht0, hv0, hd0⟩ := h
  obtain rfl := Option.some.inj (hg.symm.trans hg0)
  obtain rfl := Option.some.inj (ht.symm.trans ht0)
  obtain ⟨xs, m1, rfl, hx1, hlen, hn3, hel⟩ := DataW.trod_array hu hd0
  intro i hi
  have h1 := hel i (by omega)
  rw [hc, Nat.mul_one] at h1
  have hxi : xs[i]? = some (xs[i]'(by omega)) := List.getElem?_eq_getElem (by omega)
  rw [hxi] at h1
  obtain ⟨s, e1, e2, _⟩ := DataW.trod_string he h1
  have e3 : DataW.agg (ss.map (fun s => DataW.lit (.string s))) = (DataW.agg (xs.map (·.1)) : DataW Unit) := congrArg Prod.fst hx1
  simp only [DataW.agg.injEq] at e3
  have e4 : (DataW.lit (.string ss[i]) : DataW Unit) = (xs[i]'(by omega)).1 := by
    have h2 := congrArg (fun l => l[i]?) e3
    simp only [List.getElem?_map, hxi, List.getElem?_eq_getElem hi, Option.map_some, Option.some.injEq] at h2
    exact h2
  rw [e2] at e4
  simp only [DataW.lit.injEq, Lit.string.injEq] at e4
  have hv := World.var?_cell hg0 hv0 i
  rw [hv]
  have h5 : cs0.toList[i]? = some (.string s) := by
    have h6 := congrArg (fun l => l[0]?) e1
    simpa [List.getElem?_take, List.getElem?_drop] using h6
  rw [← Array.getElem?_toList, h5]
  congr 1
  simp only [str, e4]
theorem laid1_iface {P : Program} {W : World} {name : String} {g t : Nat} {ms : Array (String × TypeId)} {d : DataW Unit} (hg : P.globalNamed name = some g) (ht : (P.globals[g]?).map (·.type) = some t) (hu : P.underlying t = some (.interface ms)) (h : Laid1 P W name d) :
    ∃ er, W.cell? ⟨g, 0, none⟩ = some er ∧ (er = .nilIface ∨ ∃ te pe, er = .iface te pe) := by
  obtain ⟨g0, t0, cs0, f0, p0, hg0, ht0, hv0, hd0⟩ := h
  obtain rfl := Option.some.inj (hg.symm.trans hg0)
  obtain rfl := Option.some.inj (ht.symm.trans ht0)
  have hv := World.var?_cell hg0 hv0 0
  rw [hv]
  rw [← Array.getElem?_toList]
  generalize cs0.toList = cs at *
  cases f0 with
  | zero => simp [DataW.trod] at hd0
  | succ f =>
    unfold DataW.trod at hd0
    rw [hu] at hd0
    match cs, hd0 with
    | [], hd0 => simp at hd0
    | a :: b :: r, hd0 => simp at hd0
    | [x], hd0 =>
      refine ⟨x, rfl, ?_⟩
      cases x with
      | nilIface => exact .inl rfl
      | iface u v => exact .inr ⟨u, v, rfl⟩
      | _ => simp at hd0
end Go.Eng
namespace Go.Proofs.YtgpibcgebpgmiaaGreatDoor
open Go Go.Eng Go.RowKit Go.Proofs
set_option linter.unusedVariables false
abbrev laid7 : List (String × DataW Unit) := [("math/bits.deBruijn32tab", Rows.laid_math_bits_deBruijn32tab), ("math/bits.deBruijn64tab", Rows.laid_math_bits_deBruijn64tab), ("internal/strconv.uint64pow10", Rows.laid_internal_strconv_uint64pow10), ("strconv.ErrRange", Rows.laid_strconv_ErrRange), ("strconv.ErrSyntax", Rows.laid_strconv_ErrSyntax), ("rollbook/date.lengths", Rows.laid_rollbook_date_lengths), ("rollbook/types.fields", Rows.laid_rollbook_types_fields)]
theorem laid7_vars {W : World} (h : laidMetH Tryz.prog laid7 W) : ∃ ps, DataW.LaidVars Tryz.prog W laid7 ps := by
  rw [MakeChecks.laidMetH_plain _ _ _ (by kernel_rfl)] at h
  obtain ⟨ps, h, _⟩ := h
  exact ⟨ps, h⟩
theorem laid7_fields {W : World} (h : laidMetH Tryz.prog laid7 W) : SlV [] W flds fieldNames := by
  obtain ⟨ps, h⟩ := laid7_vars h
  have h1 := laid1_of _ _ h "rollbook/types.fields" Rows.laid_rollbook_types_fields (by simp [laid7])
  have hc := laid1_strs (g := 0) (t := 166) (e := 9) (n := 7) (ss := fieldNames) (by kernel_rfl) (by kernel_rfl) Tryz.underlying166 Tryz.underlying9 (by kernel_rfl) rfl h1
  have hlt : 0 < W.heap.size := block_lt_of_cell (a := ⟨0, 0, none⟩) (hc 0 (by decide))
  refine ⟨some ⟨0, 0, none⟩, 7, rfl, by decide, by decide, (fun h => by cases h), fun i hi => ⟨0, 0, [str fieldNames[i]], rfl, hlt, by simp, rfl, fun j u hu => ?_⟩⟩
  have hj : j = 0 := by
    have := (List.getElem?_eq_some_iff.1 hu).1
    simp at this
    exact this
  subst hj
  simp at hu
  subst hu
  have := hc i hi
  simpa [GoRep.k, Flat.k] using this
theorem laid7_tab {W : World} (h : laidMetH Tryz.prog laid7 W) : TabW W := by
  obtain ⟨ps, h⟩ := laid7_vars h
  have h1 := laid1_of _ _ h "internal/strconv.uint64pow10" Rows.laid_internal_strconv_uint64pow10 (by simp [laid7])
  exact laid1_tab (k := .u64) (zs := Lib.pow10Tab) (g := 2) (t := 236) (e := 97) (n := 20) h1 (by kernel_rfl) (by kernel_rfl) Tryz.underlying236 Tryz.underlying97 (by kernel_rfl) (by kernel_rfl)
theorem laid7_lengths {W : World} (h : laidMetH Tryz.prog laid7 W) : LenG W := by
  obtain ⟨ps, h⟩ := laid7_vars h
  have h1 := laid1_of _ _ h "rollbook/date.lengths" Rows.laid_rollbook_date_lengths (by simp [laid7])
  have h2 := laid1_tab (k := .i64) (zs := lengthsL) (g := 5) (t := 249) (e := 3) (n := 13) h1 (by kernel_rfl) (by kernel_rfl) Tryz.underlying249 Tryz.underlying3 (by kernel_rfl) (by kernel_rfl)
  intro i u hu
  have hi := (List.getElem?_eq_some_iff.1 hu).1
  rw [Lib.TabIs.cell h2 (g := 5) (by kernel_rfl) i hi]
  simp [List.getD, hu]
theorem laid7_err {W : World} (h : laidMetH Tryz.prog laid7 W) : ∃ er, W.cell? ⟨4, 0, none⟩ = some er ∧ (er = .nilIface ∨ ∃ te pe, er = .iface te pe) := by
  obtain ⟨ps, h⟩ := laid7_vars h
  have h1 := laid1_of _ _ h "strconv.ErrRange" Rows.laid_strconv_ErrRange (by simp [laid7])
  exact laid1_iface (g := 4) (t := 72) (by kernel_rfl) (by kernel_rfl) Tryz.underlying72 h1
end Go.Proofs.YtgpibcgebpgmiaaGreatDoor

