/-
Merged by program out of own texts: Prt2, Prt3.
-/
import Derived.Test.YtfjmlobgjdmecaaDoorM4
namespace Go.Proofs.YtfjmlobgjdmecaaDoor
open Go Go.Eng Go.RowKit
set_option linter.unusedVariables false

theorem Around03_any (z : Int) (m : Int) (w : World) (hm : 0 < m) (hz : I64 z) : Calls Tryd.prog 24 #[.int .i64 z, .int .i64 m] w (Ret fun r w' => r = .int .i64 ((if z < 0 then -(z + 1) else z) % m) ∧ Stp [] w w') := by
  unfold I64 at hz
  refine calls_of_WC2 (n := 13) Tryd.func24 rfl rfl rfl ?_
  by_cases h : z < 0
  · repeat' (first | refine W1 ?_ | (exfalso; omega) | refine WL_split rfl rfl (fun hg => ?_) (fun hg => ?_) | refine WL_splitB rfl rfl (fun hg => ?_) (fun hg => ?_) | refine WC_cond rfl (fun hc => ?_) (fun hc => ?_) | refine WC_condB rfl (fun hc => ?_) (fun hc => ?_))
    first | refine WQ_ret1 rfl rfl ?_ | refine WQ_ret2 rfl rfl rfl ?_ | refine WQ_ret3 rfl rfl rfl rfl ?_ | refine WQ_ret0 rfl ?_ | refine WQ_end0 rfl ?_
    exact .mk ⟨by rw [if_pos h], Stp.refl _ _⟩
  · repeat' (first | refine W1 ?_ | (exfalso; omega) | refine WL_split rfl rfl (fun hg => ?_) (fun hg => ?_) | refine WL_splitB rfl rfl (fun hg => ?_) (fun hg => ?_) | refine WC_cond rfl (fun hc => ?_) (fun hc => ?_) | refine WC_condB rfl (fun hc => ?_) (fun hc => ?_))
    first | refine WQ_ret1 rfl rfl ?_ | refine WQ_ret2 rfl rfl rfl ?_ | refine WQ_ret3 rfl rfl rfl rfl ?_ | refine WQ_ret0 rfl ?_ | refine WQ_end0 rfl ?_
    exact .mk ⟨by rw [if_neg h], Stp.refl _ _⟩
theorem buildSN7 (k0 k1 k2 k3 k4 k5 k6 : Int) (s0 s1 s2 s3 s4 s5 s6 : Str) (w : World) : (Instr.buildSlice 22 7 #[(0, .agg #[.int .i64 k0, .int .i64 0, str s0, .slice none 0 0]), (1, .agg #[.int .i64 k1, .int .i64 0, str s1, .slice none 0 0]), (2, .agg #[.int .i64 k2, .int .i64 0, str s2, .slice none 0 0]), (3, .agg #[.int .i64 k3, .int .i64 0, str s3, .slice none 0 0]), (4, .agg #[.int .i64 k4, .int .i64 0, str s4, .slice none 0 0]), (5, .agg #[.int .i64 k5, .int .i64 0, str s5, .slice none 0 0]), (6, .agg #[.int .i64 k6, .int .i64 0, str s6, .slice none 0 0])]).run Tryd.prog w = .ok (.slice (some ⟨w.heap.size, 0, none⟩) 7 7) (w.alloc (.cells #[.int .i64 k0, .int .i64 0, str s0, .slice none 0 0, .int .i64 k1, .int .i64 0, str s1, .slice none 0 0, .int .i64 k2, .int .i64 0, str s2, .slice none 0 0, .int .i64 k3, .int .i64 0, str s3, .slice none 0 0, .int .i64 k4, .int .i64 0, str s4, .slice none 0 0, .int .i64 k5, .int .i64 0, str s5, .slice none 0 0, .int .i64 k6, .int .i64 0, str s6, .slice none 0 0] 24)) := by kernel_rfl
theorem buildSV7 (p0 p1 p2 p3 p4 p5 p6 : Option Addr) (l0 l1 l2 l3 l4 l5 l6 c0 c1 c2 c3 c4 c5 c6 : Nat) (w : World) : (Instr.buildSlice 44 7 #[(0, .slice p0 l0 c0), (1, .slice p1 l1 c1), (2, .slice p2 l2 c2), (3, .slice p3 l3 c3), (4, .slice p4 l4 c4), (5, .slice p5 l5 c5), (6, .slice p6 l6 c6)]).run Tryd.prog w = .ok (.slice (some ⟨w.heap.size, 0, none⟩) 7 7) (w.alloc (.cells #[.slice p0 l0 c0, .slice p1 l1 c1, .slice p2 l2 c2, .slice p3 l3 c3, .slice p4 l4 c4, .slice p5 l5 c5, .slice p6 l6 c6] 25)) := by kernel_rfl
def forms7 : List Nd := [.mk 6 0 [43] [], .mk 6 0 [33, 61] [], .mk 6 0 [62] [], .mk 10 0 [108, 97, 116, 101, 114] [], .mk 10 0 [98, 101, 116, 119, 101, 101, 110] [], .mk 8 0 [99, 111, 117, 114, 116, 100, 97, 121, 115] [], .mk 7 0 [109, 111, 110, 116, 104, 115] []]
def own7 : List (Sl Int) := [⟨[5]⟩, ⟨[11, 12]⟩, ⟨[10, 12]⟩, ⟨[21]⟩, ⟨[23]⟩, ⟨[8, 18]⟩, ⟨[17]⟩]
def kindA (i : Nat) : Int := if 3 ≤ i then 0 else 2
def kindB (i : Nat) : Int := if i = 3 ∨ i = 4 then 0 else 2
theorem forms_type : ∀ i (h : i < forms7.length), combT forms7[i].kind forms7[i].num forms7[i].word [kindT (kindA i), kindT (kindB i)] ≠ 0 := by
  intro i h
  match i, h with
  | 0, _ => exact (by decide : combT 6 0 [43] [kindT (kindA 0), kindT (kindB 0)] ≠ 0)
  | 1, _ => exact (by decide : combT 6 0 [33, 61] [kindT (kindA 1), kindT (kindB 1)] ≠ 0)
  | 2, _ => exact (by decide : combT 6 0 [62] [kindT (kindA 2), kindT (kindB 2)] ≠ 0)
  | 3, _ => exact (by decide : combT 10 0 [108, 97, 116, 101, 114] [kindT (kindA 3), kindT (kindB 3)] ≠ 0)
  | 4, _ => exact (by decide : combT 10 0 [98, 101, 116, 119, 101, 101, 110] [kindT (kindA 4), kindT (kindB 4)] ≠ 0)
  | 5, _ => exact (by decide : combT 8 0 [99, 111, 117, 114, 116, 100, 97, 121, 115] [kindT (kindA 5), kindT (kindB 5)] ≠ 0)
  | 6, _ => exact (by decide : combT 7 0 [109, 111, 110, 116, 104, 115] [kindT (kindA 6), kindT (kindB 6)] ≠ 0)
theorem forms_code : ∀ i (h : i < forms7.length) (h' : i < own7.length) (f g : Cf), combC forms7[i].kind forms7[i].num forms7[i].word [f, g] 0 = f 0 ++ g (f 0).length ++ insO own7[i].l := by
  intro i h h' f g
  match i, h, h' with
  | 0, _, _ =>
    have e : opF [43] = [5] := rfl
    simp [combC, plainC, seqC, forms7, own7, Nd.kind, Nd.word, e, insO]
  | 1, _, _ =>
    have e : opF [33, 61] = [11, 12] := rfl
    simp [combC, plainC, seqC, forms7, own7, Nd.kind, Nd.word, e, insO]
  | 2, _, _ =>
    have e : opF [62] = [10, 12] := rfl
    simp [combC, plainC, seqC, forms7, own7, Nd.kind, Nd.word, e, insO]
  | 3, _, _ =>
    have e : opF [108, 97, 116, 101, 114] = [21] := rfl
    simp [combC, plainC, seqC, forms7, own7, Nd.kind, Nd.word, e, insO]
  | 4, _, _ =>
    have e : opF [98, 101, 116, 119, 101, 101, 110] = [23] := rfl
    simp [combC, plainC, seqC, forms7, own7, Nd.kind, Nd.word, e, insO]
  | 5, _, _ =>
    have e : opF [99, 111, 117, 114, 116, 100, 97, 121, 115] = [18] := rfl
    simp [combC, plainC, seqC, forms7, own7, Nd.kind, Nd.word, e, insO]
  | 6, _, _ =>
    have e : opF [109, 111, 110, 116, 104, 115] = [17] := rfl
    simp [combC, plainC, seqC, forms7, own7, Nd.kind, Nd.word, e, insO]
theorem errX_02 {x : Nd} (h : typeT x ≠ 0) : errX x = 0 ∨ errX x = 2 := by
  unfold errX
  split
  · split
    · exact .inr rfl
    · exact .inl rfl
  · exact .inr rfl
theorem errX_len {x : Nd} (h : errX x = 0) : (exprF x).length ≤ 200 := by
  unfold errX at h
  split at h
  · split at h
    · cases h
    · split at h
      · cases h
      · omega
  · cases h
end Go.Proofs.YtfjmlobgjdmecaaDoor
namespace Go.Proofs.YtfjmlobgjdmecaaDoor
open Go Go.Eng Go.RowKit
set_option linter.unusedVariables false

theorem partsLaw (lv kv : Value) (l k : List Int) (which : Int) (w : World) (hF : SlV [] w flds fieldNames) (hl0 : SlV [] w lv l) (hk0 : SlV [] w kv k) (hl : ∀ a ∈ l, I64 a) (hk : ∀ a ∈ k, I64 a) (hwh : I64 which) :
    Calls Tryd.prog 6 #[lv, kv, .int .i64 which] w (Ret fun r w' => r = .bool true ∧ Stp [] w w') := by
  refine calls_of_WC3 (n := 179) Tryd.func6 rfl rfl rfl ?_
  refine W ?_
  apply WL_build (vs := [(0, .int .i64 6), (2, str [43])]) rfl (buildN02 _ _) rfl
  refine W ?_
  apply WL_build (vs := [(0, .int .i64 6), (2, str [33, 61])]) rfl (buildN02 _ _) rfl
  refine W ?_
  apply WL_build (vs := [(0, .int .i64 6), (2, str [62])]) rfl (buildN02 _ _) rfl
  refine W ?_
  apply WL_build (vs := [(0, .int .i64 10), (2, str [108, 97, 116, 101, 114])]) rfl (buildN02 _ _) rfl
  refine W ?_
  apply WL_build (vs := [(0, .int .i64 10), (2, str [98, 101, 116, 119, 101, 101, 110])]) rfl (buildN02 _ _) rfl
  refine W ?_
  apply WL_build (vs := [(0, .int .i64 8), (2, str [99, 111, 117, 114, 116, 100, 97, 121, 115])]) rfl (buildN02 _ _) rfl
  refine W ?_
  apply WL_build (vs := [(0, .int .i64 7), (2, str [109, 111, 110, 116, 104, 115])]) rfl (buildN02 _ _) rfl
  refine W ?_
  refine WL_eff (OE_buildSlice (vs := [(0, .agg #[.int .i64 6, .int .i64 0, str [43], .slice none 0 0]), (1, .agg #[.int .i64 6, .int .i64 0, str [33, 61], .slice none 0 0]), (2, .agg #[.int .i64 6, .int .i64 0, str [62], .slice none 0 0]), (3, .agg #[.int .i64 10, .int .i64 0, str [108, 97, 116, 101, 114], .slice none 0 0]), (4, .agg #[.int .i64 10, .int .i64 0, str [98, 101, 116, 119, 101, 101, 110], .slice none 0 0]), (5, .agg #[.int .i64 8, .int .i64 0, str [99, 111, 117, 114, 116, 100, 97, 121, 115], .slice none 0 0]), (6, .agg #[.int .i64 7, .int .i64 0, str [109, 111, 110, 116, 104, 115], .slice none 0 0])]) rfl (buildSN7 _ _ _ _ _ _ _ _ _ _ _ _ _ _)) rfl ?_
  rintro fv w1 hN
  have hfo : SlV [] w1 fv forms7 := hN.slvG (X := []) (css := forms7.map (fun x => ndC x (.slice none 0 0))) (by simp) rfl rfl rfl (fun i hi hi' => match i, hi with
    | 0, _ => slv_nrep (nilSlv _ _)
    | 1, _ => slv_nrep (nilSlv _ _)
    | 2, _ => slv_nrep (nilSlv _ _)
    | 3, _ => slv_nrep (nilSlv _ _)
    | 4, _ => slv_nrep (nilSlv _ _)
    | 5, _ => slv_nrep (nilSlv _ _)
    | 6, _ => slv_nrep (nilSlv _ _)) (by decide)
  have hS := NewSl.stp hN
  clear hN
  refine W ?_
  refine WL_eff (OE_buildSlice (vs := [(0, .int .i64 5)]) rfl (buildSI1 _)) rfl ?_
  rintro a0 wq hN
  have s0 : SlV [] wq a0 ([5] : List Int) := hN.slv (by simp) rfl rfl (by simp [maxLen])
  have hT := NewSl.stp hN
  clear hN
  replace hfo := hfo.up hT
  replace hS := hS.trans hT
  clear hT
  refine W ?_
  refine WL_eff (OE_buildSlice (vs := [(0, .int .i64 11), (1, .int .i64 12)]) rfl (buildSI2 _ _)) rfl ?_
  rintro a1 wq hN
  have s1 : SlV [] wq a1 ([11, 12] : List Int) := hN.slv (by simp) rfl rfl (by simp [maxLen])
  have hT := NewSl.stp hN
  clear hN
  replace hfo := hfo.up hT
  replace hS := hS.trans hT
  replace s0 := s0.up hT
  clear hT
  refine W ?_
  refine WL_eff (OE_buildSlice (vs := [(0, .int .i64 10), (1, .int .i64 12)]) rfl (buildSI2 _ _)) rfl ?_
  rintro a2 wq hN
  have s2 : SlV [] wq a2 ([10, 12] : List Int) := hN.slv (by simp) rfl rfl (by simp [maxLen])
  have hT := NewSl.stp hN
  clear hN
  replace hfo := hfo.up hT
  replace hS := hS.trans hT
  replace s0 := s0.up hT
  replace s1 := s1.up hT
  clear hT
  refine W ?_
  refine WL_eff (OE_buildSlice (vs := [(0, .int .i64 21)]) rfl (buildSI1 _)) rfl ?_
  rintro a3 wq hN
  have s3 : SlV [] wq a3 ([21] : List Int) := hN.slv (by simp) rfl rfl (by simp [maxLen])
  have hT := NewSl.stp hN
  clear hN
  replace hfo := hfo.up hT
  replace hS := hS.trans hT
  replace s0 := s0.up hT
  replace s1 := s1.up hT
  replace s2 := s2.up hT
  clear hT
  refine W ?_
  refine WL_eff (OE_buildSlice (vs := [(0, .int .i64 23)]) rfl (buildSI1 _)) rfl ?_
  rintro a4 wq hN
  have s4 : SlV [] wq a4 ([23] : List Int) := hN.slv (by simp) rfl rfl (by simp [maxLen])
  have hT := NewSl.stp hN
  clear hN
  replace hfo := hfo.up hT
  replace hS := hS.trans hT
  replace s0 := s0.up hT
  replace s1 := s1.up hT
  replace s2 := s2.up hT
  replace s3 := s3.up hT
  clear hT
  refine W ?_
  refine WL_eff (OE_buildSlice (vs := [(0, .int .i64 8), (1, .int .i64 18)]) rfl (buildSI2 _ _)) rfl ?_
  rintro a5 wq hN
  have s5 : SlV [] wq a5 ([8, 18] : List Int) := hN.slv (by simp) rfl rfl (by simp [maxLen])
  have hT := NewSl.stp hN
  clear hN
  replace hfo := hfo.up hT
  replace hS := hS.trans hT
  replace s0 := s0.up hT
  replace s1 := s1.up hT
  replace s2 := s2.up hT
  replace s3 := s3.up hT
  replace s4 := s4.up hT
  clear hT
  refine W ?_
  refine WL_eff (OE_buildSlice (vs := [(0, .int .i64 17)]) rfl (buildSI1 _)) rfl ?_
  rintro a6 wq hN
  have s6 : SlV [] wq a6 ([17] : List Int) := hN.slv (by simp) rfl rfl (by simp [maxLen])
  have hT := NewSl.stp hN
  clear hN
  replace hfo := hfo.up hT
  replace hS := hS.trans hT
  replace s0 := s0.up hT
  replace s1 := s1.up hT
  replace s2 := s2.up hT
  replace s3 := s3.up hT
  replace s4 := s4.up hT
  replace s5 := s5.up hT
  clear hT
  obtain ⟨p0, c0, rfl, -⟩ := id s0
  obtain ⟨p1, c1, rfl, -⟩ := id s1
  obtain ⟨p2, c2, rfl, -⟩ := id s2
  obtain ⟨p3, c3, rfl, -⟩ := id s3
  obtain ⟨p4, c4, rfl, -⟩ := id s4
  obtain ⟨p5, c5, rfl, -⟩ := id s5
  obtain ⟨p6, c6, rfl, -⟩ := id s6
  refine W ?_
  refine WL_eff (OE_buildSlice (vs := [(0, .slice p0 _ c0), (1, .slice p1 _ c1), (2, .slice p2 _ c2), (3, .slice p3 _ c3), (4, .slice p4 _ c4), (5, .slice p5 _ c5), (6, .slice p6 _ c6)]) rfl (buildSV7 _ _ _ _ _ _ _ _ _ _ _ _ _ _ _ _ _ _ _ _ _)) rfl ?_
  rintro ow wq hN
  have how : SlV [] wq ow own7 := hN.slvS (X := []) (xss := own7) (by simp) rfl rfl (fun i hi hi' => match i, hi with | 0, _ => s0 | 1, _ => s1 | 2, _ => s2 | 3, _ => s3 | 4, _ => s4 | 5, _ => s5 | 6, _ => s6) (by decide)
  have hT := NewSl.stp hN
  clear hN
  replace hfo := hfo.up hT
  replace hS := hS.trans hT
  clear hT s0 s1 s2 s3 s4 s5 s6
  refine W ?_
  refine WL_eff (OE_call rfl (evs2 rfl rfl) (Around03_any which 7 _ (by decide) hwh)) rfl ?_
  rintro _ w2 ⟨rfl, hT⟩
  have hr := around_range (if which < 0 then -(which + 1) else which) 7 (by decide)
  generalize (if which < 0 then -(which + 1) else which) % 7 = zi at *
  obtain ⟨i, rfl⟩ : ∃ i : Nat, zi = (i : Int) := ⟨zi.toNat, by omega⟩
  have hi7 : i < forms7.length := by show i < 7; omega
  have hi7' : i < own7.length := by show i < 7; omega
  replace hfo := hfo.up hT
  replace how := how.up hT
  replace hS := hS.trans hT
  clear hT
  refine W ?_
  refine WC_cutQ (σ := Unit) (fun _ => [(0, lv), (1, kv), (7, fv), (8, ow), (9, .int .i64 (i : Int)), (10, .int .i64 (kindA i)), (11, .int .i64 2)]) (fun _ w' => w' = w2) ?_ ?_
  · by_cases h3 : 3 ≤ i
    · repeat' (first | refine W1 ?_ | (exfalso; omega) | refine WL_split rfl rfl (fun hg => ?_) (fun hg => ?_) | refine WL_splitB rfl rfl (fun hg => ?_) (fun hg => ?_) | refine WC_cond rfl (fun hc => ?_) (fun hc => ?_) | refine WC_condB rfl (fun hc => ?_) (fun hc => ?_))
      exact WQ_cut () ⟨rfl, rfl, rfl, rfl, rfl, by rw [kindA, if_pos h3]; rfl, rfl, trivial⟩ rfl
    · repeat' (first | refine W1 ?_ | (exfalso; omega) | refine WL_split rfl rfl (fun hg => ?_) (fun hg => ?_) | refine WL_splitB rfl rfl (fun hg => ?_) (fun hg => ?_) | refine WC_cond rfl (fun hc => ?_) (fun hc => ?_) | refine WC_condB rfl (fun hc => ?_) (fun hc => ?_))
      exact WQ_cut () ⟨rfl, rfl, rfl, rfl, rfl, by rw [kindA, if_neg h3]; rfl, rfl, trivial⟩ rfl
  rintro _ w2 rfl
  refine W ?_
  refine WL_cutQ (σ := Bool) (fun q => [(0, lv), (1, kv), (7, fv), (8, ow), (9, .int .i64 (i : Int)), (10, .int .i64 (kindA i)), (11, .int .i64 2), (51, .bool q)]) (fun q w' => w' = w2 ∧ q = decide (i = 3 ∨ i = 4)) ?_ ?_
  · repeat' (first | refine W1 ?_ | (exfalso; omega) | refine WL_split rfl rfl (fun hg => ?_) (fun hg => ?_) | refine WL_splitB rfl rfl (fun hg => ?_) (fun hg => ?_) | refine WC_cond rfl (fun hc => ?_) (fun hc => ?_) | refine WC_condB rfl (fun hc => ?_) (fun hc => ?_))
    · refine WQ_cut true ⟨rfl, rfl, rfl, rfl, rfl, rfl, rfl, rfl, trivial⟩ ⟨rfl, ?_⟩
      rw [eq_comm, decide_eq_true_eq]; omega
    · refine WQ_cut _ ⟨rfl, rfl, rfl, rfl, rfl, rfl, rfl, rfl, trivial⟩ ⟨rfl, ?_⟩
      rw [decide_eq_decide]; omega
  rintro q w2 ⟨rfl, hq⟩
  try dsimp only
  refine WC_cutQ (σ := Unit) (fun _ => [(0, lv), (1, kv), (7, fv), (8, ow), (9, .int .i64 (i : Int)), (10, .int .i64 (kindA i)), (11, .int .i64 (kindB i))]) (fun _ w' => w' = w2) ?_ ?_
  · by_cases h3 : i = 3 ∨ i = 4
    · rw [decide_eq_true h3] at hq
      subst hq
      refine W ?_
      exact WQ_cut () ⟨rfl, rfl, rfl, rfl, rfl, rfl, by rw [kindB, if_pos h3]; rfl, trivial⟩ rfl
    · rw [decide_eq_false h3] at hq
      subst hq
      refine W ?_
      exact WQ_cut () ⟨rfl, rfl, rfl, rfl, rfl, rfl, by rw [kindB, if_neg h3]; rfl, trivial⟩ rfl
  rintro _ w2 rfl
  have hka : I64 (kindA i) := by unfold kindA I64; split <;> omega
  have hkb : I64 (kindB i) := by unfold kindB I64; split <;> omega
  clear hq
  refine W ?_
  refine WL_eff (OE_call rfl (evs3 rfl rfl rfl) (Expr_any [] lv l (kindA i) 4 4 _ (by decide) (by decide) rfl hka (hl0.up hS) hl (by simp))) rfl ?_
  rintro _ w3 ⟨xa, ⟨ka, rfl, sa⟩, za, ⟨ta, -⟩, hT⟩
  replace hfo := hfo.up hT
  replace how := how.up hT
  replace hS := hS.trans hT
  clear hT
  refine WL_eff OE_alloc rfl ?_
  rintro _ w4 ⟨b12, rfl, hb12, e12, hT⟩
  refine WL_eff0 (OE_storeA (us := ndC xa ka) rfl rfl rfl rfl (ndC_one sa) e12 rfl) ?_
  rintro _ w5 ⟨hT2, e12'⟩
  have hT3 := hT.own hT2 (fun b hb => .inr (by simp at hb; omega))
  replace sa := sa.up hT3
  replace hfo := hfo.up hT3
  replace how := how.up hT3
  replace hS := hS.trans hT3
  clear hT hT2 hT3 e12
  refine W ?_
  refine WL_eff (OE_call rfl (evs3 rfl rfl rfl) (Expr_any [] kv k (kindB i) 4 4 _ (by decide) (by decide) rfl hkb (hk0.up hS) hk (by simp))) rfl ?_
  rintro _ w3 ⟨xb, ⟨kb, rfl, sb⟩, zb, ⟨tb, -⟩, hT⟩
  replace sa := sa.up hT
  replace e12' := e12'.up hT
  replace hfo := hfo.up hT
  replace how := how.up hT
  replace hS := hS.trans hT
  clear hT
  refine WL_eff OE_alloc rfl ?_
  rintro _ w4 ⟨b13, rfl, hb13, e13, hT⟩
  have l12 := e12'.lt
  replace e12' := e12'.up hT
  refine WL_eff0 (OE_storeA (us := ndC xb kb) rfl rfl rfl rfl (ndC_one sb) e13 rfl) ?_
  rintro _ w5 ⟨hT2, e13'⟩
  replace e12' := e12'.ext hT2 (by simp; omega)
  have hT3 := hT.own hT2 (fun b hb => .inr (by simp at hb; omega))
  replace sa := sa.up hT3
  replace sb := sb.up hT3
  replace hfo := hfo.up hT3
  replace how := how.up hT3
  replace hS := hS.trans hT3
  clear hT hT2 hT3 e13
  obtain ⟨kf, sf, cf⟩ := hfo.nd hi7
  refine W ?_
  apply WL_pure (PR_loadNd rfl rfl hfo hi7 cf) rfl
  refine W ?_
  refine WL_eff OE_alloc rfl ?_
  rintro _ w4 ⟨b14, rfl, hb14, e14, hT⟩
  have hb14w : w.heap.size ≤ b14 := Nat.le_trans hS.size hb14
  have n1 : b12 ≠ b14 := by have := e12'.lt; omega
  have n2 : b13 ≠ b14 := by have := e13'.lt; omega
  have l12 := e12'.lt
  have l13 := e13'.lt
  replace e12' := e12'.up hT
  replace e13' := e13'.up hT
  refine WL_eff0 (OE_storeA (us := ndC forms7[i] kf) rfl rfl rfl rfl (ndC_one sf) e14 rfl) ?_
  rintro _ w5 ⟨hT2, e14'⟩
  replace e12' := e12'.ext hT2 (by simp; omega)
  replace e13' := e13'.ext hT2 (by simp; omega)
  have hT3 := hT.own hT2 (fun b hb => .inr (by simp at hb; omega))
  replace sa := sa.ext (X' := [b14]) hT3 (by simp) (fun b hb => .inr (by simp at hb; omega))
  replace sb := sb.ext (X' := [b14]) hT3 (by simp) (fun b hb => .inr (by simp at hb; omega))
  replace how := how.ext (X' := [b14]) hT3 (by simp) (fun b hb => .inr (by simp at hb; omega))
  replace hS := hS.trans hT3
  clear hT hT2 hT3 e14 hfo sf cf
  obtain ⟨pa, ca, rfl, -⟩ := id sa
  obtain ⟨pb, cb, rfl, -⟩ := id sb
  refine W ?_
  refine WL_eff (OE_buildSlice (vs := [(0, .agg #[.int .i64 xa.kind, .int .i64 xa.num, str xa.word, .slice pa xa.kids.length ca]), (1, .agg #[.int .i64 xb.kind, .int .i64 xb.num, str xb.word, .slice pb xb.kids.length cb])]) rfl (buildSN2 _ _ _ _ _ _ _ _ _ _ _ _)) rfl ?_
  rintro bv wq hN
  have l14 := e14'.lt
  have hbv : SlV [b14] wq bv [xa, xb] := hN.slvG (X := [b14]) (css := [ndC xa _, ndC xb _]) (fun b hb => by simp at hb; omega) rfl rfl rfl (reps2 sa sb) (by simp [maxLen])
  have hT := NewSl.stp hN
  clear hN
  replace sa := sa.up hT
  replace sb := sb.up hT
  replace how := how.up hT
  replace e12' := e12'.up hT
  replace e13' := e13'.up hT
  replace e14' := e14'.up hT
  replace hS := hS.trans hT
  clear hT
  obtain ⟨pv, cv, rfl, -⟩ := id hbv
  refine W ?_
  refine WL_eff0 (OE_store1 rfl rfl rfl rfl e14' (by simp [ndC])) ?_
  rintro _ w6 ⟨hT, e14n⟩
  have e14n' : Blk w6 b14 24 (ndC (.mk forms7[i].kind forms7[i].num forms7[i].word [xa, xb]) (.slice pv 2 cv)) := e14n
  have hX : ∀ b ∈ [b14], b ∈ [b14] := fun _ h => h
  replace hbv := hbv.ext (X' := [b14]) hT hX (fun _ h => .inl h)
  replace sa := sa.ext (X' := [b14]) hT hX (fun _ h => .inl h)
  replace sb := sb.ext (X' := [b14]) hT hX (fun _ h => .inl h)
  replace how := how.ext (X' := [b14]) hT hX (fun _ h => .inl h)
  replace e12' := e12'.ext hT (by simp; exact n1)
  replace e13' := e13'.ext hT (by simp; exact n2)
  replace hS := hS.own hT (fun b hb => .inr (by simp at hb; omega))
  clear hT e14n e14'
  replace hbv := hbv.wk (X' := []) (by simp)
  replace sa := sa.wk (X' := []) (by simp)
  replace sb := sb.wk (X' := []) (by simp)
  replace how := how.wk (X' := []) (by simp)
  have hsn : sizeN (.mk forms7[i].kind forms7[i].num forms7[i].word [xa, xb]) = 1 + sizeN xa + sizeN xb := size2 _ _ _ _ _
  have htn : typeT (.mk forms7[i].kind forms7[i].num forms7[i].word [xa, xb]) ≠ 0 := by
    rw [typeT_eq]
    simp only [Nd.kind, Nd.num, Nd.word, Nd.kids, List.map_cons, List.map_nil]
    rw [ta, tb]
    exact forms_type i hi7
  have hcn : ∀ f g : Cf, combC forms7[i].kind forms7[i].num forms7[i].word [f, g] 0 = f 0 ++ g (f 0).length ++ insO own7[i].l := forms_code i hi7 hi7'
  have hen := errX_02 htn
  have hcode : exprF (.mk forms7[i].kind forms7[i].num forms7[i].word [xa, xb]) = codeN xa 0 ++ codeN xb (codeN xa 0).length ++ insO own7[i].l ++ [⟨24, 0⟩] := by
    unfold exprF
    rw [codeN_eq]
    show combC forms7[i].kind forms7[i].num forms7[i].word [codeN xa, codeN xb] 0 ++ _ = _
    rw [hcn]
  have hxn : NdV [] w6 (.agg (ndC (.mk forms7[i].kind forms7[i].num forms7[i].word [xa, xb]) (.slice pv 2 cv)).toArray) (.mk forms7[i].kind forms7[i].num forms7[i].word [xa, xb]) := ⟨_, rfl, hbv⟩
  generalize (Nd.mk forms7[i].kind forms7[i].num forms7[i].word [xa, xb]) = xn at *
  have hea := errX_02 (x := xa) (by rw [ta]; unfold kindA; split <;> decide)
  have heb := errX_02 (x := xb) (by rw [tb]; unfold kindB; split <;> decide)
  refine W ?_
  refine WL_eff (OE_call rfl (evs1 rfl) (Expression_any _ xa _ (by omega) ⟨_, rfl, sa⟩ (hF.up hS))) rfl ?_
  rintro _ w7 ⟨va, rfl, ha, hT⟩
  replace ha := ha [] (by simp)
  replace sb := sb.up hT
  replace hxn := hxn.up hT
  replace how := how.up hT
  replace e13' := e13'.up hT
  replace e14n' := e14n'.up hT
  replace hS := hS.trans hT
  clear hT
  refine W ?_
  refine WL_eff (OE_call rfl (evs1 rfl) (Expression_any _ xb _ (by omega) ⟨_, rfl, sb⟩ (hF.up hS))) rfl ?_
  rintro _ w8 ⟨vb, rfl, hb, hT⟩
  replace hb := hb [] (by simp)
  replace ha := ha.up hT
  replace hxn := hxn.up hT
  replace how := how.up hT
  replace e14n' := e14n'.up hT
  replace hS := hS.trans hT
  clear hT
  refine W ?_
  refine WL_eff (OE_call rfl (evs1 rfl) (Expression_any _ xn _ (by omega) hxn (hF.up hS))) rfl ?_
  rintro _ w9 ⟨vc, rfl, hzc, hT⟩
  replace hzc := hzc [] (by simp)
  replace ha := ha.up hT
  replace hb := hb.up hT
  replace how := how.up hT
  replace hS := hS.trans hT
  clear hT e14n' hxn sb sa hbv
  refine W ?_
  by_cases hall : errX xa = 0 ∧ errX xb = 0 ∧ errX xn = 0
  case neg =>
    repeat' (first | refine W1 ?_ | (exfalso; omega) | refine WL_split rfl rfl (fun hg => ?_) (fun hg => ?_) | refine WL_splitB rfl rfl (fun hg => ?_) (fun hg => ?_) | refine WC_cond rfl (fun hc => ?_) (fun hc => ?_) | refine WC_condB rfl (fun hc => ?_) (fun hc => ?_))
    all_goals
      refine WL_eff (OE_call rfl evs0 (lives15_any _ (hF.up hS))) rfl ?_
      rintro _ w10 ⟨rfl, hT⟩
      refine W ?_
      first | refine WQ_ret1 rfl rfl ?_ | refine WQ_ret2 rfl rfl rfl ?_ | refine WQ_ret3 rfl rfl rfl rfl ?_ | refine WQ_ret0 rfl ?_ | refine WQ_end0 rfl ?_
      exact .mk ⟨rfl, hS.trans hT⟩
  obtain ⟨ea, eb, ec⟩ := hall
  rw [ea, if_pos rfl] at ha
  rw [eb, if_pos rfl] at hb
  rw [ec, if_pos rfl, hcode] at hzc
  have exa : exprF xa = codeN xa 0 ++ [⟨24, 0⟩] := rfl
  have exb : exprF xb = codeN xb 0 ++ [⟨24, 0⟩] := rfl
  have lea := errX_len ea
  have leb := errX_len eb
  have hsh := (code_both xb).1 0 (codeN xa 0).length
  have hbd := (code_both xb).2 0
  rw [Nat.zero_add] at hsh
  rw [hsh] at hzc
  rw [exa] at ha lea
  rw [exb] at hb leb
  generalize codeN xa 0 = A at *
  generalize codeN xb 0 = B at *
  have hla : (A ++ [(⟨24, 0⟩ : Ins)]).length = A.length + 1 := by simp
  have hlb : (B ++ [(⟨24, 0⟩ : Ins)]).length = B.length + 1 := by simp
  have hlO : own7[i].l.length ≤ 2 := by
    have : ∀ i (h : i < own7.length), own7[i].l.length ≤ 2 := by
      intro i h
      match i, h with
      | 0, _ => exact (by decide : ([5] : List Int).length ≤ 2)
      | 1, _ => exact (by decide : ([11, 12] : List Int).length ≤ 2)
      | 2, _ => exact (by decide : ([10, 12] : List Int).length ≤ 2)
      | 3, _ => exact (by decide : ([21] : List Int).length ≤ 2)
      | 4, _ => exact (by decide : ([23] : List Int).length ≤ 2)
      | 5, _ => exact (by decide : ([8, 18] : List Int).length ≤ 2)
      | 6, _ => exact (by decide : ([17] : List Int).length ≤ 2)
    exact this i hi7'
  clear hcode hsh exa exb
  repeat' (first | refine W1 ?_ | (exfalso; omega) | refine WL_split rfl rfl (fun hg => ?_) (fun hg => ?_) | refine WL_splitB rfl rfl (fun hg => ?_) (fun hg => ?_) | refine WC_cond rfl (fun hc => ?_) (fun hc => ?_) | refine WC_condB rfl (fun hc => ?_) (fun hc => ?_))
  have hkk : ((A ++ [(⟨24, 0⟩ : Ins)]).length : Int) - 1 = (A.length : Int) := by omega
  refine WL_slice_h rfl ha rfl hkk (by omega) rfl ?_
  have hA := ha.slc (l := 0) (r := A.length) (by omega) (by omega)
  rw [List.drop_zero, List.take_left] at hA
  have h0 : RwI w9 w9 (.slice none 0 0) [] := RowF.nil
  refine WL_eff (OE_appF (ys := A) rfl (by decide) rfl rfl h0 (hA.wk (by simp [ob])) (by simp; omega) (by simp [maxLen]; omega)) rfl ?_
  rintro wv w10 ⟨hr, -, -⟩
  rw [List.nil_append] at hr
  have hrs := hr.1.slv0
  refine W ?_
  clear hrs hA h0
  refine WC_loop (σ := Nat × Value) (fun q => [(8, ow), (9, .int .i64 (i : Int)), (17, vb), (19, vc), (21, q.2), (22, .int .i64 (A.length : Int)), (23, .int .i64 (q.1 : Int))])
    (fun q w' => q.1 ≤ B.length ∧ RwI w9 w' q.2 (A ++ (B.take q.1).map (shI A.length))) (fun q => B.length - q.1) (0, wv) ⟨rfl, rfl, rfl, rfl, rfl, rfl, rfl, trivial⟩ ⟨Nat.zero_le _, by simpa using hr⟩ ?_
  clear hr
  rintro ⟨j, sv⟩ w11 ⟨hj, hr⟩
  try dsimp only at hj hr ⊢
  have hb11 := hb.up hr.2
  by_cases hlt : j < B.length
  · have hjl : j < (B ++ [(⟨24, 0⟩ : Ins)]).length := by omega
    have hbj : (B ++ [(⟨24, 0⟩ : Ins)])[j] = B[j] := List.getElem_append_left hlt
    have hln : (A ++ (B.take j).map (shI A.length)).length = A.length + j := by simp; omega
    have htk : B.take (j + 1) = B.take j ++ [B[j]] := by rw [List.take_succ_eq_append_getElem hlt]
    have hbc := hbd B[j] (List.getElem_mem hlt)
    generalize hcj : B[j] = c at *
    repeat' (first | refine W1 ?_ | (exfalso; omega) | refine WL_split rfl rfl (fun hg => ?_) (fun hg => ?_) | refine WL_splitB rfl rfl (fun hg => ?_) (fun hg => ?_) | refine WC_cond rfl (fun hc => ?_) (fun hc => ?_) | refine WC_condB rfl (fun hc => ?_) (fun hc => ?_))
    refine WL_eff OE_alloc rfl ?_
    rintro _ w12 ⟨b24, rfl, hb24, e24, hT⟩
    rw [hbj]
    refine WL_eff0 (OE_storeA (us := Flat.enc c) rfl rfl rfl rfl (Flat.one _) e24 rfl) ?_
    rintro _ w13 ⟨hT2, e24'⟩
    have hT3 := hT.own hT2 (fun b hb => .inr (by simp at hb; omega))
    have hb9 : w9.heap.size ≤ b24 := Nat.le_trans hr.2.size hb24
    have nsv : b24 ∉ ob sv := fun h => by have := (hr.ob_le b24 h).2; omega
    replace hr := hr.up hT3
    clear hT hT2 hT3 e24
    have e24c : Blk w13 b24 47 [.int .i64 c.op, .int .i64 c.n] := e24'
    clear e24'
    by_cases hjm : c.op = 13 ∨ c.op = 14
    · have hsI : shI A.length c = ⟨c.op, c.n + A.length⟩ := if_pos hjm
      have hbn := hbc hjm
      repeat' (first | refine W1 ?_ | (exfalso; omega) | refine WL_split rfl rfl (fun hg => ?_) (fun hg => ?_) | refine WL_splitB rfl rfl (fun hg => ?_) (fun hg => ?_) | refine WC_cond rfl (fun hc => ?_) (fun hc => ?_) | refine WC_condB rfl (fun hc => ?_) (fun hc => ?_))
      all_goals
        refine WL_eff0 (OE_store1 rfl rfl rfl rfl e24c (by simp)) ?_
        rintro _ w14 ⟨hT, e24n⟩
        have e24m : Blk w14 b24 47 [.int .i64 c.op, .int .i64 (c.n + A.length)] := e24n
        have l9 := hr.1.ob_le
        replace hr : RwI w9 w14 sv (A ++ (B.take j).map (shI A.length)) := ⟨hr.1.keep hT (fun b hb => by simp at hb; rw [hb]; exact nsv), hr.2.own hT (fun b hb => .inr (by simp at hb; omega))⟩
        refine W ?_
        refine WL_eff (OE_buildSlice (vs := [(0, agg (Ins.mk c.op (c.n + A.length)))]) rfl (buildIns1 _)) rfl ?_
        rintro u wp hN
        have hu : SlV (ob sv) wp u [(Ins.mk c.op (c.n + A.length))] := hN.slv (fun b hb => (hr.ob_le b hb).2) rfl rfl (by simp [maxLen])
        replace hr := hr.up (NewSl.stp hN)
        clear hN
        refine WL_eff (OE_appF rfl (by decide) rfl rfl hr hu (by rw [hln]; simp; omega) (by rw [hln]; simp [maxLen]; omega)) rfl ?_
        rintro v' wr ⟨hr', -, -⟩
        refine W ?_
        refine WQ_loop (j + 1, v') ⟨rfl, rfl, rfl, rfl, rfl, rfl, rfl, trivial⟩ ⟨hlt, ?_⟩ (Nat.sub_lt_sub_left hlt (Nat.lt_succ_self j))
        dsimp only
        rw [htk, List.map_append, ← List.append_assoc, List.map_cons, List.map_nil, hsI]
        exact hr'
    · have hsI : shI A.length c = c := if_neg hjm
      repeat' (first | refine W1 ?_ | (exfalso; omega) | refine WL_split rfl rfl (fun hg => ?_) (fun hg => ?_) | refine WL_splitB rfl rfl (fun hg => ?_) (fun hg => ?_) | refine WC_cond rfl (fun hc => ?_) (fun hc => ?_) | refine WC_condB rfl (fun hc => ?_) (fun hc => ?_))
      refine W ?_
      refine WL_eff (OE_buildSlice (vs := [(0, agg c)]) rfl (buildIns1 _)) rfl ?_
      rintro u wp hN
      have hu : SlV (ob sv) wp u [c] := hN.slv (fun b hb => (hr.ob_le b hb).2) rfl rfl (by simp [maxLen])
      replace hr := hr.up (NewSl.stp hN)
      clear hN
      refine WL_eff (OE_appF rfl (by decide) rfl rfl hr hu (by rw [hln]; simp; omega) (by rw [hln]; simp [maxLen]; omega)) rfl ?_
      rintro v' wr ⟨hr', -, -⟩
      refine W ?_
      refine WQ_loop (j + 1, v') ⟨rfl, rfl, rfl, rfl, rfl, rfl, rfl, trivial⟩ ⟨hlt, ?_⟩ (Nat.sub_lt_sub_left hlt (Nat.lt_succ_self j))
      dsimp only
      rw [htk, List.map_append, ← List.append_assoc, List.map_cons, List.map_nil, hsI]
      exact hr'
  obtain rfl : j = B.length := by omega
  rw [List.take_length] at hr
  have hln : (A ++ B.map (shI A.length)).length = A.length + B.length := by simp
  repeat' (first | refine W1 ?_ | (exfalso; omega) | refine WL_split rfl rfl (fun hg => ?_) (fun hg => ?_) | refine WL_splitB rfl rfl (fun hg => ?_) (fun hg => ?_) | refine WC_cond rfl (fun hc => ?_) (fun hc => ?_) | refine WC_condB rfl (fun hc => ?_) (fun hc => ?_))
  have how2 := how.up hr.2
  refine WC_loop (σ := Nat × Value) (fun q => [(8, ow), (9, .int .i64 (i : Int)), (19, vc), (21, q.2), (25, .int .i64 (q.1 : Int))])
    (fun q w' => q.1 ≤ own7[i].l.length ∧ RwI w9 w' q.2 (A ++ B.map (shI A.length) ++ insO (own7[i].l.take q.1))) (fun q => own7[i].l.length - q.1) (0, sv) ⟨rfl, rfl, rfl, rfl, rfl, trivial⟩ ⟨Nat.zero_le _, by simpa [insO] using hr⟩ ?_
  clear hr how2
  rintro ⟨j, sv⟩ w12 ⟨hj, hr⟩
  try dsimp only at hj hr ⊢
  have how2 := how.up hr.2
  obtain ⟨uo, huo, hso⟩ := how2.sub hi7'
  have hlm : (A ++ B.map (shI A.length) ++ insO (own7[i].l.take j)).length = A.length + B.length + j := by simp [insO]; omega
  by_cases hlt : j < own7[i].l.length
  · have htk : own7[i].l.take (j + 1) = own7[i].l.take j ++ [own7[i].l[j]] := by rw [List.take_succ_eq_append_getElem hlt]
    repeat' (first | refine W1 ?_ | (exfalso; omega) | refine WL_split rfl rfl (fun hg => ?_) (fun hg => ?_) | refine WL_splitB rfl rfl (fun hg => ?_) (fun hg => ?_) | refine WC_cond rfl (fun hc => ?_) (fun hc => ?_) | refine WC_condB rfl (fun hc => ?_) (fun hc => ?_))
    apply WL_pure (PR_load1 rfl rfl huo) rfl
    repeat' (first | refine W1 ?_ | (exfalso; omega) | refine WL_split rfl rfl (fun hg => ?_) (fun hg => ?_) | refine WL_splitB rfl rfl (fun hg => ?_) (fun hg => ?_) | refine WC_cond rfl (fun hc => ?_) (fun hc => ?_) | refine WC_condB rfl (fun hc => ?_) (fun hc => ?_))
    apply WL_pure (PR_load1 rfl rfl huo) rfl
    repeat' (first | refine W1 ?_ | (exfalso; omega) | refine WL_split rfl rfl (fun hg => ?_) (fun hg => ?_) | refine WL_splitB rfl rfl (fun hg => ?_) (fun hg => ?_) | refine WC_cond rfl (fun hc => ?_) (fun hc => ?_) | refine WC_condB rfl (fun hc => ?_) (fun hc => ?_))
    apply WL_build (vs := [(0, .int .i64 own7[i].l[j])]) rfl (buildI0 _) rfl
    refine W ?_
    refine WL_eff (OE_buildSlice (vs := [(0, agg (Ins.mk own7[i].l[j] 0))]) rfl (buildIns1 _)) rfl ?_
    rintro u wp hN
    have hu : SlV (ob sv) wp u [(Ins.mk own7[i].l[j] 0)] := hN.slv (fun b hb => (hr.ob_le b hb).2) rfl rfl (by simp [maxLen])
    replace hr := hr.up (NewSl.stp hN)
    clear hN
    refine WL_eff (OE_appF rfl (by decide) rfl rfl hr hu (by rw [hlm]; simp; omega) (by rw [hlm]; simp [maxLen]; omega)) rfl ?_
    rintro v' wr ⟨hr', -, -⟩
    refine W ?_
    refine WQ_loop (j + 1, v') ⟨rfl, rfl, rfl, rfl, rfl, trivial⟩ ⟨hlt, ?_⟩ (Nat.sub_lt_sub_left hlt (Nat.lt_succ_self j))
    dsimp only
    have e : insO (own7[i].l.take j ++ [own7[i].l[j]]) = insO (own7[i].l.take j) ++ [Ins.mk own7[i].l[j] 0] := by unfold insO; rw [List.map_append]; rfl
    rw [htk, e, ← List.append_assoc]
    exact hr'
  obtain rfl : j = own7[i].l.length := by omega
  rw [List.take_length] at hr hlm
  repeat' (first | refine W1 ?_ | (exfalso; omega) | refine WL_split rfl rfl (fun hg => ?_) (fun hg => ?_) | refine WL_splitB rfl rfl (fun hg => ?_) (fun hg => ?_) | refine WC_cond rfl (fun hc => ?_) (fun hc => ?_) | refine WC_condB rfl (fun hc => ?_) (fun hc => ?_))
  apply WL_pure (PR_load1 rfl rfl huo) rfl
  repeat' (first | refine W1 ?_ | (exfalso; omega) | refine WL_split rfl rfl (fun hg => ?_) (fun hg => ?_) | refine WL_splitB rfl rfl (fun hg => ?_) (fun hg => ?_) | refine WC_cond rfl (fun hc => ?_) (fun hc => ?_) | refine WC_condB rfl (fun hc => ?_) (fun hc => ?_))
  apply WL_build (vs := [(0, .int .i64 24)]) rfl (buildI0 _) rfl
  refine W ?_
  refine WL_eff (OE_buildSlice (vs := [(0, agg (Ins.mk 24 0))]) rfl (buildIns1 _)) rfl ?_
  rintro u wp hN
  have hu : SlV (ob sv) wp u [(Ins.mk 24 0)] := hN.slv (fun b hb => (hr.ob_le b hb).2) rfl rfl (by simp [maxLen])
  replace hr := hr.up (NewSl.stp hN)
  clear hN
  refine WL_eff (OE_appF rfl (by decide) rfl rfl hr hu (by rw [hlm]; simp; omega) (by rw [hlm]; simp [maxLen]; omega)) rfl ?_
  rintro v' wr ⟨hr', -, -⟩
  refine W ?_
  have hcc := hzc.up hr'.2
  refine WL_eff (OE_call rfl (evs2 rfl rfl) (SameCode_any _ _ _ _ _ hcc hr'.1.slv0)) rfl ?_
  rintro _ w13 ⟨rfl, hT⟩
  rw [decide_eq_true rfl]
  have hSf := (hS.trans hr'.2).trans hT
  repeat' (first | refine W1 ?_ | (exfalso; omega) | refine WL_split rfl rfl (fun hg => ?_) (fun hg => ?_) | refine WL_splitB rfl rfl (fun hg => ?_) (fun hg => ?_) | refine WC_cond rfl (fun hc => ?_) (fun hc => ?_) | refine WC_condB rfl (fun hc => ?_) (fun hc => ?_))
  all_goals try (exact absurd rfl (by assumption))
  refine WL_eff (OE_call rfl evs0 (lives15_any _ (hF.up hSf))) rfl ?_
  rintro _ w14 ⟨rfl, hT⟩
  refine W ?_
  first | refine WQ_ret1 rfl rfl ?_ | refine WQ_ret2 rfl rfl rfl ?_ | refine WQ_ret3 rfl rfl rfl rfl ?_ | refine WQ_ret0 rfl ?_ | refine WQ_end0 rfl ?_
  exact .mk ⟨rfl, hSf.trans hT⟩
end Go.Proofs.YtfjmlobgjdmecaaDoor
