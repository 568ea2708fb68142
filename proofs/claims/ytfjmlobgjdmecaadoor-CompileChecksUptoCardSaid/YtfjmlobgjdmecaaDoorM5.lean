/-
Merged by program out of own texts: Prt2, Prt3, Eng17, Shl, Nam1, Nam2, Nam3, Nam4, Nam5, Rg1, Rul1, Rul2, Shl2, Srt1, Use1, Liv3, Liv4, Nst1.
-/
import Derived.Test.YtfjmlobgjdmecaaDoorM4
import Derived.Lib.ConvBytes
import Derived.Laws.AppendOwn
import Derived.Shelf.Small.Bits
import Derived.Shelf.Strconv.Itoa0
import Derived.Shelf.Strings.Search1
import Derived.Shelf.Strings.Search2
import Derived.Shelf.Strings.Search3
import Derived.Shelf.LaysM
import Derived.Shelf.Strings.Shaped
import Derived.Ground.Names2Prog
import Derived.Shelf.Slices.CompactI
import Derived.Shelf.Slices.SearchI
import Derived.Shelf.Slices.Cells
import Derived.Test.YtfjmlobgjdmecaaDoorProg
import Derived.Test.YtfjmlobgjdmecaaDoorChecked
import Derived.Shelf.Sort.Plain
import Derived.Shelf.Slices.In.SortNone
namespace Go.Proofs.YtfjmlobgjdmecaaDoor
open Go Go.Eng Go.RowKit
set_option linter.unusedVariables false

theorem Around03_any (z : Int) (m : Int) (w : World) (hm : 0 < m) (hz : I64 z) : Calls Tryd.prog 24 #[.int .i64 z, .int .i64 m] w (Ret fun r w' => r = .int .i64 ((if z < 0 then -(z + 1) else z) % m) ∧ Stp [] w w') := by
  unfold I64 at hz
  refine calls_of_WC2 (n := 13) Tryd.func24 rfl rfl rfl ?_
  by_cases h : z < 0
  · repeat' (first | refine W1 ?_ | (exfalso; omega) | refine WL_split rfl rfl (fun hg => ?_) (fun hg => ?_) | refine WL_splitB rfl rfl (fun hg => ?_) (fun hg => ?_) | refine WC_cond rfl (fun hc => ?_) (fun hc => ?_) | refine WC_condB rfl (fun hc => ?_) (fun hc => ?_))
    first | refine WQ_ret1 rfl rfl ?_ | refine WQ_ret2 rfl rfl rfl ?_ | refine WQ_ret3 rfl rfl rfl rfl ?_ | refine WQ_ret0 rfl ?_ | refine WQ_end0 rfl ?_
    exact .mk ⟨by rw [if_pos h], Stp.refl _ _⟩
  · repeat' (first | refine W1 ?_ | (exfalso; omega) | refine WL_split rfl rfl (fun hg => ?_) (fun hg => ?_) | refine WL_splitB rfl rfl (fun hg => ?_) (fun hg => ?_) | refine WC_cond rfl (fun hc => ?_) (fun hc => ?_) | refine WC_condB rfl (fun hc => ?_) (fun hc => ?_))
    first | refine WQ_ret1 rfl rfl ?_ | refine WQ_ret2 rfl rfl rfl ?_ | refine WQ_ret3 rfl rfl rfl rfl ?_ | refine WQ_ret0 rfl ?_ | refine WQ_end0 rfl ?_
    exact .mk ⟨by rw [if_neg h], Stp.refl _ _⟩
theorem buildSN7 (k0 k1 k2 k3 k4 k5 k6 : Int) (s0 s1 s2 s3 s4 s5 s6 : Str) (w : World) : (Instr.buildSlice 22 7 #[(0, .agg #[.int .i64 k0, .int .i64 0, str s0, .slice none 0 0]), (1, .agg #[.int .i64 k1, .int .i64 0, str s1, .slice none 0 0]), (2, .agg #[.int .i64 k2, .int .i64 0, str s2, .slice none 0 0]), (3, .agg #[.int .i64 k3, .int .i64 0, str s3, .slice none 0 0]), (4, .agg #[.int .i64 k4, .int .i64 0, str s4, .slice none 0 0]), (5, .agg #[.int .i64 k5, .int .i64 0, str s5, .slice none 0 0]), (6, .agg #[.int .i64 k6, .int .i64 0, str s6, .slice none 0 0])]).run Tryd.prog w = .ok (.slice (some ⟨w.heap.size, 0, none⟩) 7 7) (w.alloc (.cells #[.int .i64 k0, .int .i64 0, str s0, .slice none 0 0, .int .i64 k1, .int .i64 0, str s1, .slice none 0 0, .int .i64 k2, .int .i64 0, str s2, .slice none 0 0, .int .i64 k3, .int .i64 0, str s3, .slice none 0 0, .int .i64 k4, .int .i64 0, str s4, .slice none 0 0, .int .i64 k5, .int .i64 0, str s5, .slice none 0 0, .int .i64 k6, .int .i64 0, str s6, .slice none 0 0] 24)) := by kernel_rfl
theorem buildSV7 (p0 p1 p2 p3 p4 p5 p6 : Option Addr) (l0 l1 l2 l3 l4 l5 l6 c0 c1 c2 c3 c4 c5 c6 : Nat) (w : World) : (Instr.buildSlice 44 7 #[(0, .slice p0 l0 c0), (1, .slice p1 l1 c1), (2, .slice p2 l2 c2), (3, .slice p3 l3 c3), (4, .slice p4 l4 c4), (5, .slice p5 l5 c5), (6, .slice p6 l6 c6)]).run Tryd.prog w = .ok (.slice (some ⟨w.heap.size, 0, none⟩) 7 7) (w.alloc (.cells #[.slice p0 l0 c0, .slice p1 l1 c1, .slice p2 l2 c2, .slice p3 l3 c3, .slice p4 l4 c4, .slice p5 l5 c5, .slice p6 l6 c6] 25)) := by kernel_rfl
def forms7 : List Nd := [.mk 6 0 [43] [], .mk 6 0 [33, 61] [], .mk 6 0 [62] [], .mk 10 0 [108, 97, 116, 101, 114] [], .mk 10 0 [98, 101, 116, 119, 101, 101, 110] [], .mk 8 0 [99, 111, 117, 114, 116, 100, 97, 121, 115] [], .mk 7 0 [109, 111, 110, 116, 104, 115] []]
def own7 : List (Sl Int) := [⟨[5]⟩, ⟨[11, 12]⟩, ⟨[10, 12]⟩, ⟨[21]⟩, ⟨[23]⟩, ⟨[8, 18]⟩, ⟨[17]⟩]
def kindA (i : Nat) : Int := if 3 ≤ i then 0 else 2
def kindB (i : Nat) : Int := if i = 3 ∨ i = 4 then 0 else 2
theorem forms_type : ∀ i (h : i < forms7.length), combT forms7[i].kind forms7[i].num forms7[i].word [kindT (kindA i), kindT (kindB i)] ≠ 0 := by
  intro i h
  match i, h with
  | 0, _ => exact (by decide : combT 6 0 [43] [kindT (kindA 0), kindT (kindB 0)] ≠ 0)
  | 1, _ => exact (by decide : combT 6 0 [33, 61] [kindT (kindA 1), kindT (kindB 1)] ≠ 0)
  | 2, _ => exact (by decide : combT 6 0 [62] [kindT (kindA 2), kindT (kindB 2)] ≠ 0)
  | 3, _ => exact (by decide : combT 10 0 [108, 97, 116, 101, 114] [kindT (kindA 3), kindT (kindB 3)] ≠ 0)
  | 4, _ => exact (by decide : combT 10 0 [98, 101, 116, 119, 101, 101, 110] [kindT (kindA 4), kindT (kindB 4)] ≠ 0)
  | 5, _ => exact (by decide : combT 8 0 [99, 111, 117, 114, 116, 100, 97, 121, 115] [kindT (kindA 5), kindT (kindB 5)] ≠ 0)
  | 6, _ => exact (by decide : combT 7 0 [109, 111, 110, 116, 104, 115] [kindT (kindA 6), kindT (kindB 6)] ≠ 0)
theorem forms_code : ∀ i (h : i < forms7.length) (h' : i < own7.length) (f g : Cf), combC forms7[i].kind forms7[i].num forms7[i].word [f, g] 0 = f 0 ++ g (f 0).length ++ insO own7[i].l := by
  intro i h h' f g
  match i, h, h' with
  | 0, _, _ =>
    have e : opF [43] = [5] := rfl
    simp [combC, plainC, seqC, forms7, own7, Nd.kind, Nd.word, e, insO]
  | 1, _, _ =>
    have e : opF [33, 61] = [11, 12] := rfl
    simp [combC, plainC, seqC, forms7, own7, Nd.kind, Nd.word, e, insO]
  | 2, _, _ =>
    have e : opF [62] = [10, 12] := rfl
    simp [combC, plainC, seqC, forms7, own7, Nd.kind, Nd.word, e, insO]
  | 3, _, _ =>
    have e : opF [108, 97, 116, 101, 114] = [21] := rfl
    simp [combC, plainC, seqC, forms7, own7, Nd.kind, Nd.word, e, insO]
  | 4, _, _ =>
    have e : opF [98, 101, 116, 119, 101, 101, 110] = [23] := rfl
    simp [combC, plainC, seqC, forms7, own7, Nd.kind, Nd.word, e, insO]
  | 5, _, _ =>
    have e : opF [99, 111, 117, 114, 116, 100, 97, 121, 115] = [18] := rfl
    simp [combC, plainC, seqC, forms7, own7, Nd.kind, Nd.word, e, insO]
  | 6, _, _ =>
    have e : opF [109, 111, 110, 116, 104, 115] = [17] := rfl
    simp [combC, plainC, seqC, forms7, own7, Nd.kind, Nd.word, e, insO]
theorem errX_02 {x : Nd} (h : typeT x ≠ 0) : errX x = 0 ∨ errX x = 2 := by
  unfold errX
  split
  · split
    · exact .inr rfl
    · exact .inl rfl
  · exact .inr rfl
theorem errX_len {x : Nd} (h : errX x = 0) : (exprF x).length ≤ 200 := by
  unfold errX at h
  split at h
  · split at h
    · cases h
    · split at h
      · cases h
      · omega
  · cases h
end Go.Proofs.YtfjmlobgjdmecaaDoor
namespace Go.Proofs.YtfjmlobgjdmecaaDoor
open Go Go.Eng Go.RowKit
set_option linter.unusedVariables false

theorem partsLaw (lv kv : Value) (l k : List Int) (which : Int) (w : World) (hF : SlV [] w flds fieldNames) (hl0 : SlV [] w lv l) (hk0 : SlV [] w kv k) (hl : ∀ a ∈ l, I64 a) (hk : ∀ a ∈ k, I64 a) (hwh : I64 which) :
    Calls Tryd.prog 6 #[lv, kv, .int .i64 which] w (Ret fun r w' => r = .bool true ∧ Stp [] w w') := by
  refine calls_of_WC3 (n := 179) Tryd.func6 rfl rfl rfl ?_
  refine W ?_
  apply WL_build (vs := [(0, .int .i64 6), (2, str [43])]) rfl (buildN02 _ _) rfl
  refine W ?_
  apply WL_build (vs := [(0, .int .i64 6), (2, str [33, 61])]) rfl (buildN02 _ _) rfl
  refine W ?_
  apply WL_build (vs := [(0, .int .i64 6), (2, str [62])]) rfl (buildN02 _ _) rfl
  refine W ?_
  apply WL_build (vs := [(0, .int .i64 10), (2, str [108, 97, 116, 101, 114])]) rfl (buildN02 _ _) rfl
  refine W ?_
  apply WL_build (vs := [(0, .int .i64 10), (2, str [98, 101, 116, 119, 101, 101, 110])]) rfl (buildN02 _ _) rfl
  refine W ?_
  apply WL_build (vs := [(0, .int .i64 8), (2, str [99, 111, 117, 114, 116, 100, 97, 121, 115])]) rfl (buildN02 _ _) rfl
  refine W ?_
  apply WL_build (vs := [(0, .int .i64 7), (2, str [109, 111, 110, 116, 104, 115])]) rfl (buildN02 _ _) rfl
  refine W ?_
  refine WL_eff (OE_buildSlice (vs := [(0, .agg #[.int .i64 6, .int .i64 0, str [43], .slice none 0 0]), (1, .agg #[.int .i64 6, .int .i64 0, str [33, 61], .slice none 0 0]), (2, .agg #[.int .i64 6, .int .i64 0, str [62], .slice none 0 0]), (3, .agg #[.int .i64 10, .int .i64 0, str [108, 97, 116, 101, 114], .slice none 0 0]), (4, .agg #[.int .i64 10, .int .i64 0, str [98, 101, 116, 119, 101, 101, 110], .slice none 0 0]), (5, .agg #[.int .i64 8, .int .i64 0, str [99, 111, 117, 114, 116, 100, 97, 121, 115], .slice none 0 0]), (6, .agg #[.int .i64 7, .int .i64 0, str [109, 111, 110, 116, 104, 115], .slice none 0 0])]) rfl (buildSN7 _ _ _ _ _ _ _ _ _ _ _ _ _ _)) rfl ?_
  rintro fv w1 hN
  have hfo : SlV [] w1 fv forms7 := hN.slvG (X := []) (css := forms7.map (fun x => ndC x (.slice none 0 0))) (by simp) rfl rfl rfl (fun i hi hi' => match i, hi with
    | 0, _ => slv_nrep (nilSlv _ _)
    | 1, _ => slv_nrep (nilSlv _ _)
    | 2, _ => slv_nrep (nilSlv _ _)
    | 3, _ => slv_nrep (nilSlv _ _)
    | 4, _ => slv_nrep (nilSlv _ _)
    | 5, _ => slv_nrep (nilSlv _ _)
    | 6, _ => slv_nrep (nilSlv _ _)) (by decide)
  have hS := NewSl.stp hN
  clear hN
  refine W ?_
  refine WL_eff (OE_buildSlice (vs := [(0, .int .i64 5)]) rfl (buildSI1 _)) rfl ?_
  rintro a0 wq hN
  have s0 : SlV [] wq a0 ([5] : List Int) := hN.slv (by simp) rfl rfl (by simp [maxLen])
  have hT := NewSl.stp hN
  clear hN
  replace hfo := hfo.up hT
  replace hS := hS.trans hT
  clear hT
  refine W ?_
  refine WL_eff (OE_buildSlice (vs := [(0, .int .i64 11), (1, .int .i64 12)]) rfl (buildSI2 _ _)) rfl ?_
  rintro a1 wq hN
  have s1 : SlV [] wq a1 ([11, 12] : List Int) := hN.slv (by simp) rfl rfl (by simp [maxLen])
  have hT := NewSl.stp hN
  clear hN
  replace hfo := hfo.up hT
  replace hS := hS.trans hT
  replace s0 := s0.up hT
  clear hT
  refine W ?_
  refine WL_eff (OE_buildSlice (vs := [(0, .int .i64 10), (1, .int .i64 12)]) rfl (buildSI2 _ _)) rfl ?_
  rintro a2 wq hN
  have s2 : SlV [] wq a2 ([10, 12] : List Int) := hN.slv (by simp) rfl rfl (by simp [maxLen])
  have hT := NewSl.stp hN
  clear hN
  replace hfo := hfo.up hT
  replace hS := hS.trans hT
  replace s0 := s0.up hT
  replace s1 := s1.up hT
  clear hT
  refine W ?_
  refine WL_eff (OE_buildSlice (vs := [(0, .int .i64 21)]) rfl (buildSI1 _)) rfl ?_
  rintro a3 wq hN
  have s3 : SlV [] wq a3 ([21] : List Int) := hN.slv (by simp) rfl rfl (by simp [maxLen])
  have hT := NewSl.stp hN
  clear hN
  replace hfo := hfo.up hT
  replace hS := hS.trans hT
  replace s0 := s0.up hT
  replace s1 := s1.up hT
  replace s2 := s2.up hT
  clear hT
  refine W ?_
  refine WL_eff (OE_buildSlice (vs := [(0, .int .i64 23)]) rfl (buildSI1 _)) rfl ?_
  rintro a4 wq hN
  have s4 : SlV [] wq a4 ([23] : List Int) := hN.slv (by simp) rfl rfl (by simp [maxLen])
  have hT := NewSl.stp hN
  clear hN
  replace hfo := hfo.up hT
  replace hS := hS.trans hT
  replace s0 := s0.up hT
  replace s1 := s1.up hT
  replace s2 := s2.up hT
  replace s3 := s3.up hT
  clear hT
  refine W ?_
  refine WL_eff (OE_buildSlice (vs := [(0, .int .i64 8), (1, .int .i64 18)]) rfl (buildSI2 _ _)) rfl ?_
  rintro a5 wq hN
  have s5 : SlV [] wq a5 ([8, 18] : List Int) := hN.slv (by simp) rfl rfl (by simp [maxLen])
  have hT := NewSl.stp hN
  clear hN
  replace hfo := hfo.up hT
  replace hS := hS.trans hT
  replace s0 := s0.up hT
  replace s1 := s1.up hT
  replace s2 := s2.up hT
  replace s3 := s3.up hT
  replace s4 := s4.up hT
  clear hT
  refine W ?_
  refine WL_eff (OE_buildSlice (vs := [(0, .int .i64 17)]) rfl (buildSI1 _)) rfl ?_
  rintro a6 wq hN
  have s6 : SlV [] wq a6 ([17] : List Int) := hN.slv (by simp) rfl rfl (by simp [maxLen])
  have hT := NewSl.stp hN
  clear hN
  replace hfo := hfo.up hT
  replace hS := hS.trans hT
  replace s0 := s0.up hT
  replace s1 := s1.up hT
  replace s2 := s2.up hT
  replace s3 := s3.up hT
  replace s4 := s4.up hT
  replace s5 := s5.up hT
  clear hT
  obtain ⟨p0, c0, rfl, -⟩ := id s0
  obtain ⟨p1, c1, rfl, -⟩ := id s1
  obtain ⟨p2, c2, rfl, -⟩ := id s2
  obtain ⟨p3, c3, rfl, -⟩ := id s3
  obtain ⟨p4, c4, rfl, -⟩ := id s4
  obtain ⟨p5, c5, rfl, -⟩ := id s5
  obtain ⟨p6, c6, rfl, -⟩ := id s6
  refine W ?_
  refine WL_eff (OE_buildSlice (vs := [(0, .slice p0 _ c0), (1, .slice p1 _ c1), (2, .slice p2 _ c2), (3, .slice p3 _ c3), (4, .slice p4 _ c4), (5, .slice p5 _ c5), (6, .slice p6 _ c6)]) rfl (buildSV7 _ _ _ _ _ _ _ _ _ _ _ _ _ _ _ _ _ _ _ _ _)) rfl ?_
  rintro ow wq hN
  have how : SlV [] wq ow own7 := hN.slvS (X := []) (xss := own7) (by simp) rfl rfl (fun i hi hi' => match i, hi with | 0, _ => s0 | 1, _ => s1 | 2, _ => s2 | 3, _ => s3 | 4, _ => s4 | 5, _ => s5 | 6, _ => s6) (by decide)
  have hT := NewSl.stp hN
  clear hN
  replace hfo := hfo.up hT
  replace hS := hS.trans hT
  clear hT s0 s1 s2 s3 s4 s5 s6
  refine W ?_
  refine WL_eff (OE_call rfl (evs2 rfl rfl) (Around03_any which 7 _ (by decide) hwh)) rfl ?_
  rintro _ w2 ⟨rfl, hT⟩
  have hr := around_range (if which < 0 then -(which + 1) else which) 7 (by decide)
  generalize (if which < 0 then -(which + 1) else which) % 7 = zi at *
  obtain ⟨i, rfl⟩ : ∃ i : Nat, zi = (i : Int) := ⟨zi.toNat, by omega⟩
  have hi7 : i < forms7.length := by show i < 7; omega
  have hi7' : i < own7.length := by show i < 7; omega
  replace hfo := hfo.up hT
  replace how := how.up hT
  replace hS := hS.trans hT
  clear hT
  refine W ?_
  refine WC_cutQ (σ := Unit) (fun _ => [(0, lv), (1, kv), (7, fv), (8, ow), (9, .int .i64 (i : Int)), (10, .int .i64 (kindA i)), (11, .int .i64 2)]) (fun _ w' => w' = w2) ?_ ?_
  · by_cases h3 : 3 ≤ i
    · repeat' (first | refine W1 ?_ | (exfalso; omega) | refine WL_split rfl rfl (fun hg => ?_) (fun hg => ?_) | refine WL_splitB rfl rfl (fun hg => ?_) (fun hg => ?_) | refine WC_cond rfl (fun hc => ?_) (fun hc => ?_) | refine WC_condB rfl (fun hc => ?_) (fun hc => ?_))
      exact WQ_cut () ⟨rfl, rfl, rfl, rfl, rfl, by rw [kindA, if_pos h3]; rfl, rfl, trivial⟩ rfl
    · repeat' (first | refine W1 ?_ | (exfalso; omega) | refine WL_split rfl rfl (fun hg => ?_) (fun hg => ?_) | refine WL_splitB rfl rfl (fun hg => ?_) (fun hg => ?_) | refine WC_cond rfl (fun hc => ?_) (fun hc => ?_) | refine WC_condB rfl (fun hc => ?_) (fun hc => ?_))
      exact WQ_cut () ⟨rfl, rfl, rfl, rfl, rfl, by rw [kindA, if_neg h3]; rfl, rfl, trivial⟩ rfl
  rintro _ w2 rfl
  refine W ?_
  refine WL_cutQ (σ := Bool) (fun q => [(0, lv), (1, kv), (7, fv), (8, ow), (9, .int .i64 (i : Int)), (10, .int .i64 (kindA i)), (11, .int .i64 2), (51, .bool q)]) (fun q w' => w' = w2 ∧ q = decide (i = 3 ∨ i = 4)) ?_ ?_
  · repeat' (first | refine W1 ?_ | (exfalso; omega) | refine WL_split rfl rfl (fun hg => ?_) (fun hg => ?_) | refine WL_splitB rfl rfl (fun hg => ?_) (fun hg => ?_) | refine WC_cond rfl (fun hc => ?_) (fun hc => ?_) | refine WC_condB rfl (fun hc => ?_) (fun hc => ?_))
    · refine WQ_cut true ⟨rfl, rfl, rfl, rfl, rfl, rfl, rfl, rfl, trivial⟩ ⟨rfl, ?_⟩
      rw [eq_comm, decide_eq_true_eq]; omega
    · refine WQ_cut _ ⟨rfl, rfl, rfl, rfl, rfl, rfl, rfl, rfl, trivial⟩ ⟨rfl, ?_⟩
      rw [decide_eq_decide]; omega
  rintro q w2 ⟨rfl, hq⟩
  try dsimp only
  refine WC_cutQ (σ := Unit) (fun _ => [(0, lv), (1, kv), (7, fv), (8, ow), (9, .int .i64 (i : Int)), (10, .int .i64 (kindA i)), (11, .int .i64 (kindB i))]) (fun _ w' => w' = w2) ?_ ?_
  · by_cases h3 : i = 3 ∨ i = 4
    · rw [decide_eq_true h3] at hq
      subst hq
      refine W ?_
      exact WQ_cut () ⟨rfl, rfl, rfl, rfl, rfl, rfl, by rw [kindB, if_pos h3]; rfl, trivial⟩ rfl
    · rw [decide_eq_false h3] at hq
      subst hq
      refine W ?_
      exact WQ_cut () ⟨rfl, rfl, rfl, rfl, rfl, rfl, by rw [kindB, if_neg h3]; rfl, trivial⟩ rfl
  rintro _ w2 rfl
  have hka : I64 (kindA i) := by unfold kindA I64; split <;> omega
  have hkb : I64 (kindB i) := by unfold kindB I64; split <;> omega
  clear hq
  refine W ?_
  refine WL_eff (OE_call rfl (evs3 rfl rfl rfl) (Expr_any [] lv l (kindA i) 4 4 _ (by decide) (by decide) rfl hka (hl0.up hS) hl (by simp))) rfl ?_
  rintro _ w3 ⟨xa, ⟨ka, rfl, sa⟩, za, ⟨ta, -⟩, hT⟩
  replace hfo := hfo.up hT
  replace how := how.up hT
  replace hS := hS.trans hT
  clear hT
  refine WL_eff OE_alloc rfl ?_
  rintro _ w4 ⟨b12, rfl, hb12, e12, hT⟩
  refine WL_eff0 (OE_storeA (us := ndC xa ka) rfl rfl rfl rfl (ndC_one sa) e12 rfl) ?_
  rintro _ w5 ⟨hT2, e12'⟩
  have hT3 := hT.own hT2 (fun b hb => .inr (by simp at hb; omega))
  replace sa := sa.up hT3
  replace hfo := hfo.up hT3
  replace how := how.up hT3
  replace hS := hS.trans hT3
  clear hT hT2 hT3 e12
  refine W ?_
  refine WL_eff (OE_call rfl (evs3 rfl rfl rfl) (Expr_any [] kv k (kindB i) 4 4 _ (by decide) (by decide) rfl hkb (hk0.up hS) hk (by simp))) rfl ?_
  rintro _ w3 ⟨xb, ⟨kb, rfl, sb⟩, zb, ⟨tb, -⟩, hT⟩
  replace sa := sa.up hT
  replace e12' := e12'.up hT
  replace hfo := hfo.up hT
  replace how := how.up hT
  replace hS := hS.trans hT
  clear hT
  refine WL_eff OE_alloc rfl ?_
  rintro _ w4 ⟨b13, rfl, hb13, e13, hT⟩
  have l12 := e12'.lt
  replace e12' := e12'.up hT
  refine WL_eff0 (OE_storeA (us := ndC xb kb) rfl rfl rfl rfl (ndC_one sb) e13 rfl) ?_
  rintro _ w5 ⟨hT2, e13'⟩
  replace e12' := e12'.ext hT2 (by simp; omega)
  have hT3 := hT.own hT2 (fun b hb => .inr (by simp at hb; omega))
  replace sa := sa.up hT3
  replace sb := sb.up hT3
  replace hfo := hfo.up hT3
  replace how := how.up hT3
  replace hS := hS.trans hT3
  clear hT hT2 hT3 e13
  obtain ⟨kf, sf, cf⟩ := hfo.nd hi7
  refine W ?_
  apply WL_pure (PR_loadNd rfl rfl hfo hi7 cf) rfl
  refine W ?_
  refine WL_eff OE_alloc rfl ?_
  rintro _ w4 ⟨b14, rfl, hb14, e14, hT⟩
  have hb14w : w.heap.size ≤ b14 := Nat.le_trans hS.size hb14
  have n1 : b12 ≠ b14 := by have := e12'.lt; omega
  have n2 : b13 ≠ b14 := by have := e13'.lt; omega
  have l12 := e12'.lt
  have l13 := e13'.lt
  replace e12' := e12'.up hT
  replace e13' := e13'.up hT
  refine WL_eff0 (OE_storeA (us := ndC forms7[i] kf) rfl rfl rfl rfl (ndC_one sf) e14 rfl) ?_
  rintro _ w5 ⟨hT2, e14'⟩
  replace e12' := e12'.ext hT2 (by simp; omega)
  replace e13' := e13'.ext hT2 (by simp; omega)
  have hT3 := hT.own hT2 (fun b hb => .inr (by simp at hb; omega))
  replace sa := sa.ext (X' := [b14]) hT3 (by simp) (fun b hb => .inr (by simp at hb; omega))
  replace sb := sb.ext (X' := [b14]) hT3 (by simp) (fun b hb => .inr (by simp at hb; omega))
  replace how := how.ext (X' := [b14]) hT3 (by simp) (fun b hb => .inr (by simp at hb; omega))
  replace hS := hS.trans hT3
  clear hT hT2 hT3 e14 hfo sf cf
  obtain ⟨pa, ca, rfl, -⟩ := id sa
  obtain ⟨pb, cb, rfl, -⟩ := id sb
  refine W ?_
  refine WL_eff (OE_buildSlice (vs := [(0, .agg #[.int .i64 xa.kind, .int .i64 xa.num, str xa.word, .slice pa xa.kids.length ca]), (1, .agg #[.int .i64 xb.kind, .int .i64 xb.num, str xb.word, .slice pb xb.kids.length cb])]) rfl (buildSN2 _ _ _ _ _ _ _ _ _ _ _ _)) rfl ?_
  rintro bv wq hN
  have l14 := e14'.lt
  have hbv : SlV [b14] wq bv [xa, xb] := hN.slvG (X := [b14]) (css := [ndC xa _, ndC xb _]) (fun b hb => by simp at hb; omega) rfl rfl rfl (reps2 sa sb) (by simp [maxLen])
  have hT := NewSl.stp hN
  clear hN
  replace sa := sa.up hT
  replace sb := sb.up hT
  replace how := how.up hT
  replace e12' := e12'.up hT
  replace e13' := e13'.up hT
  replace e14' := e14'.up hT
  replace hS := hS.trans hT
  clear hT
  obtain ⟨pv, cv, rfl, -⟩ := id hbv
  refine W ?_
  refine WL_eff0 (OE_store1 rfl rfl rfl rfl e14' (by simp [ndC])) ?_
  rintro _ w6 ⟨hT, e14n⟩
  have e14n' : Blk w6 b14 24 (ndC (.mk forms7[i].kind forms7[i].num forms7[i].word [xa, xb]) (.slice pv 2 cv)) := e14n
  have hX : ∀ b ∈ [b14], b ∈ [b14] := fun _ h => h
  replace hbv := hbv.ext (X' := [b14]) hT hX (fun _ h => .inl h)
  replace sa := sa.ext (X' := [b14]) hT hX (fun _ h => .inl h)
  replace sb := sb.ext (X' := [b14]) hT hX (fun _ h => .inl h)
  replace how := how.ext (X' := [b14]) hT hX (fun _ h => .inl h)
  replace e12' := e12'.ext hT (by simp; exact n1)
  replace e13' := e13'.ext hT (by simp; exact n2)
  replace hS := hS.own hT (fun b hb => .inr (by simp at hb; omega))
  clear hT e14n e14'
  replace hbv := hbv.wk (X' := []) (by simp)
  replace sa := sa.wk (X' := []) (by simp)
  replace sb := sb.wk (X' := []) (by simp)
  replace how := how.wk (X' := []) (by simp)
  have hsn : sizeN (.mk forms7[i].kind forms7[i].num forms7[i].word [xa, xb]) = 1 + sizeN xa + sizeN xb := size2 _ _ _ _ _
  have htn : typeT (.mk forms7[i].kind forms7[i].num forms7[i].word [xa, xb]) ≠ 0 := by
    rw [typeT_eq]
    simp only [Nd.kind, Nd.num, Nd.word, Nd.kids, List.map_cons, List.map_nil]
    rw [ta, tb]
    exact forms_type i hi7
  have hcn : ∀ f g : Cf, combC forms7[i].kind forms7[i].num forms7[i].word [f, g] 0 = f 0 ++ g (f 0).length ++ insO own7[i].l := forms_code i hi7 hi7'
  have hen := errX_02 htn
  have hcode : exprF (.mk forms7[i].kind forms7[i].num forms7[i].word [xa, xb]) = codeN xa 0 ++ codeN xb (codeN xa 0).length ++ insO own7[i].l ++ [⟨24, 0⟩] := by
    unfold exprF
    rw [codeN_eq]
    show combC forms7[i].kind forms7[i].num forms7[i].word [codeN xa, codeN xb] 0 ++ _ = _
    rw [hcn]
  have hxn : NdV [] w6 (.agg (ndC (.mk forms7[i].kind forms7[i].num forms7[i].word [xa, xb]) (.slice pv 2 cv)).toArray) (.mk forms7[i].kind forms7[i].num forms7[i].word [xa, xb]) := ⟨_, rfl, hbv⟩
  generalize (Nd.mk forms7[i].kind forms7[i].num forms7[i].word [xa, xb]) = xn at *
  have hea := errX_02 (x := xa) (by rw [ta]; unfold kindA; split <;> decide)
  have heb := errX_02 (x := xb) (by rw [tb]; unfold kindB; split <;> decide)
  refine W ?_
  refine WL_eff (OE_call rfl (evs1 rfl) (Expression_any _ xa _ (by omega) ⟨_, rfl, sa⟩ (hF.up hS))) rfl ?_
  rintro _ w7 ⟨va, rfl, ha, hT⟩
  replace ha := ha [] (by simp)
  replace sb := sb.up hT
  replace hxn := hxn.up hT
  replace how := how.up hT
  replace e13' := e13'.up hT
  replace e14n' := e14n'.up hT
  replace hS := hS.trans hT
  clear hT
  refine W ?_
  refine WL_eff (OE_call rfl (evs1 rfl) (Expression_any _ xb _ (by omega) ⟨_, rfl, sb⟩ (hF.up hS))) rfl ?_
  rintro _ w8 ⟨vb, rfl, hb, hT⟩
  replace hb := hb [] (by simp)
  replace ha := ha.up hT
  replace hxn := hxn.up hT
  replace how := how.up hT
  replace e14n' := e14n'.up hT
  replace hS := hS.trans hT
  clear hT
  refine W ?_
  refine WL_eff (OE_call rfl (evs1 rfl) (Expression_any _ xn _ (by omega) hxn (hF.up hS))) rfl ?_
  rintro _ w9 ⟨vc, rfl, hzc, hT⟩
  replace hzc := hzc [] (by simp)
  replace ha := ha.up hT
  replace hb := hb.up hT
  replace how := how.up hT
  replace hS := hS.trans hT
  clear hT e14n' hxn sb sa hbv
  refine W ?_
  by_cases hall : errX xa = 0 ∧ errX xb = 0 ∧ errX xn = 0
  case neg =>
    repeat' (first | refine W1 ?_ | (exfalso; omega) | refine WL_split rfl rfl (fun hg => ?_) (fun hg => ?_) | refine WL_splitB rfl rfl (fun hg => ?_) (fun hg => ?_) | refine WC_cond rfl (fun hc => ?_) (fun hc => ?_) | refine WC_condB rfl (fun hc => ?_) (fun hc => ?_))
    all_goals
      refine WL_eff (OE_call rfl evs0 (lives15_any _ (hF.up hS))) rfl ?_
      rintro _ w10 ⟨rfl, hT⟩
      refine W ?_
      first | refine WQ_ret1 rfl rfl ?_ | refine WQ_ret2 rfl rfl rfl ?_ | refine WQ_ret3 rfl rfl rfl rfl ?_ | refine WQ_ret0 rfl ?_ | refine WQ_end0 rfl ?_
      exact .mk ⟨rfl, hS.trans hT⟩
  obtain ⟨ea, eb, ec⟩ := hall
  rw [ea, if_pos rfl] at ha
  rw [eb, if_pos rfl] at hb
  rw [ec, if_pos rfl, hcode] at hzc
  have exa : exprF xa = codeN xa 0 ++ [⟨24, 0⟩] := rfl
  have exb : exprF xb = codeN xb 0 ++ [⟨24, 0⟩] := rfl
  have lea := errX_len ea
  have leb := errX_len eb
  have hsh := (code_both xb).1 0 (codeN xa 0).length
  have hbd := (code_both xb).2 0
  rw [Nat.zero_add] at hsh
  rw [hsh] at hzc
  rw [exa] at ha lea
  rw [exb] at hb leb
  generalize codeN xa 0 = A at *
  generalize codeN xb 0 = B at *
  have hla : (A ++ [(⟨24, 0⟩ : Ins)]).length = A.length + 1 := by simp
  have hlb : (B ++ [(⟨24, 0⟩ : Ins)]).length = B.length + 1 := by simp
  have hlO : own7[i].l.length ≤ 2 := by
    have : ∀ i (h : i < own7.length), own7[i].l.length ≤ 2 := by
      intro i h
      match i, h with
      | 0, _ => exact (by decide : ([5] : List Int).length ≤ 2)
      | 1, _ => exact (by decide : ([11, 12] : List Int).length ≤ 2)
      | 2, _ => exact (by decide : ([10, 12] : List Int).length ≤ 2)
      | 3, _ => exact (by decide : ([21] : List Int).length ≤ 2)
      | 4, _ => exact (by decide : ([23] : List Int).length ≤ 2)
      | 5, _ => exact (by decide : ([8, 18] : List Int).length ≤ 2)
      | 6, _ => exact (by decide : ([17] : List Int).length ≤ 2)
    exact this i hi7'
  clear hcode hsh exa exb
  repeat' (first | refine W1 ?_ | (exfalso; omega) | refine WL_split rfl rfl (fun hg => ?_) (fun hg => ?_) | refine WL_splitB rfl rfl (fun hg => ?_) (fun hg => ?_) | refine WC_cond rfl (fun hc => ?_) (fun hc => ?_) | refine WC_condB rfl (fun hc => ?_) (fun hc => ?_))
  have hkk : ((A ++ [(⟨24, 0⟩ : Ins)]).length : Int) - 1 = (A.length : Int) := by omega
  refine WL_slice_h rfl ha rfl hkk (by omega) rfl ?_
  have hA := ha.slc (l := 0) (r := A.length) (by omega) (by omega)
  rw [List.drop_zero, List.take_left] at hA
  have h0 : RwI w9 w9 (.slice none 0 0) [] := RowF.nil
  refine WL_eff (OE_appF (ys := A) rfl (by decide) rfl rfl h0 (hA.wk (by simp [ob])) (by simp; omega) (by simp [maxLen]; omega)) rfl ?_
  rintro wv w10 ⟨hr, -, -⟩
  rw [List.nil_append] at hr
  have hrs := hr.1.slv0
  refine W ?_
  clear hrs hA h0
  refine WC_loop (σ := Nat × Value) (fun q => [(8, ow), (9, .int .i64 (i : Int)), (17, vb), (19, vc), (21, q.2), (22, .int .i64 (A.length : Int)), (23, .int .i64 (q.1 : Int))])
    (fun q w' => q.1 ≤ B.length ∧ RwI w9 w' q.2 (A ++ (B.take q.1).map (shI A.length))) (fun q => B.length - q.1) (0, wv) ⟨rfl, rfl, rfl, rfl, rfl, rfl, rfl, trivial⟩ ⟨Nat.zero_le _, by simpa using hr⟩ ?_
  clear hr
  rintro ⟨j, sv⟩ w11 ⟨hj, hr⟩
  try dsimp only at hj hr ⊢
  have hb11 := hb.up hr.2
  by_cases hlt : j < B.length
  · have hjl : j < (B ++ [(⟨24, 0⟩ : Ins)]).length := by omega
    have hbj : (B ++ [(⟨24, 0⟩ : Ins)])[j] = B[j] := List.getElem_append_left hlt
    have hln : (A ++ (B.take j).map (shI A.length)).length = A.length + j := by simp; omega
    have htk : B.take (j + 1) = B.take j ++ [B[j]] := by rw [List.take_succ_eq_append_getElem hlt]
    have hbc := hbd B[j] (List.getElem_mem hlt)
    generalize hcj : B[j] = c at *
    repeat' (first | refine W1 ?_ | (exfalso; omega) | refine WL_split rfl rfl (fun hg => ?_) (fun hg => ?_) | refine WL_splitB rfl rfl (fun hg => ?_) (fun hg => ?_) | refine WC_cond rfl (fun hc => ?_) (fun hc => ?_) | refine WC_condB rfl (fun hc => ?_) (fun hc => ?_))
    refine WL_eff OE_alloc rfl ?_
    rintro _ w12 ⟨b24, rfl, hb24, e24, hT⟩
    rw [hbj]
    refine WL_eff0 (OE_storeA (us := Flat.enc c) rfl rfl rfl rfl (Flat.one _) e24 rfl) ?_
    rintro _ w13 ⟨hT2, e24'⟩
    have hT3 := hT.own hT2 (fun b hb => .inr (by simp at hb; omega))
    have hb9 : w9.heap.size ≤ b24 := Nat.le_trans hr.2.size hb24
    have nsv : b24 ∉ ob sv := fun h => by have := (hr.ob_le b24 h).2; omega
    replace hr := hr.up hT3
    clear hT hT2 hT3 e24
    have e24c : Blk w13 b24 47 [.int .i64 c.op, .int .i64 c.n] := e24'
    clear e24'
    by_cases hjm : c.op = 13 ∨ c.op = 14
    · have hsI : shI A.length c = ⟨c.op, c.n + A.length⟩ := if_pos hjm
      have hbn := hbc hjm
      repeat' (first | refine W1 ?_ | (exfalso; omega) | refine WL_split rfl rfl (fun hg => ?_) (fun hg => ?_) | refine WL_splitB rfl rfl (fun hg => ?_) (fun hg => ?_) | refine WC_cond rfl (fun hc => ?_) (fun hc => ?_) | refine WC_condB rfl (fun hc => ?_) (fun hc => ?_))
      all_goals
        refine WL_eff0 (OE_store1 rfl rfl rfl rfl e24c (by simp)) ?_
        rintro _ w14 ⟨hT, e24n⟩
        have e24m : Blk w14 b24 47 [.int .i64 c.op, .int .i64 (c.n + A.length)] := e24n
        have l9 := hr.1.ob_le
        replace hr : RwI w9 w14 sv (A ++ (B.take j).map (shI A.length)) := ⟨hr.1.keep hT (fun b hb => by simp at hb; rw [hb]; exact nsv), hr.2.own hT (fun b hb => .inr (by simp at hb; omega))⟩
        refine W ?_
        refine WL_eff (OE_buildSlice (vs := [(0, agg (Ins.mk c.op (c.n + A.length)))]) rfl (buildIns1 _)) rfl ?_
        rintro u wp hN
        have hu : SlV (ob sv) wp u [(Ins.mk c.op (c.n + A.length))] := hN.slv (fun b hb => (hr.ob_le b hb).2) rfl rfl (by simp [maxLen])
        replace hr := hr.up (NewSl.stp hN)
        clear hN
        refine WL_eff (OE_appF rfl (by decide) rfl rfl hr hu (by rw [hln]; simp; omega) (by rw [hln]; simp [maxLen]; omega)) rfl ?_
        rintro v' wr ⟨hr', -, -⟩
        refine W ?_
        refine WQ_loop (j + 1, v') ⟨rfl, rfl, rfl, rfl, rfl, rfl, rfl, trivial⟩ ⟨hlt, ?_⟩ (Nat.sub_lt_sub_left hlt (Nat.lt_succ_self j))
        dsimp only
        rw [htk, List.map_append, ← List.append_assoc, List.map_cons, List.map_nil, hsI]
        exact hr'
    · have hsI : shI A.length c = c := if_neg hjm
      repeat' (first | refine W1 ?_ | (exfalso; omega) | refine WL_split rfl rfl (fun hg => ?_) (fun hg => ?_) | refine WL_splitB rfl rfl (fun hg => ?_) (fun hg => ?_) | refine WC_cond rfl (fun hc => ?_) (fun hc => ?_) | refine WC_condB rfl (fun hc => ?_) (fun hc => ?_))
      refine W ?_
      refine WL_eff (OE_buildSlice (vs := [(0, agg c)]) rfl (buildIns1 _)) rfl ?_
      rintro u wp hN
      have hu : SlV (ob sv) wp u [c] := hN.slv (fun b hb => (hr.ob_le b hb).2) rfl rfl (by simp [maxLen])
      replace hr := hr.up (NewSl.stp hN)
      clear hN
      refine WL_eff (OE_appF rfl (by decide) rfl rfl hr hu (by rw [hln]; simp; omega) (by rw [hln]; simp [maxLen]; omega)) rfl ?_
      rintro v' wr ⟨hr', -, -⟩
      refine W ?_
      refine WQ_loop (j + 1, v') ⟨rfl, rfl, rfl, rfl, rfl, rfl, rfl, trivial⟩ ⟨hlt, ?_⟩ (Nat.sub_lt_sub_left hlt (Nat.lt_succ_self j))
      dsimp only
      rw [htk, List.map_append, ← List.append_assoc, List.map_cons, List.map_nil, hsI]
      exact hr'
  obtain rfl : j = B.length := by omega
  rw [List.take_length] at hr
  have hln : (A ++ B.map (shI A.length)).length = A.length + B.length := by simp
  repeat' (first | refine W1 ?_ | (exfalso; omega) | refine WL_split rfl rfl (fun hg => ?_) (fun hg => ?_) | refine WL_splitB rfl rfl (fun hg => ?_) (fun hg => ?_) | refine WC_cond rfl (fun hc => ?_) (fun hc => ?_) | refine WC_condB rfl (fun hc => ?_) (fun hc => ?_))
  have how2 := how.up hr.2
  refine WC_loop (σ := Nat × Value) (fun q => [(8, ow), (9, .int .i64 (i : Int)), (19, vc), (21, q.2), (25, .int .i64 (q.1 : Int))])
    (fun q w' => q.1 ≤ own7[i].l.length ∧ RwI w9 w' q.2 (A ++ B.map (shI A.length) ++ insO (own7[i].l.take q.1))) (fun q => own7[i].l.length - q.1) (0, sv) ⟨rfl, rfl, rfl, rfl, rfl, trivial⟩ ⟨Nat.zero_le _, by simpa [insO] using hr⟩ ?_
  clear hr how2
  rintro ⟨j, sv⟩ w12 ⟨hj, hr⟩
  try dsimp only at hj hr ⊢
  have how2 := how.up hr.2
  obtain ⟨uo, huo, hso⟩ := how2.sub hi7'
  have hlm : (A ++ B.map (shI A.length) ++ insO (own7[i].l.take j)).length = A.length + B.length + j := by simp [insO]; omega
  by_cases hlt : j < own7[i].l.length
  · have htk : own7[i].l.take (j + 1) = own7[i].l.take j ++ [own7[i].l[j]] := by rw [List.take_succ_eq_append_getElem hlt]
    repeat' (first | refine W1 ?_ | (exfalso; omega) | refine WL_split rfl rfl (fun hg => ?_) (fun hg => ?_) | refine WL_splitB rfl rfl (fun hg => ?_) (fun hg => ?_) | refine WC_cond rfl (fun hc => ?_) (fun hc => ?_) | refine WC_condB rfl (fun hc => ?_) (fun hc => ?_))
    apply WL_pure (PR_load1 rfl rfl huo) rfl
    repeat' (first | refine W1 ?_ | (exfalso; omega) | refine WL_split rfl rfl (fun hg => ?_) (fun hg => ?_) | refine WL_splitB rfl rfl (fun hg => ?_) (fun hg => ?_) | refine WC_cond rfl (fun hc => ?_) (fun hc => ?_) | refine WC_condB rfl (fun hc => ?_) (fun hc => ?_))
    apply WL_pure (PR_load1 rfl rfl huo) rfl
    repeat' (first | refine W1 ?_ | (exfalso; omega) | refine WL_split rfl rfl (fun hg => ?_) (fun hg => ?_) | refine WL_splitB rfl rfl (fun hg => ?_) (fun hg => ?_) | refine WC_cond rfl (fun hc => ?_) (fun hc => ?_) | refine WC_condB rfl (fun hc => ?_) (fun hc => ?_))
    apply WL_build (vs := [(0, .int .i64 own7[i].l[j])]) rfl (buildI0 _) rfl
    refine W ?_
    refine WL_eff (OE_buildSlice (vs := [(0, agg (Ins.mk own7[i].l[j] 0))]) rfl (buildIns1 _)) rfl ?_
    rintro u wp hN
    have hu : SlV (ob sv) wp u [(Ins.mk own7[i].l[j] 0)] := hN.slv (fun b hb => (hr.ob_le b hb).2) rfl rfl (by simp [maxLen])
    replace hr := hr.up (NewSl.stp hN)
    clear hN
    refine WL_eff (OE_appF rfl (by decide) rfl rfl hr hu (by rw [hlm]; simp; omega) (by rw [hlm]; simp [maxLen]; omega)) rfl ?_
    rintro v' wr ⟨hr', -, -⟩
    refine W ?_
    refine WQ_loop (j + 1, v') ⟨rfl, rfl, rfl, rfl, rfl, trivial⟩ ⟨hlt, ?_⟩ (Nat.sub_lt_sub_left hlt (Nat.lt_succ_self j))
    dsimp only
    have e : insO (own7[i].l.take j ++ [own7[i].l[j]]) = insO (own7[i].l.take j) ++ [Ins.mk own7[i].l[j] 0] := by unfold insO; rw [List.map_append]; rfl
    rw [htk, e, ← List.append_assoc]
    exact hr'
  obtain rfl : j = own7[i].l.length := by omega
  rw [List.take_length] at hr hlm
  repeat' (first | refine W1 ?_ | (exfalso; omega) | refine WL_split rfl rfl (fun hg => ?_) (fun hg => ?_) | refine WL_splitB rfl rfl (fun hg => ?_) (fun hg => ?_) | refine WC_cond rfl (fun hc => ?_) (fun hc => ?_) | refine WC_condB rfl (fun hc => ?_) (fun hc => ?_))
  apply WL_pure (PR_load1 rfl rfl huo) rfl
  repeat' (first | refine W1 ?_ | (exfalso; omega) | refine WL_split rfl rfl (fun hg => ?_) (fun hg => ?_) | refine WL_splitB rfl rfl (fun hg => ?_) (fun hg => ?_) | refine WC_cond rfl (fun hc => ?_) (fun hc => ?_) | refine WC_condB rfl (fun hc => ?_) (fun hc => ?_))
  apply WL_build (vs := [(0, .int .i64 24)]) rfl (buildI0 _) rfl
  refine W ?_
  refine WL_eff (OE_buildSlice (vs := [(0, agg (Ins.mk 24 0))]) rfl (buildIns1 _)) rfl ?_
  rintro u wp hN
  have hu : SlV (ob sv) wp u [(Ins.mk 24 0)] := hN.slv (fun b hb => (hr.ob_le b hb).2) rfl rfl (by simp [maxLen])
  replace hr := hr.up (NewSl.stp hN)
  clear hN
  refine WL_eff (OE_appF rfl (by decide) rfl rfl hr hu (by rw [hlm]; simp; omega) (by rw [hlm]; simp [maxLen]; omega)) rfl ?_
  rintro v' wr ⟨hr', -, -⟩
  refine W ?_
  have hcc := hzc.up hr'.2
  refine WL_eff (OE_call rfl (evs2 rfl rfl) (SameCode_any _ _ _ _ _ hcc hr'.1.slv0)) rfl ?_
  rintro _ w13 ⟨rfl, hT⟩
  rw [decide_eq_true rfl]
  have hSf := (hS.trans hr'.2).trans hT
  repeat' (first | refine W1 ?_ | (exfalso; omega) | refine WL_split rfl rfl (fun hg => ?_) (fun hg => ?_) | refine WL_splitB rfl rfl (fun hg => ?_) (fun hg => ?_) | refine WC_cond rfl (fun hc => ?_) (fun hc => ?_) | refine WC_condB rfl (fun hc => ?_) (fun hc => ?_))
  all_goals try (exact absurd rfl (by assumption))
  refine WL_eff (OE_call rfl evs0 (lives15_any _ (hF.up hSf))) rfl ?_
  rintro _ w14 ⟨rfl, hT⟩
  refine W ?_
  first | refine WQ_ret1 rfl rfl ?_ | refine WQ_ret2 rfl rfl rfl ?_ | refine WQ_ret3 rfl rfl rfl rfl ?_ | refine WQ_ret0 rfl ?_ | refine WQ_end0 rfl ?_
  exact .mk ⟨rfl, hSf.trans hT⟩
end Go.Proofs.YtfjmlobgjdmecaaDoor
/-
The walk engine, part 17: bytes of a string.
-/
namespace Go.Eng
open Go Go.RowKit Go.Proofs
set_option linter.unusedVariables false
instance : Flat UInt8 where
  k := 1
  enc := fun b => [.int .u8 (b.toNat : Int)]
  len := fun _ => rfl
  one := by intro x u hu; simp at hu; subst hu; rfl
section
variable {P : Program} {n : Nat} {e : Env} {w : World} {d : Option Nat} {ty : TypeId} {pos : String} {af : Array Edge} {g : Option (Nat × Bool)}
theorem OE_convS {src dst el : TypeId} {x : Operand} {s : Str} [hs : Und P src .string] [hd : Und P dst (.slice el)] [he : Und P el (.int .u8)] (hx : ev e x = some (str s)) (hl : s.length ≤ 1000000) :
    OE P n ⟨d, .convert src dst x, ty, pos, af, g⟩ e w (fun v w' => (∀ X : List Nat, (∀ b ∈ X, b < w.heap.size) → SlV X w' v s) ∧ Stp [] w w') := by
  refine OE_value (v := .slice (some ⟨w.heap.size, 0, none⟩) s.length (grownCap w s.length 0 el)) (w' := Go.Lib.bytesWorld w el ⟨s.toArray⟩) (fun a ha => ?_) ⟨fun X hX => ?_, ?_⟩
  · have h := Go.Lib.run_convert_string_bytes (P := P) w src dst el ⟨s.toArray⟩ hs.h hd.h he.h
    simp only [str_size] at h
    simp [execOp, ha.ev hx, h]
  · refine ⟨some ⟨w.heap.size, 0, none⟩, _, rfl, grownCap_ge w _ _ _, grownCap_le_maxLen w _ _ _ (by simp [maxLen]; omega), (fun h => by cases h), fun i hi => ⟨w.heap.size, 0, Flat.enc s[i], rfl, ?_, fun h => by have := hX _ h; omega, rfl, fun j u hu => ?_⟩⟩
    · rw [Go.Lib.bytesWorld_size]; omega
    · have hj : j = 0 := by
        have := (List.getElem?_eq_some_iff.1 hu).1
        simp [Flat.enc] at this
        exact this
      subst hj
      have hc := Go.Lib.bytesWorld_cell w el ⟨s.toArray⟩ i (by rw [str_size]; exact hi)
      simp only [Flat.enc, List.getElem?_cons_zero, Option.some.injEq] at hu
      subst hu
      have e1 : (0 + i * GoRep.k UInt8 + 0) = i := by show 0 + i * 1 + 0 = i; omega
      rw [e1, hc]
      simp [List.getD, hi]
  · refine ⟨rfl, rfl, rfl, ?_, fun b hb _ => Go.Lib.bytesWorld_at_old w el _ b hb⟩
    rw [Go.Lib.bytesWorld_size]; omega
end
end Go.Eng
/-
The contracts of the library functions that this program calls, laid at this dump (written by the kit's lay-plain for this claim).
-/
namespace Go.Proofs
open Go.Shelf
def Tryd.lays128_ren : Go.Shelf.Ren := ⟨fun | 128 => 137 | n => n, fun | 51 => 170 | 3 => 3 | 4 => 4 | 46 => 138 | 5 => 5 | 9 => 9 | n => n, fun | n => n⟩
theorem Tryd.lays128 : Go.Proofs.Lays.n128 Tryd.prog Tryd.lays128_ren := {
  mixed := by kernel_rfl
  f128 := Tryd.func137.trans (congrArg some (by kernel_rfl))
  t3 := Tryd.underlying3
  a3 := Tryd.isAgg3
  z3 := Tryd.sizeOf3
  v3 := Tryd.zeroValue3
  t4 := Tryd.underlying4
  a4 := Tryd.isAgg4
  z4 := Tryd.sizeOf4
  v4 := Tryd.zeroValue4
  t5 := Tryd.underlying5
  a5 := Tryd.isAgg5
  z5 := Tryd.sizeOf5
  v5 := Tryd.zeroValue5
  t9 := Tryd.underlying9
  a9 := Tryd.isAgg9
  z9 := Tryd.sizeOf9
  v9 := Tryd.zeroValue9
  t46 := Tryd.underlying138
  a46 := Tryd.isAgg138
  z46 := Tryd.sizeOf138
  v46 := Tryd.zeroValue138
  t51 := Tryd.underlying170
  a51 := Tryd.isAgg170
  z51 := Tryd.sizeOf170
  v51 := Tryd.zeroValue170 }
theorem Tryd.bits_Len32 (x : Int) (w : World) (h0 : 0 ≤ x) (h1 : x ≤ 4294967295) :
    Calls Tryd.prog 137 #[.int .u32 x] w fun e w' => e = .returned (.int .i64 (Lib.bitLen x.toNat)) ∧ w' = w := Any.bits_Len32 Tryd.lays128 x w h0 h1
def Tryd.lays125_ren : Go.Shelf.Ren := ⟨fun | 125 => 120 | 128 => 137 | 129 => 138 | n => n, fun | 46 => 138 | 3 => 3 | 51 => 170 | 53 => 137 | 4 => 4 | 5 => 5 | 9 => 9 | n => n, fun | n => n⟩
theorem Tryd.lays125 : Go.Proofs.Lays.n125 Tryd.prog Tryd.lays125_ren := {
  mixed := by kernel_rfl
  f125 := Tryd.func120.trans (congrArg some (by kernel_rfl))
  f128 := Tryd.func137.trans (congrArg some (by kernel_rfl))
  f129 := Tryd.func138.trans (congrArg some (by kernel_rfl))
  t3 := Tryd.underlying3
  a3 := Tryd.isAgg3
  z3 := Tryd.sizeOf3
  v3 := Tryd.zeroValue3
  t4 := Tryd.underlying4
  a4 := Tryd.isAgg4
  z4 := Tryd.sizeOf4
  v4 := Tryd.zeroValue4
  t5 := Tryd.underlying5
  a5 := Tryd.isAgg5
  z5 := Tryd.sizeOf5
  v5 := Tryd.zeroValue5
  t9 := Tryd.underlying9
  a9 := Tryd.isAgg9
  z9 := Tryd.sizeOf9
  v9 := Tryd.zeroValue9
  t46 := Tryd.underlying138
  a46 := Tryd.isAgg138
  z46 := Tryd.sizeOf138
  v46 := Tryd.zeroValue138
  t51 := Tryd.underlying170
  a51 := Tryd.isAgg170
  z51 := Tryd.sizeOf170
  v51 := Tryd.zeroValue170
  t53 := Tryd.underlying137
  a53 := Tryd.isAgg137
  z53 := Tryd.sizeOf137
  v53 := Tryd.zeroValue137 }
theorem Tryd.bits_Len (x : Int) (w : World) (h0 : 0 ≤ x) (h1 : x ≤ 18446744073709551615) :
    Calls Tryd.prog 120 #[.int .u64 x] w fun e w' => e = .returned (.int .i64 (Lib.bitLen x.toNat)) ∧ w' = w := Any.bits_Len Tryd.lays125 x w h0 h1
def Tryd.lays129_ren : Go.Shelf.Ren := ⟨fun | 129 => 138 | n => n, fun | 53 => 137 | 3 => 3 | 4 => 4 | 46 => 138 | 5 => 5 | 9 => 9 | n => n, fun | n => n⟩
theorem Tryd.lays129 : Go.Proofs.Lays.n129 Tryd.prog Tryd.lays129_ren := {
  mixed := by kernel_rfl
  f129 := Tryd.func138.trans (congrArg some (by kernel_rfl))
  t3 := Tryd.underlying3
  a3 := Tryd.isAgg3
  z3 := Tryd.sizeOf3
  v3 := Tryd.zeroValue3
  t4 := Tryd.underlying4
  a4 := Tryd.isAgg4
  z4 := Tryd.sizeOf4
  v4 := Tryd.zeroValue4
  t5 := Tryd.underlying5
  a5 := Tryd.isAgg5
  z5 := Tryd.sizeOf5
  v5 := Tryd.zeroValue5
  t9 := Tryd.underlying9
  a9 := Tryd.isAgg9
  z9 := Tryd.sizeOf9
  v9 := Tryd.zeroValue9
  t46 := Tryd.underlying138
  a46 := Tryd.isAgg138
  z46 := Tryd.sizeOf138
  v46 := Tryd.zeroValue138
  t53 := Tryd.underlying137
  a53 := Tryd.isAgg137
  z53 := Tryd.sizeOf137
  v53 := Tryd.zeroValue137 }
theorem Tryd.bits_Len64 (x : Int) (w : World) (h0 : 0 ≤ x) (h1 : x ≤ 18446744073709551615) :
    Calls Tryd.prog 138 #[.int .u64 x] w fun e w' => e = .returned (.int .i64 (Lib.bitLen x.toNat)) ∧ w' = w := Any.bits_Len64 Tryd.lays129 x w h0 h1
def Tryd.lays217_ren : Go.Shelf.Ren := ⟨fun | 217 => 146 | 266 => 151 | n => n, fun | 9 => 9 | 5 => 5 | 3 => 3 | n => n, fun | n => n⟩
theorem Tryd.lays217 : Go.Proofs.Lays.n217 Tryd.prog Tryd.lays217_ren := {
  mixed := by kernel_rfl
  f217 := Tryd.func146.trans (congrArg some (by kernel_rfl))
  f266 := Tryd.func151.trans (congrArg some (by kernel_rfl))
  t3 := Tryd.underlying3
  a3 := Tryd.isAgg3
  z3 := Tryd.sizeOf3
  v3 := Tryd.zeroValue3
  t5 := Tryd.underlying5
  a5 := Tryd.isAgg5
  z5 := Tryd.sizeOf5
  v5 := Tryd.zeroValue5
  t9 := Tryd.underlying9
  a9 := Tryd.isAgg9
  z9 := Tryd.sizeOf9
  v9 := Tryd.zeroValue9 }
open Go.RowKit Go.Lib in
theorem Tryd.stringslite_IndexByte (s : ByteArray) (c : Int) (w : World) :
    Calls Tryd.prog 146 #[.string s, .int .u8 c] w fun e w' => e = .returned (.int .i64 (Lib.indexByte s.data.toList c.toNat.toUInt8)) ∧ w' = w := Any.stringslite_IndexByte Tryd.lays217 s c w
def Tryd.lays224_ren : Go.Shelf.Ren := ⟨fun | 224 => 148 | n => n, fun | 3 => 3 | n => n, fun | n => n⟩
theorem Tryd.lays224 : Go.Proofs.Lays.n224 Tryd.prog Tryd.lays224_ren := {
  mixed := by kernel_rfl
  f224 := Tryd.func148.trans (congrArg some (by kernel_rfl))
  t3 := Tryd.underlying3
  a3 := Tryd.isAgg3
  z3 := Tryd.sizeOf3
  v3 := Tryd.zeroValue3 }
open Go.RowKit Go.Lib in
theorem Tryd.bytealg_Cutover (n : Int) (h0 : 0 ≤ n) (h1 : n < 4611686018427387904) (w : World) :
    Calls Tryd.prog 148 #[.int .i64 n] w fun e w' => e = .returned (.int .i64 ((n + 16) / 8)) ∧ w' = w := Any.bytealg_Cutover Tryd.lays224 n h0 h1 w
def Tryd.lays314_ren : Go.Shelf.Ren := ⟨fun | 314 => 152 | n => n, fun | 9 => 9 | 51 => 170 | 3 => 3 | 4 => 4 | 5 => 5 | 46 => 138 | n => n, fun | n => n⟩
theorem Tryd.lays314 : Go.Proofs.Lays.n314 Tryd.prog Tryd.lays314_ren := {
  mixed := by kernel_rfl
  f314 := Tryd.func152.trans (congrArg some (by kernel_rfl))
  t3 := Tryd.underlying3
  a3 := Tryd.isAgg3
  z3 := Tryd.sizeOf3
  v3 := Tryd.zeroValue3
  t4 := Tryd.underlying4
  a4 := Tryd.isAgg4
  z4 := Tryd.sizeOf4
  v4 := Tryd.zeroValue4
  t5 := Tryd.underlying5
  a5 := Tryd.isAgg5
  z5 := Tryd.sizeOf5
  v5 := Tryd.zeroValue5
  t9 := Tryd.underlying9
  a9 := Tryd.isAgg9
  z9 := Tryd.sizeOf9
  v9 := Tryd.zeroValue9
  t46 := Tryd.underlying138
  a46 := Tryd.isAgg138
  z46 := Tryd.sizeOf138
  v46 := Tryd.zeroValue138
  t51 := Tryd.underlying170
  a51 := Tryd.isAgg170
  z51 := Tryd.sizeOf170
  v51 := Tryd.zeroValue170 }
open Go.RowKit Go.Lib in
theorem Tryd.bytealg_hashStr (sep : ByteArray) (hs : sep.size < 4294967281) (w : World) :
    Calls Tryd.prog 152 #[.string sep] w fun e w' => e = .returned (.tuple #[.int .u32 (RK.H sep.data.toList % 4294967296), .int .u32 (16777619 ^ sep.size % 4294967296)]) ∧ w' = w := Any.bytealg_hashStr Tryd.lays314 sep hs w
def Tryd.lays267_ren : Go.Shelf.Ren := ⟨fun | 267 => 149 | 314 => 152 | n => n, fun | 9 => 9 | 3 => 3 | 146 => 182 | 51 => 170 | 4 => 4 | 5 => 5 | 46 => 138 | n => n, fun | n => n⟩
theorem Tryd.lays267 : Go.Proofs.Lays.n267 Tryd.prog Tryd.lays267_ren := {
  mixed := by kernel_rfl
  f267 := Tryd.func149.trans (congrArg some (by kernel_rfl))
  f314 := Tryd.func152.trans (congrArg some (by kernel_rfl))
  t3 := Tryd.underlying3
  a3 := Tryd.isAgg3
  z3 := Tryd.sizeOf3
  v3 := Tryd.zeroValue3
  t4 := Tryd.underlying4
  a4 := Tryd.isAgg4
  z4 := Tryd.sizeOf4
  v4 := Tryd.zeroValue4
  t5 := Tryd.underlying5
  a5 := Tryd.isAgg5
  z5 := Tryd.sizeOf5
  v5 := Tryd.zeroValue5
  t9 := Tryd.underlying9
  a9 := Tryd.isAgg9
  z9 := Tryd.sizeOf9
  v9 := Tryd.zeroValue9
  t46 := Tryd.underlying138
  a46 := Tryd.isAgg138
  z46 := Tryd.sizeOf138
  v46 := Tryd.zeroValue138
  t51 := Tryd.underlying170
  a51 := Tryd.isAgg170
  z51 := Tryd.sizeOf170
  v51 := Tryd.zeroValue170
  t146 := Tryd.underlying182
  a146 := Tryd.isAgg182
  z146 := Tryd.sizeOf182
  v146 := Tryd.zeroValue182 }
open Go.RowKit Go.Lib in
theorem Tryd.bytealg_IndexRabinKarp (s sep : ByteArray) (h1 : 1 ≤ sep.size) (h2 : sep.size ≤ s.size) (hs : s.size < 4294967281) (w : World) :
    Calls Tryd.prog 149 #[.string s, .string sep] w fun e w' => e = .returned (.int .i64 (Lib.index s.data.toList sep.data.toList)) ∧ w' = w := Any.bytealg_IndexRabinKarp Tryd.lays267 s sep h1 h2 hs w
def Tryd.lays219_ren : Go.Shelf.Ren := ⟨fun | 219 => 139 | 217 => 146 | 225 => 147 | 224 => 148 | 267 => 149 | 266 => 151 | 314 => 152 | n => n, fun | 9 => 9 | 3 => 3 | 4 => 4 | 5 => 5 | 46 => 138 | 146 => 182 | 51 => 170 | n => n, fun | 1 => 1 | n => n⟩
theorem Tryd.lays219 : Go.Proofs.Lays.n219 Tryd.prog Tryd.lays219_ren := {
  mixed := by kernel_rfl
  f217 := Tryd.func146.trans (congrArg some (by kernel_rfl))
  f219 := Tryd.func139.trans (congrArg some (by kernel_rfl))
  f224 := Tryd.func148.trans (congrArg some (by kernel_rfl))
  f225 := Tryd.func147.trans (congrArg some (by kernel_rfl))
  f266 := Tryd.func151.trans (congrArg some (by kernel_rfl))
  f267 := Tryd.func149.trans (congrArg some (by kernel_rfl))
  f314 := Tryd.func152.trans (congrArg some (by kernel_rfl))
  t3 := Tryd.underlying3
  a3 := Tryd.isAgg3
  z3 := Tryd.sizeOf3
  v3 := Tryd.zeroValue3
  t4 := Tryd.underlying4
  a4 := Tryd.isAgg4
  z4 := Tryd.sizeOf4
  v4 := Tryd.zeroValue4
  t5 := Tryd.underlying5
  a5 := Tryd.isAgg5
  z5 := Tryd.sizeOf5
  v5 := Tryd.zeroValue5
  t9 := Tryd.underlying9
  a9 := Tryd.isAgg9
  z9 := Tryd.sizeOf9
  v9 := Tryd.zeroValue9
  t46 := Tryd.underlying138
  a46 := Tryd.isAgg138
  z46 := Tryd.sizeOf138
  v46 := Tryd.zeroValue138
  t51 := Tryd.underlying170
  a51 := Tryd.isAgg170
  z51 := Tryd.sizeOf170
  v51 := Tryd.zeroValue170
  t146 := Tryd.underlying182
  a146 := Tryd.isAgg182
  z146 := Tryd.sizeOf182
  v146 := Tryd.zeroValue182
  g1 := by kernel_rfl }
open Go.RowKit Go.Lib in
theorem Tryd.stringslite_Index_one (s : ByteArray) (c : UInt8) (w : World) :
    Calls Tryd.prog 139 #[.string s, .string ⟨#[c]⟩] w fun e w' => e = .returned (.int .i64 (Lib.indexByte s.data.toList c)) ∧ w' = w := Any.stringslite_Index_one Tryd.lays219 s c w
open Go.RowKit Go.Lib in
theorem Tryd.stringslite_Index (s sub : ByteArray) (m : Int) (w : World) (hs : s.size < 4294967281) (hm : w.cell? ⟨1, 0, none⟩ = some (.int .i64 m)) :
    Calls Tryd.prog 139 #[.string s, .string sub] w fun e w' => e = .returned (.int .i64 (Lib.index s.data.toList sub.data.toList)) ∧ w' = w := Any.stringslite_Index Tryd.lays219 s sub m w hs hm
def Tryd.lays143_ren : Go.Shelf.Ren := ⟨fun | 143 => 127 | 219 => 139 | 217 => 146 | 225 => 147 | 224 => 148 | 267 => 149 | 266 => 151 | 314 => 152 | n => n, fun | 9 => 9 | 3 => 3 | 4 => 4 | 5 => 5 | 46 => 138 | 146 => 182 | 51 => 170 | n => n, fun | 1 => 1 | n => n⟩
theorem Tryd.lays143 : Go.Proofs.Lays.n143 Tryd.prog Tryd.lays143_ren := {
  mixed := by kernel_rfl
  f143 := Tryd.func127.trans (congrArg some (by kernel_rfl))
  f217 := Tryd.func146.trans (congrArg some (by kernel_rfl))
  f219 := Tryd.func139.trans (congrArg some (by kernel_rfl))
  f224 := Tryd.func148.trans (congrArg some (by kernel_rfl))
  f225 := Tryd.func147.trans (congrArg some (by kernel_rfl))
  f266 := Tryd.func151.trans (congrArg some (by kernel_rfl))
  f267 := Tryd.func149.trans (congrArg some (by kernel_rfl))
  f314 := Tryd.func152.trans (congrArg some (by kernel_rfl))
  t3 := Tryd.underlying3
  a3 := Tryd.isAgg3
  z3 := Tryd.sizeOf3
  v3 := Tryd.zeroValue3
  t4 := Tryd.underlying4
  a4 := Tryd.isAgg4
  z4 := Tryd.sizeOf4
  v4 := Tryd.zeroValue4
  t5 := Tryd.underlying5
  a5 := Tryd.isAgg5
  z5 := Tryd.sizeOf5
  v5 := Tryd.zeroValue5
  t9 := Tryd.underlying9
  a9 := Tryd.isAgg9
  z9 := Tryd.sizeOf9
  v9 := Tryd.zeroValue9
  t46 := Tryd.underlying138
  a46 := Tryd.isAgg138
  z46 := Tryd.sizeOf138
  v46 := Tryd.zeroValue138
  t51 := Tryd.underlying170
  a51 := Tryd.isAgg170
  z51 := Tryd.sizeOf170
  v51 := Tryd.zeroValue170
  t146 := Tryd.underlying182
  a146 := Tryd.isAgg182
  z146 := Tryd.sizeOf182
  v146 := Tryd.zeroValue182
  g1 := by kernel_rfl }
open Go.RowKit Go.Lib in
theorem Tryd.strings_Index_one (s : ByteArray) (c : UInt8) (w : World) :
    Calls Tryd.prog 127 #[.string s, .string ⟨#[c]⟩] w fun e w' => e = .returned (.int .i64 (Lib.indexByte s.data.toList c)) ∧ w' = w := Any.strings_Index_one Tryd.lays143 s c w
open Go.RowKit Go.Lib in
theorem Tryd.strings_Index (s sub : ByteArray) (m : Int) (w : World) (hs : s.size < 4294967281) (hm : w.cell? ⟨1, 0, none⟩ = some (.int .i64 m)) :
    Calls Tryd.prog 127 #[.string s, .string sub] w fun e w' => e = .returned (.int .i64 (Lib.index s.data.toList sub.data.toList)) ∧ w' = w := Any.strings_Index Tryd.lays143 s sub m w hs hm
def Tryd.lays144_ren : Go.Shelf.Ren := ⟨fun | 144 => 117 | 143 => 127 | 219 => 139 | 217 => 146 | 225 => 147 | 224 => 148 | 267 => 149 | 266 => 151 | 314 => 152 | n => n, fun | 9 => 9 | 4 => 4 | 3 => 3 | 5 => 5 | 46 => 138 | 146 => 182 | 51 => 170 | n => n, fun | 1 => 1 | n => n⟩
theorem Tryd.lays144 : Go.Proofs.Lays.n144 Tryd.prog Tryd.lays144_ren := {
  mixed := by kernel_rfl
  f143 := Tryd.func127.trans (congrArg some (by kernel_rfl))
  f144 := Tryd.func117.trans (congrArg some (by kernel_rfl))
  f217 := Tryd.func146.trans (congrArg some (by kernel_rfl))
  f219 := Tryd.func139.trans (congrArg some (by kernel_rfl))
  f224 := Tryd.func148.trans (congrArg some (by kernel_rfl))
  f225 := Tryd.func147.trans (congrArg some (by kernel_rfl))
  f266 := Tryd.func151.trans (congrArg some (by kernel_rfl))
  f267 := Tryd.func149.trans (congrArg some (by kernel_rfl))
  f314 := Tryd.func152.trans (congrArg some (by kernel_rfl))
  t3 := Tryd.underlying3
  a3 := Tryd.isAgg3
  z3 := Tryd.sizeOf3
  v3 := Tryd.zeroValue3
  t4 := Tryd.underlying4
  a4 := Tryd.isAgg4
  z4 := Tryd.sizeOf4
  v4 := Tryd.zeroValue4
  t5 := Tryd.underlying5
  a5 := Tryd.isAgg5
  z5 := Tryd.sizeOf5
  v5 := Tryd.zeroValue5
  t9 := Tryd.underlying9
  a9 := Tryd.isAgg9
  z9 := Tryd.sizeOf9
  v9 := Tryd.zeroValue9
  t46 := Tryd.underlying138
  a46 := Tryd.isAgg138
  z46 := Tryd.sizeOf138
  v46 := Tryd.zeroValue138
  t51 := Tryd.underlying170
  a51 := Tryd.isAgg170
  z51 := Tryd.sizeOf170
  v51 := Tryd.zeroValue170
  t146 := Tryd.underlying182
  a146 := Tryd.isAgg182
  z146 := Tryd.sizeOf182
  v146 := Tryd.zeroValue182
  g1 := by kernel_rfl }
open Go.RowKit Go.Lib in
theorem Tryd.strings_Contains_one (s : ByteArray) (c : UInt8) (w : World) :
    Calls Tryd.prog 117 #[.string s, .string ⟨#[c]⟩] w fun e w' => e = .returned (.bool (decide (0 ≤ Lib.indexByte s.data.toList c))) ∧ w' = w := Any.strings_Contains_one Tryd.lays144 s c w
open Go.RowKit Go.Lib in
theorem Tryd.strings_Contains (s sub : ByteArray) (m : Int) (w : World) (hs : s.size < 4294967281) (hm : w.cell? ⟨1, 0, none⟩ = some (.int .i64 m)) :
    Calls Tryd.prog 117 #[.string s, .string sub] w fun e w' => e = .returned (.bool (Lib.contains s.data.toList sub.data.toList)) ∧ w' = w := Any.strings_Contains Tryd.lays144 s sub m w hs hm
def Tryd.laysM219_ren : Go.Shelf.Ren := ⟨fun | 219 => 139 | 217 => 146 | 225 => 147 | 224 => 148 | 267 => 149 | 266 => 151 | 314 => 152 | n => n, fun | 9 => 9 | 3 => 3 | 4 => 4 | 5 => 5 | 46 => 138 | 146 => 182 | 51 => 170 | n => n, fun | 1 => 1 | n => n⟩
theorem Tryd.laysM219 : Go.Proofs.LaysM.n219 Tryd.prog Tryd.laysM219_ren := {
  mixed := by kernel_rfl
  f217 := Tryd.func146.trans (congrArg some (by kernel_rfl))
  f219 := Tryd.func139.trans (congrArg some (by kernel_rfl))
  f224 := Tryd.func148.trans (congrArg some (by kernel_rfl))
  f225 := Tryd.func147.trans (congrArg some (by kernel_rfl))
  f266 := Tryd.func151.trans (congrArg some (by kernel_rfl))
  f267 := Tryd.func149.trans (congrArg some (by kernel_rfl))
  f314 := Tryd.func152.trans (congrArg some (by kernel_rfl))
  t3 := Tryd.underlying3
  a3 := Tryd.isAgg3
  z3 := Tryd.sizeOf3
  v3 := Tryd.zeroValue3
  t4 := Tryd.underlying4
  a4 := Tryd.isAgg4
  z4 := Tryd.sizeOf4
  v4 := Tryd.zeroValue4
  t5 := Tryd.underlying5
  a5 := Tryd.isAgg5
  z5 := Tryd.sizeOf5
  v5 := Tryd.zeroValue5
  t9 := Tryd.underlying9
  a9 := Tryd.isAgg9
  z9 := Tryd.sizeOf9
  v9 := Tryd.zeroValue9
  t46 := Tryd.underlying138
  a46 := Tryd.isAgg138
  z46 := Tryd.sizeOf138
  v46 := Tryd.zeroValue138
  t51 := Tryd.underlying170
  a51 := Tryd.isAgg170
  z51 := Tryd.sizeOf170
  v51 := Tryd.zeroValue170
  t146 := Tryd.underlying182
  a146 := Tryd.isAgg182
  z146 := Tryd.sizeOf182
  v146 := Tryd.zeroValue182
  g1 := by kernel_rfl
  i3 := by kernel_rfl
  i4 := by kernel_rfl
  i5 := by kernel_rfl
  i9 := by kernel_rfl
  i46 := by kernel_rfl
  i51 := by kernel_rfl
  i146 := by kernel_rfl
  m1 := by kernel_rfl
  s1_3 := fun w h => Go.Proofs.cell_of_shapedOpen_int (zero := #[.int .i64 0]) (t := 3) h (of_decide_eq_true (by kernel_rfl)) (by kernel_rfl) rfl (by kernel_rfl) (by kernel_rfl) Tryd.underlying3 }
open Go.RowKit Go.Lib in
theorem Tryd.stringslite_Index_shaped (s sub : ByteArray) (w : World) (h : w.ShapedOpen Tryd.prog) (hs : s.size < 4294967281) :
    Calls Tryd.prog 139 #[.string s, .string sub] w fun e w' => e = .returned (.int .i64 (Lib.index s.data.toList sub.data.toList)) ∧ w' = w := Any.stringslite_Index_shaped Tryd.laysM219 s sub w h hs
def Tryd.laysM143_ren : Go.Shelf.Ren := ⟨fun | 143 => 127 | 219 => 139 | 217 => 146 | 225 => 147 | 224 => 148 | 267 => 149 | 266 => 151 | 314 => 152 | n => n, fun | 9 => 9 | 3 => 3 | 4 => 4 | 5 => 5 | 46 => 138 | 146 => 182 | 51 => 170 | n => n, fun | 1 => 1 | n => n⟩
theorem Tryd.laysM143 : Go.Proofs.LaysM.n143 Tryd.prog Tryd.laysM143_ren := {
  mixed := by kernel_rfl
  f143 := Tryd.func127.trans (congrArg some (by kernel_rfl))
  f217 := Tryd.func146.trans (congrArg some (by kernel_rfl))
  f219 := Tryd.func139.trans (congrArg some (by kernel_rfl))
  f224 := Tryd.func148.trans (congrArg some (by kernel_rfl))
  f225 := Tryd.func147.trans (congrArg some (by kernel_rfl))
  f266 := Tryd.func151.trans (congrArg some (by kernel_rfl))
  f267 := Tryd.func149.trans (congrArg some (by kernel_rfl))
  f314 := Tryd.func152.trans (congrArg some (by kernel_rfl))
  t3 := Tryd.underlying3
  a3 := Tryd.isAgg3
  z3 := Tryd.sizeOf3
  v3 := Tryd.zeroValue3
  t4 := Tryd.underlying4
  a4 := Tryd.isAgg4
  z4 := Tryd.sizeOf4
  v4 := Tryd.zeroValue4
  t5 := Tryd.underlying5
  a5 := Tryd.isAgg5
  z5 := Tryd.sizeOf5
  v5 := Tryd.zeroValue5
  t9 := Tryd.underlying9
  a9 := Tryd.isAgg9
  z9 := Tryd.sizeOf9
  v9 := Tryd.zeroValue9
  t46 := Tryd.underlying138
  a46 := Tryd.isAgg138
  z46 := Tryd.sizeOf138
  v46 := Tryd.zeroValue138
  t51 := Tryd.underlying170
  a51 := Tryd.isAgg170
  z51 := Tryd.sizeOf170
  v51 := Tryd.zeroValue170
  t146 := Tryd.underlying182
  a146 := Tryd.isAgg182
  z146 := Tryd.sizeOf182
  v146 := Tryd.zeroValue182
  g1 := by kernel_rfl
  i3 := by kernel_rfl
  i4 := by kernel_rfl
  i5 := by kernel_rfl
  i9 := by kernel_rfl
  i46 := by kernel_rfl
  i51 := by kernel_rfl
  i146 := by kernel_rfl
  m1 := by kernel_rfl
  s1_3 := fun w h => Go.Proofs.cell_of_shapedOpen_int (zero := #[.int .i64 0]) (t := 3) h (of_decide_eq_true (by kernel_rfl)) (by kernel_rfl) rfl (by kernel_rfl) (by kernel_rfl) Tryd.underlying3 }
open Go.RowKit Go.Lib in
theorem Tryd.strings_Index_shaped (s sub : ByteArray) (w : World) (h : w.ShapedOpen Tryd.prog) (hs : s.size < 4294967281) :
    Calls Tryd.prog 127 #[.string s, .string sub] w fun e w' => e = .returned (.int .i64 (Lib.index s.data.toList sub.data.toList)) ∧ w' = w := Any.strings_Index_shaped Tryd.laysM143 s sub w h hs
def Tryd.laysM144_ren : Go.Shelf.Ren := ⟨fun | 144 => 117 | 143 => 127 | 219 => 139 | 217 => 146 | 225 => 147 | 224 => 148 | 267 => 149 | 266 => 151 | 314 => 152 | n => n, fun | 9 => 9 | 4 => 4 | 3 => 3 | 5 => 5 | 46 => 138 | 146 => 182 | 51 => 170 | n => n, fun | 1 => 1 | n => n⟩
theorem Tryd.laysM144 : Go.Proofs.LaysM.n144 Tryd.prog Tryd.laysM144_ren := {
  mixed := by kernel_rfl
  f143 := Tryd.func127.trans (congrArg some (by kernel_rfl))
  f144 := Tryd.func117.trans (congrArg some (by kernel_rfl))
  f217 := Tryd.func146.trans (congrArg some (by kernel_rfl))
  f219 := Tryd.func139.trans (congrArg some (by kernel_rfl))
  f224 := Tryd.func148.trans (congrArg some (by kernel_rfl))
  f225 := Tryd.func147.trans (congrArg some (by kernel_rfl))
  f266 := Tryd.func151.trans (congrArg some (by kernel_rfl))
  f267 := Tryd.func149.trans (congrArg some (by kernel_rfl))
  f314 := Tryd.func152.trans (congrArg some (by kernel_rfl))
  t3 := Tryd.underlying3
  a3 := Tryd.isAgg3
  z3 := Tryd.sizeOf3
  v3 := Tryd.zeroValue3
  t4 := Tryd.underlying4
  a4 := Tryd.isAgg4
  z4 := Tryd.sizeOf4
  v4 := Tryd.zeroValue4
  t5 := Tryd.underlying5
  a5 := Tryd.isAgg5
  z5 := Tryd.sizeOf5
  v5 := Tryd.zeroValue5
  t9 := Tryd.underlying9
  a9 := Tryd.isAgg9
  z9 := Tryd.sizeOf9
  v9 := Tryd.zeroValue9
  t46 := Tryd.underlying138
  a46 := Tryd.isAgg138
  z46 := Tryd.sizeOf138
  v46 := Tryd.zeroValue138
  t51 := Tryd.underlying170
  a51 := Tryd.isAgg170
  z51 := Tryd.sizeOf170
  v51 := Tryd.zeroValue170
  t146 := Tryd.underlying182
  a146 := Tryd.isAgg182
  z146 := Tryd.sizeOf182
  v146 := Tryd.zeroValue182
  g1 := by kernel_rfl
  i3 := by kernel_rfl
  i4 := by kernel_rfl
  i5 := by kernel_rfl
  i9 := by kernel_rfl
  i46 := by kernel_rfl
  i51 := by kernel_rfl
  i146 := by kernel_rfl
  m1 := by kernel_rfl
  s1_3 := fun w h => Go.Proofs.cell_of_shapedOpen_int (zero := #[.int .i64 0]) (t := 3) h (of_decide_eq_true (by kernel_rfl)) (by kernel_rfl) rfl (by kernel_rfl) (by kernel_rfl) Tryd.underlying3 }
open Go.RowKit Go.Lib in
theorem Tryd.strings_Contains_shaped (s sub : ByteArray) (w : World) (h : w.ShapedOpen Tryd.prog) (hs : s.size < 4294967281) :
    Calls Tryd.prog 117 #[.string s, .string sub] w fun e w' => e = .returned (.bool (Lib.contains s.data.toList sub.data.toList)) ∧ w' = w := Any.strings_Contains_shaped Tryd.laysM144 s sub w h hs
def Tryd.laysNm220_ren : Go.Shelf.Ren := ⟨fun | 20 => 92 | n => n, fun | 22 => 25 | 3 => 3 | 4 => 4 | 0 => 0 | n => n, fun | n => n⟩
theorem Tryd.laysNm220 : Go.Proofs.Lays2.n20 Tryd.prog Tryd.laysNm220_ren := {
  mixed := by kernel_rfl
  f20 := Tryd.func92.trans (congrArg some (by kernel_rfl))
  t0 := Tryd.underlying0
  a0 := Tryd.isAgg0
  z0 := Tryd.sizeOf0
  v0 := Tryd.zeroValue0
  t3 := Tryd.underlying3
  a3 := Tryd.isAgg3
  z3 := Tryd.sizeOf3
  v3 := Tryd.zeroValue3
  t4 := Tryd.underlying4
  a4 := Tryd.isAgg4
  z4 := Tryd.sizeOf4
  v4 := Tryd.zeroValue4
  t22 := Tryd.underlying25
  a22 := Tryd.isAgg25
  z22 := Tryd.sizeOf25
  v22 := Tryd.zeroValue25
  i3 := by kernel_rfl }
open Go.RowKit Go.Lib Go.Sort in
theorem Tryd.slices_Compact_int_arr (blk off cap : Nat) (d : Array Int) (w : World) (hH : Holds encI w blk off d) (hsz : d.size ≤ 9223372036854775807) (hcap : d.size ≤ cap) :
    Calls Tryd.prog 92 #[.slice (some ⟨blk, off, none⟩) d.size cap] w fun e w' => e = .returned (.slice (some ⟨blk, off, none⟩) (compactUpTo d d.size).length cap) ∧ ∃ q, w' = putRow encI (Sort.ahead w q) blk off (compactUpTo d d.size ++ List.replicate (d.size - (compactUpTo d d.size).length) 0).toArray := Any.slices_Compact_int_arr Tryd.laysNm220 blk off cap d w hH hsz hcap
open Go.RowKit Go.Lib Go.Sort in
theorem Tryd.slices_Compact_int (blk off cap : Nat) (zs : List Int) (w : World) (hH : Holds (Value.int .i64) w blk off zs.toArray) (hsz : zs.length ≤ 9223372036854775807) (hcap : zs.length ≤ cap) :
    Calls Tryd.prog 92 #[.slice (some ⟨blk, off, none⟩) zs.length cap] w fun e w' => e = .returned (.slice (some ⟨blk, off, none⟩) (Lib.compact zs).length cap) ∧ ∃ q, w' = putRow (Value.int .i64) (Sort.ahead w q) blk off (Lib.compact zs ++ List.replicate (zs.length - (Lib.compact zs).length) 0).toArray := Any.slices_Compact_int Tryd.laysNm220 blk off cap zs w hH hsz hcap
open Go.RowKit Go.Lib Go.Sort in
theorem Tryd.slices_Compact_int_empty (a : Option Addr) (cap : Nat) (w : World) :
    Calls Tryd.prog 92 #[.slice a 0 cap] w fun e w' => e = .returned (.slice a 0 cap) ∧ w' = w := Any.slices_Compact_int_empty Tryd.laysNm220 a cap w
def Tryd.laysNm237_ren : Go.Shelf.Ren := ⟨fun | 37 => 145 | n => n, fun | 3 => 3 | 4 => 4 | n => n, fun | n => n⟩
theorem Tryd.laysNm237 : Go.Proofs.Lays2.n37 Tryd.prog Tryd.laysNm237_ren := {
  mixed := by kernel_rfl
  f37 := Tryd.func145.trans (congrArg some (by kernel_rfl))
  t3 := Tryd.underlying3
  a3 := Tryd.isAgg3
  z3 := Tryd.sizeOf3
  v3 := Tryd.zeroValue3
  t4 := Tryd.underlying4
  a4 := Tryd.isAgg4
  z4 := Tryd.sizeOf4
  v4 := Tryd.zeroValue4 }
open Go.RowKit Go.Lib in
theorem Tryd.cmp_isNaN_int2 (x : Int) (w : World) :
    Calls Tryd.prog 145 #[.int .i64 x] w fun e w' => e = .returned (.bool false) ∧ w' = w := Any.cmp_isNaN_int2 Tryd.laysNm237 x w
def Tryd.laysNm231_ren : Go.Shelf.Ren := ⟨fun | 31 => 134 | 37 => 145 | n => n, fun | 3 => 3 | 4 => 4 | n => n, fun | n => n⟩
theorem Tryd.laysNm231 : Go.Proofs.Lays2.n31 Tryd.prog Tryd.laysNm231_ren := {
  mixed := by kernel_rfl
  f31 := Tryd.func134.trans (congrArg some (by kernel_rfl))
  f37 := Tryd.func145.trans (congrArg some (by kernel_rfl))
  t3 := Tryd.underlying3
  a3 := Tryd.isAgg3
  z3 := Tryd.sizeOf3
  v3 := Tryd.zeroValue3
  t4 := Tryd.underlying4
  a4 := Tryd.isAgg4
  z4 := Tryd.sizeOf4
  v4 := Tryd.zeroValue4 }
open Go.RowKit Go.Lib in
theorem Tryd.cmp_Less_int2 (x y : Int) (w : World) :
    Calls Tryd.prog 134 #[.int .i64 x, .int .i64 y] w fun e w' => e = .returned (.bool (decide (x < y))) ∧ w' = w := Any.cmp_Less_int2 Tryd.laysNm231 x y w
open Go.RowKit Go.Lib Go.Sort in
theorem Tryd.slices_Compact_int_cells (b off n c : Nat) (zs : List Int) (w : World) (hz : n ≤ zs.length) (hbig : n ≤ 9223372036854775807) (hcap : n ≤ c) (hc : ∀ j, j < zs.length → w.cell? ⟨b, off + j, none⟩ = some (.int .i64 (zs.getD j 0))) (hf : ∀ j, j < n → w.frozen? ⟨b, off + j, none⟩ = false) :
    Calls Tryd.prog 92 #[.slice (some ⟨b, off, none⟩) n c] w fun e w' => e = .returned (.slice (some ⟨b, off, none⟩) (Lib.compact (zs.take n)).length c) ∧ ∃ q, w' = (w.drewN q).setCells b off ((Lib.compact (zs.take n) ++ List.replicate (n - (Lib.compact (zs.take n)).length) 0).map (Value.int .i64)) := Any.slices_Compact_int_cells Tryd.laysNm220 b off n c zs w hz hbig hcap hc hf
end Go.Proofs
namespace Go.Proofs.YtfjmlobgjdmecaaDoor
open Go Go.Eng Go.RowKit
set_option linter.unusedVariables false

/-! ### names -/
def resC : Str := [32, 114, 117, 108, 101, 32, 102, 114, 111, 109, 32, 111, 110, 32, 105, 102, 32, 100, 117, 101, 32, 117, 110, 108, 101, 115, 115, 32, 101, 108, 115, 101, 32, 111, 114, 32, 97, 110, 100, 32, 110, 111, 116, 32, 116, 114, 117, 101, 32, 102, 97, 108, 115, 101, 32, 116, 104, 101, 110, 32, 101, 110, 100, 32, 100, 97, 121, 115, 32, 119, 101, 101, 107, 115, 32, 109, 111, 110, 116, 104, 115, 32, 99, 111, 117, 114, 116, 100, 97, 121, 115, 32, 110, 101, 120, 116, 32, 112, 114, 101, 118, 32, 108, 97, 116, 101, 114, 32, 101, 97, 114, 108, 105, 101, 114, 32, 98, 101, 116, 119, 101, 101, 110, 32]
def resW : List Str := [[114, 117, 108, 101], [102, 114, 111, 109], [111, 110], [105, 102], [100, 117, 101], [117, 110, 108, 101, 115, 115], [101, 108, 115, 101], [111, 114], [97, 110, 100], [110, 111, 116], [116, 114, 117, 101], [102, 97, 108, 115, 101], [116, 104, 101, 110], [101, 110, 100], [100, 97, 121, 115], [119, 101, 101, 107, 115], [109, 111, 110, 116, 104, 115], [99, 111, 117, 114, 116, 100, 97, 121, 115], [110, 101, 120, 116], [112, 114, 101, 118], [108, 97, 116, 101, 114], [101, 97, 114, 108, 105, 101, 114], [98, 101, 116, 119, 101, 101, 110]]
theorem index_iff : ∀ (s sub : List UInt8), 0 ≤ Lib.index s sub ↔ ∃ i, i ≤ s.length ∧ sub.isPrefixOf (s.drop i) = true
  | [], sub => by
    unfold Lib.index
    cases sub with
    | nil => simp
    | cons a l => simp
  | b :: l, sub => by
    have ih := index_iff l sub
    have hge := Lib.index_ge l sub
    unfold Lib.index
    by_cases hp : sub.isPrefixOf (b :: l) = true
    · rw [if_pos hp]
      exact ⟨fun _ => ⟨0, by omega, hp⟩, fun _ => by omega⟩
    · rw [if_neg hp]
      have e : (0 : Int) ≤ (if (Lib.index l sub == -1) = true then -1 else Lib.index l sub + 1) ↔ 0 ≤ Lib.index l sub := by
        by_cases h1 : Lib.index l sub = -1
        · rw [if_pos (by simpa using h1)]; omega
        · rw [if_neg (by simpa using h1)]; omega
      rw [e, ih]
      constructor
      · rintro ⟨i, hi, h⟩
        exact ⟨i + 1, by simpa using hi, h⟩
      · rintro ⟨i, hi, h⟩
        cases i with
        | zero => exact absurd h hp
        | succ i => exact ⟨i, by simpa using hi, h⟩
theorem take_word : ∀ (t r : List UInt8), (∀ c ∈ t, c ≠ 32) → (t ++ [32]).isPrefixOf r = true → r.takeWhile (fun c => decide (c ≠ 32)) = t
  | [], r, _, h => by
    cases r with
    | nil => simp at h
    | cons a l =>
      simp [List.isPrefixOf] at h
      subst h
      rfl
  | c :: t, r, hc, h => by
    cases r with
    | nil => simp at h
    | cons a l =>
      simp only [List.cons_append, List.isPrefixOf, Bool.and_eq_true, beq_iff_eq] at h
      obtain ⟨rfl, h⟩ := h
      have h1 := hc c (by simp)
      rw [List.takeWhile_cons_of_pos (by simpa using h1), take_word t l (fun x hx => hc x (by simp [hx])) h]
theorem res_words : ∀ i ∈ List.range (resC.length + 1), (resC.drop i).head? = some 32 → (resC.drop (i + 1)).takeWhile (fun c => decide (c ≠ 32)) ∈ resW ∨ (resC.drop (i + 1)).takeWhile (fun c => decide (c ≠ 32)) = [] := by decide +kernel
theorem res_has : ∀ t ∈ resW, Lib.contains resC (32 :: t ++ [32]) = true := by decide +kernel
theorem res_iff {t : Str} (h0 : t ≠ []) (hc : ∀ c ∈ t, c ≠ 32) : Lib.contains resC (32 :: t ++ [32]) = decide (t ∈ resW) := by
  by_cases ht : t ∈ resW
  · rw [res_has t ht, decide_eq_true ht]
  · rw [decide_eq_false ht]
    unfold Lib.contains
    rw [decide_eq_false_iff_not, index_iff]
    rintro ⟨i, hi, h⟩
    cases hd : resC.drop i with
    | nil => rw [hd] at h; simp at h
    | cons a l =>
      rw [hd] at h
      simp only [List.cons_append, List.isPrefixOf, Bool.and_eq_true, beq_iff_eq] at h
      obtain ⟨rfl, h⟩ := h
      have hl : resC.drop (i + 1) = l := by
        have := congrArg List.tail hd
        simpa [List.tail_drop] using this
      have hw := take_word t l hc h
      have := res_words i (List.mem_range.2 (by omega)) (by rw [hd]; rfl)
      rw [hl, hw] at this
      exact this.elim ht h0
end Go.Proofs.YtfjmlobgjdmecaaDoor
namespace Go.Proofs.YtfjmlobgjdmecaaDoor
open Go Go.Eng Go.RowKit
set_option linter.unusedVariables false

abbrev lett (c : Int) : Prop := (97 ≤ c ∧ c ≤ 122) ∨ (48 ≤ c ∧ c ≤ 57)
def nameOk (s : Str) : Bool := decide (0 < s.length ∧ s.length ≤ 12 ∧ 97 ≤ byte s 0 ∧ byte s 0 ≤ 122 ∧ ∀ i, i < s.length → lett (byte s i))
/-- a string is a name -/
def namedT (s : Str) : Bool := nameOk s && decide (s ∉ resW ∧ s ∉ fieldNames)
theorem contains_any (a b : Str) (m : Int) (w : World) (ha : a.length < 4294967281) (hm : w.cell? ⟨1, 0, none⟩ = some (.int .i64 m)) :
    Calls Tryd.prog 117 #[str a, str b] w (Ret fun r w' => r = .bool (Lib.contains a b) ∧ Stp [] w w') := by
  refine (Tryd.strings_Contains ⟨a.toArray⟩ ⟨b.toArray⟩ m w (by rw [str_size]; exact ha) hm).mono ?_
  rintro e w' ⟨rfl, rfl⟩
  exact .mk ⟨rfl, Stp.refl _ _⟩
theorem idx_memS {l : List Str} {s : Str} : 0 ≤ idx (isS s) l ↔ s ∈ l := by
  unfold idx
  cases h : l.findIdx? (isS s) with
  | none =>
    rw [List.findIdx?_eq_none_iff] at h
    simp only
    constructor
    · intro h1; omega
    · intro h1
      have := h s h1
      simp [isS] at this
  | some i =>
    obtain ⟨hi, hp, _⟩ := List.findIdx?_eq_some_iff_getElem.1 h
    simp only
    constructor
    · intro _
      have : l[i] = s := by simpa [isS] using hp
      rw [← this]; exact List.getElem_mem hi
    · intro _; omega
theorem containsS_any (X : List Nat) (v : Value) (l : List Str) (a : Str) (w : World) (hs : SlV X w v l) :
    Calls Tryd.prog 118 #[v, str a] w (Ret fun r w' => r = .bool (decide (a ∈ l)) ∧ Stp [] w w') := by
  refine calls_of_WC2 (n := 9) Tryd.func118 rfl rfl rfl ?_
  refine W ?_
  refine WL_eff (OE_call rfl (evs2 rfl rfl) (index_any X v l a _ hs)) rfl ?_
  rintro _ w1 ⟨rfl, hS⟩
  refine W ?_
  first | refine WQ_ret1 rfl rfl ?_ | refine WQ_ret2 rfl rfl rfl ?_ | refine WQ_ret3 rfl rfl rfl rfl ?_ | refine WQ_ret0 rfl ?_ | refine WQ_end0 rfl ?_
  exact .mk ⟨by congr 1; exact decide_eq_decide.2 idx_memS, hS⟩
theorem named_any (s : Str) (m : Int) (w : World) (hF : SlV [] w flds fieldNames) (hm : w.cell? ⟨1, 0, none⟩ = some (.int .i64 m)) :
    Calls Tryd.prog 86 #[str s] w (Ret fun r w' => r = .bool (namedT s) ∧ Stp [] w w') := by
  refine calls_of_WC1 (n := 55) Tryd.func86 rfl rfl rfl ?_
  refine W ?_
  by_cases h0 : s.length ≠ 0 ∧ s.length ≤ 12 ∧ 97 ≤ byte s 0 ∧ byte s 0 ≤ 122
  case neg =>
    have hn : namedT s = false := by
      unfold namedT nameOk
      rw [decide_eq_false (fun h => h0 ⟨by omega, h.2.1, h.2.2.1, h.2.2.2.1⟩)]
      rfl
    by_cases hl : s.length ≠ 0
    · repeat' (first | refine W1 ?_ | (exfalso; omega) | refine WL_split rfl rfl (fun hg => ?_) (fun hg => ?_) | refine WL_splitB rfl rfl (fun hg => ?_) (fun hg => ?_) | refine WC_cond rfl (fun hc => ?_) (fun hc => ?_) | refine WC_condB rfl (fun hc => ?_) (fun hc => ?_))
      · first | refine WQ_ret1 rfl rfl ?_ | refine WQ_ret2 rfl rfl rfl ?_ | refine WQ_ret3 rfl rfl rfl rfl ?_ | refine WQ_ret0 rfl ?_ | refine WQ_end0 rfl ?_
        exact .mk ⟨by rw [hn], Stp.refl _ _⟩
      · first | refine WQ_ret1 rfl rfl ?_ | refine WQ_ret2 rfl rfl rfl ?_ | refine WQ_ret3 rfl rfl rfl rfl ?_ | refine WQ_ret0 rfl ?_ | refine WQ_end0 rfl ?_
        exact .mk ⟨by rw [hn], Stp.refl _ _⟩
      refine WL_indexT (i := 0) rfl rfl rfl (by omega) rfl ?_
      repeat' (first | refine W1 ?_ | (exfalso; omega) | refine WL_split rfl rfl (fun hg => ?_) (fun hg => ?_) | refine WL_splitB rfl rfl (fun hg => ?_) (fun hg => ?_) | refine WC_cond rfl (fun hc => ?_) (fun hc => ?_) | refine WC_condB rfl (fun hc => ?_) (fun hc => ?_))
      · first | refine WQ_ret1 rfl rfl ?_ | refine WQ_ret2 rfl rfl rfl ?_ | refine WQ_ret3 rfl rfl rfl rfl ?_ | refine WQ_ret0 rfl ?_ | refine WQ_end0 rfl ?_
        exact .mk ⟨by rw [hn], Stp.refl _ _⟩
      refine WL_indexT (i := 0) rfl rfl rfl (by omega) rfl ?_
      repeat' (first | refine W1 ?_ | (exfalso; omega) | refine WL_split rfl rfl (fun hg => ?_) (fun hg => ?_) | refine WL_splitB rfl rfl (fun hg => ?_) (fun hg => ?_) | refine WC_cond rfl (fun hc => ?_) (fun hc => ?_) | refine WC_condB rfl (fun hc => ?_) (fun hc => ?_))
      first | refine WQ_ret1 rfl rfl ?_ | refine WQ_ret2 rfl rfl rfl ?_ | refine WQ_ret3 rfl rfl rfl rfl ?_ | refine WQ_ret0 rfl ?_ | refine WQ_end0 rfl ?_
      exact .mk ⟨by rw [hn], Stp.refl _ _⟩
    · obtain rfl : s = [] := List.length_eq_zero_iff.1 (by omega)
      repeat' (first | refine W1 ?_ | (exfalso; omega) | refine WL_split rfl rfl (fun hg => ?_) (fun hg => ?_) | refine WL_splitB rfl rfl (fun hg => ?_) (fun hg => ?_) | refine WC_cond rfl (fun hc => ?_) (fun hc => ?_) | refine WC_condB rfl (fun hc => ?_) (fun hc => ?_))
      first | refine WQ_ret1 rfl rfl ?_ | refine WQ_ret2 rfl rfl rfl ?_ | refine WQ_ret3 rfl rfl rfl rfl ?_ | refine WQ_ret0 rfl ?_ | refine WQ_end0 rfl ?_
      exact .mk ⟨by rw [hn], Stp.refl _ _⟩
  obtain ⟨h1, h2, h3, h4⟩ := h0
  have hne : ¬ s = [] := fun h => by rw [h] at h1; exact h1 rfl
  repeat' (first | refine W1 ?_ | (exfalso; omega) | refine WL_split rfl rfl (fun hg => ?_) (fun hg => ?_) | refine WL_splitB rfl rfl (fun hg => ?_) (fun hg => ?_) | refine WC_cond rfl (fun hc => ?_) (fun hc => ?_) | refine WC_condB rfl (fun hc => ?_) (fun hc => ?_))
  · exact absurd (by assumption) hne
  refine WL_indexT (i := 0) rfl rfl rfl (by omega) rfl ?_
  repeat' (first | refine W1 ?_ | (exfalso; omega) | refine WL_split rfl rfl (fun hg => ?_) (fun hg => ?_) | refine WL_splitB rfl rfl (fun hg => ?_) (fun hg => ?_) | refine WC_cond rfl (fun hc => ?_) (fun hc => ?_) | refine WC_condB rfl (fun hc => ?_) (fun hc => ?_))
  refine WL_indexT (i := 0) rfl rfl rfl (by omega) rfl ?_
  repeat' (first | refine W1 ?_ | (exfalso; omega) | refine WL_split rfl rfl (fun hg => ?_) (fun hg => ?_) | refine WL_splitB rfl rfl (fun hg => ?_) (fun hg => ?_) | refine WC_cond rfl (fun hc => ?_) (fun hc => ?_) | refine WC_condB rfl (fun hc => ?_) (fun hc => ?_))
  refine WL_eff (OE_convS rfl (by omega)) rfl ?_
  rintro bv w1 ⟨hb, hS⟩
  replace hb := hb [] (by simp)
  have hmx := hb.max
  repeat' (first | refine W1 ?_ | (exfalso; omega) | refine WL_split rfl rfl (fun hg => ?_) (fun hg => ?_) | refine WL_splitB rfl rfl (fun hg => ?_) (fun hg => ?_) | refine WC_cond rfl (fun hc => ?_) (fun hc => ?_) | refine WC_condB rfl (fun hc => ?_) (fun hc => ?_))
  refine WC_loop (σ := Nat) (fun i => [(0, str s), (23, bv), (24, .int .i64 (s.length : Int)), (25, .int .i64 (i : Int))]) (fun i w' => i ≤ s.length ∧ Stp [] w1 w' ∧ ∀ j, j < i → lett (byte s j)) (fun i => s.length - i) 0 ⟨rfl, rfl, rfl, rfl, trivial⟩ ⟨Nat.zero_le _, Stp.refl _ _, fun j hj => absurd hj (Nat.not_lt_zero _)⟩ ?_
  rintro i w2 ⟨hi, hS2, hall⟩
  try dsimp only at hi hall ⊢
  replace hb := hb.up hS2
  replace hS := hS.trans hS2
  by_cases hlt : i < s.length
  · have hbi : byte s i = (s[i].toNat : Int) := Go.Eng.byte_at hlt
    by_cases hle : (97 ≤ (s[i].toNat : Int) ∧ (s[i].toNat : Int) ≤ 122) ∨ (48 ≤ (s[i].toNat : Int) ∧ (s[i].toNat : Int) ≤ 57)
    · have hall' : ∀ j, j < i + 1 → lett (byte s j) := fun j hj => by
        by_cases e : j = i
        · subst e; rw [hbi]; exact hle
        · exact hall j (by omega)
      repeat' (first | refine W1 ?_ | (exfalso; omega) | refine WL_split rfl rfl (fun hg => ?_) (fun hg => ?_) | refine WL_splitB rfl rfl (fun hg => ?_) (fun hg => ?_) | refine WC_cond rfl (fun hc => ?_) (fun hc => ?_) | refine WC_condB rfl (fun hc => ?_) (fun hc => ?_))
      all_goals exact WQ_loop (i + 1) ⟨rfl, rfl, rfl, rfl, trivial⟩ ⟨hlt, hS2, hall'⟩ (Nat.sub_lt_sub_left hlt (Nat.lt_succ_self i))
    · have hn : namedT s = false := by
        unfold namedT nameOk
        rw [decide_eq_false (fun h => hle (by have := h.2.2.2.2 i hlt; rw [hbi] at this; exact this))]
        rfl
      repeat' (first | refine W1 ?_ | (exfalso; omega) | refine WL_split rfl rfl (fun hg => ?_) (fun hg => ?_) | refine WL_splitB rfl rfl (fun hg => ?_) (fun hg => ?_) | refine WC_cond rfl (fun hc => ?_) (fun hc => ?_) | refine WC_condB rfl (fun hc => ?_) (fun hc => ?_))
      all_goals
        first | refine WQ_ret1 rfl rfl ?_ | refine WQ_ret2 rfl rfl rfl ?_ | refine WQ_ret3 rfl rfl rfl rfl ?_ | refine WQ_ret0 rfl ?_ | refine WQ_end0 rfl ?_
        exact .mk ⟨by rw [hn], hS⟩
  obtain rfl : i = s.length := by omega
  have hok : nameOk s = true := decide_eq_true ⟨by omega, h2, h3, h4, hall⟩
  have hsp : ∀ c ∈ s, c ≠ 32 := fun c hc h => by
    obtain ⟨j, hj, rfl⟩ := List.getElem_of_mem hc
    have h5 := hall j hj
    rw [Go.Eng.byte_at hj, h] at h5
    exact absurd h5 (by decide)
  have hrl : resC.length < 4294967281 := by
    have : resC.length ≤ 200 := by decide +kernel
    omega
  have hres : Lib.contains resC ([32] ++ s ++ [32]) = decide (s ∈ resW) := res_iff hne hsp
  repeat' (first | refine W1 ?_ | (exfalso; omega) | refine WL_split rfl rfl (fun hg => ?_) (fun hg => ?_) | refine WL_splitB rfl rfl (fun hg => ?_) (fun hg => ?_) | refine WC_cond rfl (fun hc => ?_) (fun hc => ?_) | refine WC_condB rfl (fun hc => ?_) (fun hc => ?_))
  refine WL_addT rfl rfl (by simp; omega) rfl ?_
  repeat' (first | refine W1 ?_ | (exfalso; omega) | refine WL_split rfl rfl (fun hg => ?_) (fun hg => ?_) | refine WL_splitB rfl rfl (fun hg => ?_) (fun hg => ?_) | refine WC_cond rfl (fun hc => ?_) (fun hc => ?_) | refine WC_condB rfl (fun hc => ?_) (fun hc => ?_))
  refine WL_addT rfl rfl (by simp; omega) rfl ?_
  repeat' (first | refine W1 ?_ | (exfalso; omega) | refine WL_split rfl rfl (fun hg => ?_) (fun hg => ?_) | refine WL_splitB rfl rfl (fun hg => ?_) (fun hg => ?_) | refine WC_cond rfl (fun hc => ?_) (fun hc => ?_) | refine WC_condB rfl (fun hc => ?_) (fun hc => ?_))
  refine WL_eff (OE_call rfl (evs2 rfl rfl) (contains_any resC ([32] ++ s ++ [32]) m _ hrl (hS.cell (by simp) hm))) rfl ?_
  rintro _ w3 ⟨rfl, hS3⟩
  rw [hres]
  replace hS := hS.trans hS3
  by_cases hr : s ∈ resW
  · have hn : namedT s = false := by
      unfold namedT
      rw [decide_eq_false (fun h => h.1 hr), Bool.and_false]
    rw [decide_eq_true hr]
    repeat' (first | refine W1 ?_ | (exfalso; omega) | refine WL_split rfl rfl (fun hg => ?_) (fun hg => ?_) | refine WL_splitB rfl rfl (fun hg => ?_) (fun hg => ?_) | refine WC_cond rfl (fun hc => ?_) (fun hc => ?_) | refine WC_condB rfl (fun hc => ?_) (fun hc => ?_))
    first | refine WQ_ret1 rfl rfl ?_ | refine WQ_ret2 rfl rfl rfl ?_ | refine WQ_ret3 rfl rfl rfl rfl ?_ | refine WQ_ret0 rfl ?_ | refine WQ_end0 rfl ?_
    exact .mk ⟨by rw [hn], hS⟩
  rw [decide_eq_false hr]
  repeat' (first | refine W1 ?_ | (exfalso; omega) | refine WL_split rfl rfl (fun hg => ?_) (fun hg => ?_) | refine WL_splitB rfl rfl (fun hg => ?_) (fun hg => ?_) | refine WC_cond rfl (fun hc => ?_) (fun hc => ?_) | refine WC_condB rfl (fun hc => ?_) (fun hc => ?_))
  refine WL_sliceA rfl rfl ?_
  refine W ?_
  refine WL_eff (OE_call rfl (evs2 rfl rfl) (containsS_any [] _ fieldNames s _ (hF.up hS))) rfl ?_
  rintro _ w4 ⟨rfl, hS4⟩
  repeat' (first | refine W1 ?_ | (exfalso; omega) | refine WL_split rfl rfl (fun hg => ?_) (fun hg => ?_) | refine WL_splitB rfl rfl (fun hg => ?_) (fun hg => ?_) | refine WC_cond rfl (fun hc => ?_) (fun hc => ?_) | refine WC_condB rfl (fun hc => ?_) (fun hc => ?_))
  first | refine WQ_ret1 rfl rfl ?_ | refine WQ_ret2 rfl rfl rfl ?_ | refine WQ_ret3 rfl rfl rfl rfl ?_ | refine WQ_ret0 rfl ?_ | refine WQ_end0 rfl ?_
  refine .mk ⟨?_, hS.trans hS4⟩
  unfold namedT
  rw [hok]
  by_cases hf : s ∈ fieldNames <;> simp [hr, hf]
end Go.Proofs.YtfjmlobgjdmecaaDoor
namespace Go.Proofs.YtfjmlobgjdmecaaDoor
open Go Go.Eng Go.RowKit
set_option linter.unusedVariables false

theorem reserved_words : wordsOf [114, 117, 108, 101, 32, 102, 114, 111, 109, 32, 111, 110, 32, 105, 102, 32, 100, 117, 101, 32, 117, 110, 108, 101, 115, 115, 32, 101, 108, 115, 101, 32, 111, 114, 32, 97, 110, 100, 32, 110, 111, 116, 32, 116, 114, 117, 101, 32, 102, 97, 108, 115, 101, 32, 116, 104, 101, 110, 32, 101, 110, 100, 32, 100, 97, 121, 115, 32, 119, 101, 101, 107, 115, 32, 109, 111, 110, 116, 104, 115, 32, 99, 111, 117, 114, 116, 100, 97, 121, 115, 32, 110, 101, 120, 116, 32, 112, 114, 101, 118, 32, 108, 97, 116, 101, 114, 32, 101, 97, 114, 108, 105, 101, 114, 32, 98, 101, 116, 119, 101, 101, 110, 32, 100, 97, 121, 32, 115, 101, 114, 118, 101, 100, 32, 101, 120, 116, 114, 97, 32, 98, 121, 32, 116, 111, 32, 99, 111, 117, 114, 116, 32, 97, 109, 111, 117, 110, 116] = resW ++ fieldNames := by decide +kernel
theorem Reserved_any (X : List Nat) (w : World) (hX : ∀ b ∈ X, b < w.heap.size) : Calls Tryd.prog 45 #[] w (Ret fun r w' => Row X w' w.heap.size 9 r (resW ++ fieldNames) ∧ Stp [] w w') := by
  refine calls_of_WC0 (n := 2) Tryd.func45 rfl rfl ?_
  refine W ?_
  refine WL_eff (OE_call rfl (evs1 rfl) (words_any X [114, 117, 108, 101, 32, 102, 114, 111, 109, 32, 111, 110, 32, 105, 102, 32, 100, 117, 101, 32, 117, 110, 108, 101, 115, 115, 32, 101, 108, 115, 101, 32, 111, 114, 32, 97, 110, 100, 32, 110, 111, 116, 32, 116, 114, 117, 101, 32, 102, 97, 108, 115, 101, 32, 116, 104, 101, 110, 32, 101, 110, 100, 32, 100, 97, 121, 115, 32, 119, 101, 101, 107, 115, 32, 109, 111, 110, 116, 104, 115, 32, 99, 111, 117, 114, 116, 100, 97, 121, 115, 32, 110, 101, 120, 116, 32, 112, 114, 101, 118, 32, 108, 97, 116, 101, 114, 32, 101, 97, 114, 108, 105, 101, 114, 32, 98, 101, 116, 119, 101, 101, 110, 32, 100, 97, 121, 32, 115, 101, 114, 118, 101, 100, 32, 101, 120, 116, 114, 97, 32, 98, 121, 32, 116, 111, 32, 99, 111, 117, 114, 116, 32, 97, 109, 111, 117, 110, 116] _ hX (by decide +kernel))) rfl ?_
  rintro v w1 ⟨hr, hS⟩
  rw [reserved_words] at hr
  refine W ?_
  first | refine WQ_ret1 rfl rfl ?_ | refine WQ_ret2 rfl rfl rfl ?_ | refine WQ_ret3 rfl rfl rfl rfl ?_ | refine WQ_ret0 rfl ?_ | refine WQ_end0 rfl ?_
  exact .mk ⟨hr, hS⟩
theorem Named14_any (s : Str) (w : World) : Calls Tryd.prog 70 #[str s] w (Ret fun r w' => r = .bool (namedT s) ∧ Stp [] w w') := by
  refine calls_of_WC1 (n := 60) Tryd.func70 rfl rfl rfl ?_
  refine W ?_
  by_cases h0 : s.length ≠ 0 ∧ s.length ≤ 12 ∧ 97 ≤ byte s 0 ∧ byte s 0 ≤ 122
  case neg =>
    have hn : namedT s = false := by
      unfold namedT nameOk
      rw [decide_eq_false (fun h => h0 ⟨by omega, h.2.1, h.2.2.1, h.2.2.2.1⟩)]
      rfl
    by_cases hl : s.length ≠ 0
    · repeat' (first | refine W1 ?_ | (exfalso; omega) | refine WL_split rfl rfl (fun hg => ?_) (fun hg => ?_) | refine WL_splitB rfl rfl (fun hg => ?_) (fun hg => ?_) | refine WC_cond rfl (fun hc => ?_) (fun hc => ?_) | refine WC_condB rfl (fun hc => ?_) (fun hc => ?_))
      · first | refine WQ_ret1 rfl rfl ?_ | refine WQ_ret2 rfl rfl rfl ?_ | refine WQ_ret3 rfl rfl rfl rfl ?_ | refine WQ_ret0 rfl ?_ | refine WQ_end0 rfl ?_
        exact .mk ⟨by rw [hn], Stp.refl _ _⟩
      refine WL_indexT (i := 0) rfl rfl rfl (by omega) rfl ?_
      repeat' (first | refine W1 ?_ | (exfalso; omega) | refine WL_split rfl rfl (fun hg => ?_) (fun hg => ?_) | refine WL_splitB rfl rfl (fun hg => ?_) (fun hg => ?_) | refine WC_cond rfl (fun hc => ?_) (fun hc => ?_) | refine WC_condB rfl (fun hc => ?_) (fun hc => ?_))
      · first | refine WQ_ret1 rfl rfl ?_ | refine WQ_ret2 rfl rfl rfl ?_ | refine WQ_ret3 rfl rfl rfl rfl ?_ | refine WQ_ret0 rfl ?_ | refine WQ_end0 rfl ?_
        exact .mk ⟨by rw [hn], Stp.refl _ _⟩
      refine WL_indexT (i := 0) rfl rfl rfl (by omega) rfl ?_
      repeat' (first | refine W1 ?_ | (exfalso; omega) | refine WL_split rfl rfl (fun hg => ?_) (fun hg => ?_) | refine WL_splitB rfl rfl (fun hg => ?_) (fun hg => ?_) | refine WC_cond rfl (fun hc => ?_) (fun hc => ?_) | refine WC_condB rfl (fun hc => ?_) (fun hc => ?_))
      first | refine WQ_ret1 rfl rfl ?_ | refine WQ_ret2 rfl rfl rfl ?_ | refine WQ_ret3 rfl rfl rfl rfl ?_ | refine WQ_ret0 rfl ?_ | refine WQ_end0 rfl ?_
      exact .mk ⟨by rw [hn], Stp.refl _ _⟩
    · repeat' (first | refine W1 ?_ | (exfalso; omega) | refine WL_split rfl rfl (fun hg => ?_) (fun hg => ?_) | refine WL_splitB rfl rfl (fun hg => ?_) (fun hg => ?_) | refine WC_cond rfl (fun hc => ?_) (fun hc => ?_) | refine WC_condB rfl (fun hc => ?_) (fun hc => ?_))
      first | refine WQ_ret1 rfl rfl ?_ | refine WQ_ret2 rfl rfl rfl ?_ | refine WQ_ret3 rfl rfl rfl rfl ?_ | refine WQ_ret0 rfl ?_ | refine WQ_end0 rfl ?_
      exact .mk ⟨by rw [hn], Stp.refl _ _⟩
  obtain ⟨h1, h2, h3, h4⟩ := h0
  repeat' (first | refine W1 ?_ | (exfalso; omega) | refine WL_split rfl rfl (fun hg => ?_) (fun hg => ?_) | refine WL_splitB rfl rfl (fun hg => ?_) (fun hg => ?_) | refine WC_cond rfl (fun hc => ?_) (fun hc => ?_) | refine WC_condB rfl (fun hc => ?_) (fun hc => ?_))
  refine WL_indexT (i := 0) rfl rfl rfl (by omega) rfl ?_
  repeat' (first | refine W1 ?_ | (exfalso; omega) | refine WL_split rfl rfl (fun hg => ?_) (fun hg => ?_) | refine WL_splitB rfl rfl (fun hg => ?_) (fun hg => ?_) | refine WC_cond rfl (fun hc => ?_) (fun hc => ?_) | refine WC_condB rfl (fun hc => ?_) (fun hc => ?_))
  refine WL_indexT (i := 0) rfl rfl rfl (by omega) rfl ?_
  repeat' (first | refine W1 ?_ | (exfalso; omega) | refine WL_split rfl rfl (fun hg => ?_) (fun hg => ?_) | refine WL_splitB rfl rfl (fun hg => ?_) (fun hg => ?_) | refine WC_cond rfl (fun hc => ?_) (fun hc => ?_) | refine WC_condB rfl (fun hc => ?_) (fun hc => ?_))
  refine WC_loop (σ := Nat) (fun i => [(0, str s), (3, .int .i64 (i : Int))]) (fun i w' => i ≤ s.length ∧ w' = w ∧ ∀ j, j < i → lett (byte s j)) (fun i => s.length - i) 0 ⟨rfl, rfl, trivial⟩ ⟨Nat.zero_le _, rfl, fun j hj => absurd hj (Nat.not_lt_zero _)⟩ ?_
  rintro i w2 ⟨hi, rfl, hall⟩
  try dsimp only at hi hall ⊢
  by_cases hlt : ¬ s.length ≤ i
  · by_cases hle : (97 ≤ byte s i ∧ byte s i ≤ 122) ∨ (48 ≤ byte s i ∧ byte s i ≤ 57)
    · have hall' : ∀ j, j < i + 1 → lett (byte s j) := fun j hj => by
        by_cases e : j = i
        · subst e; exact hle
        · exact hall j (by omega)
      repeat' (first | refine W1 ?_ | (exfalso; omega) | refine WL_split rfl rfl (fun hg => ?_) (fun hg => ?_) | refine WL_splitB rfl rfl (fun hg => ?_) (fun hg => ?_) | refine WC_cond rfl (fun hc => ?_) (fun hc => ?_) | refine WC_condB rfl (fun hc => ?_) (fun hc => ?_))
      all_goals exact WQ_loop (i + 1) ⟨rfl, rfl, trivial⟩ ⟨by omega, rfl, hall'⟩ (by omega)
    · have hn : namedT s = false := by
        unfold namedT nameOk
        rw [decide_eq_false (fun h => hle (h.2.2.2.2 i (by omega)))]
        rfl
      repeat' (first | refine W1 ?_ | (exfalso; omega) | refine WL_split rfl rfl (fun hg => ?_) (fun hg => ?_) | refine WL_splitB rfl rfl (fun hg => ?_) (fun hg => ?_) | refine WC_cond rfl (fun hc => ?_) (fun hc => ?_) | refine WC_condB rfl (fun hc => ?_) (fun hc => ?_))
      all_goals
        first | refine WQ_ret1 rfl rfl ?_ | refine WQ_ret2 rfl rfl rfl ?_ | refine WQ_ret3 rfl rfl rfl rfl ?_ | refine WQ_ret0 rfl ?_ | refine WQ_end0 rfl ?_
        exact .mk ⟨by rw [hn], Stp.refl _ _⟩
  obtain rfl : i = s.length := by omega
  have hok : nameOk s = true := decide_eq_true ⟨by omega, h2, h3, h4, hall⟩
  repeat' (first | refine W1 ?_ | (exfalso; omega) | refine WL_split rfl rfl (fun hg => ?_) (fun hg => ?_) | refine WL_splitB rfl rfl (fun hg => ?_) (fun hg => ?_) | refine WC_cond rfl (fun hc => ?_) (fun hc => ?_) | refine WC_condB rfl (fun hc => ?_) (fun hc => ?_))
  refine WL_eff (OE_call rfl evs0 (Reserved_any [] _ (by simp))) rfl ?_
  rintro rv w3 ⟨hr, hS⟩
  refine W ?_
  refine WL_eff (OE_call rfl (evs2 rfl rfl) (place14_any [] rv _ s _ hr.slv0)) rfl ?_
  rintro _ w4 ⟨rfl, hS4⟩
  refine W ?_
  first | refine WQ_ret1 rfl rfl ?_ | refine WQ_ret2 rfl rfl rfl ?_ | refine WQ_ret3 rfl rfl rfl rfl ?_ | refine WQ_ret0 rfl ?_ | refine WQ_end0 rfl ?_
  refine .mk ⟨?_, hS.trans hS4⟩
  unfold namedT
  rw [hok, Bool.true_and]
  congr 1
  refine decide_eq_decide.2 ?_
  rw [← Int.not_le, idx_memS, List.mem_append, not_or]
/-- the error of an expression that must have a type -/
def mustF (x : Nd) (want : Int) : Int := if nestN x ≤ 12 then (if typeT x = 0 then 21 else if typeT x = want then 0 else 21) else 2
theorem must_any (v : Value) (x : Nd) (want : Int) (w : World) (hx : NdV [] w v x) (hF : SlV [] w flds fieldNames) : Calls Tryd.prog 87 #[v, .int .i64 want] w (Ret fun r w' => r = .int .i64 (mustF x want) ∧ Stp [] w w') := by
  obtain ⟨kv, rfl, hs⟩ := hx
  refine calls_of_WC2 (n := 20) Tryd.func87 rfl rfl rfl ?_
  refine W ?_
  refine WL_eff (OE_box rfl) rfl ?_
  rintro _ w1 ⟨b, rfl, hb, hblk, hS⟩
  replace hblk : Blk w1 b _ (ndC x kv) := hblk
  refine W ?_
  refine WL_eff (OE_call rfl (evs1 rfl) (Of_any [] [] _ x _ ⟨kv, rfl, hs.up hS⟩ (hF.up hS))) rfl ?_
  rintro _ w2 ⟨rfl, hS2⟩
  replace hS := hS.trans hS2
  unfold mustF
  by_cases hn : nestN x ≤ 12
  · rw [if_pos hn, if_pos hn, if_pos hn]
    by_cases ht : typeT x = 0
    · rw [if_pos ht, if_pos ht]
      repeat' (first | refine W1 ?_ | (exfalso; omega) | refine WL_split rfl rfl (fun hg => ?_) (fun hg => ?_) | refine WL_splitB rfl rfl (fun hg => ?_) (fun hg => ?_) | refine WC_cond rfl (fun hc => ?_) (fun hc => ?_) | refine WC_condB rfl (fun hc => ?_) (fun hc => ?_))
      first | refine WQ_ret1 rfl rfl ?_ | refine WQ_ret2 rfl rfl rfl ?_ | refine WQ_ret3 rfl rfl rfl rfl ?_ | refine WQ_ret0 rfl ?_ | refine WQ_end0 rfl ?_
      exact .mk ⟨rfl, hS⟩
    · rw [if_neg ht, if_neg ht]
      by_cases hw : typeT x = want
      · rw [if_pos hw]
        repeat' (first | refine W1 ?_ | (exfalso; omega) | refine WL_split rfl rfl (fun hg => ?_) (fun hg => ?_) | refine WL_splitB rfl rfl (fun hg => ?_) (fun hg => ?_) | refine WC_cond rfl (fun hc => ?_) (fun hc => ?_) | refine WC_condB rfl (fun hc => ?_) (fun hc => ?_))
        first | refine WQ_ret1 rfl rfl ?_ | refine WQ_ret2 rfl rfl rfl ?_ | refine WQ_ret3 rfl rfl rfl rfl ?_ | refine WQ_ret0 rfl ?_ | refine WQ_end0 rfl ?_
        exact .mk ⟨rfl, hS⟩
      · rw [if_neg hw]
        repeat' (first | refine W1 ?_ | (exfalso; omega) | refine WL_split rfl rfl (fun hg => ?_) (fun hg => ?_) | refine WL_splitB rfl rfl (fun hg => ?_) (fun hg => ?_) | refine WC_cond rfl (fun hc => ?_) (fun hc => ?_) | refine WC_condB rfl (fun hc => ?_) (fun hc => ?_))
        first | refine WQ_ret1 rfl rfl ?_ | refine WQ_ret2 rfl rfl rfl ?_ | refine WQ_ret3 rfl rfl rfl rfl ?_ | refine WQ_ret0 rfl ?_ | refine WQ_end0 rfl ?_
        exact .mk ⟨rfl, hS⟩
  · rw [if_neg hn, if_neg hn, if_neg hn]
    repeat' (first | refine W1 ?_ | (exfalso; omega) | refine WL_split rfl rfl (fun hg => ?_) (fun hg => ?_) | refine WL_splitB rfl rfl (fun hg => ?_) (fun hg => ?_) | refine WC_cond rfl (fun hc => ?_) (fun hc => ?_) | refine WC_condB rfl (fun hc => ?_) (fun hc => ?_))
    first | refine WQ_ret1 rfl rfl ?_ | refine WQ_ret2 rfl rfl rfl ?_ | refine WQ_ret3 rfl rfl rfl rfl ?_ | refine WQ_ret0 rfl ?_ | refine WQ_end0 rfl ?_
    exact .mk ⟨rfl, hS⟩
end Go.Proofs.YtfjmlobgjdmecaaDoor
namespace Go.Proofs.YtfjmlobgjdmecaaDoor
open Go Go.Eng Go.RowKit
set_option linter.unusedVariables false

/-! ### rules -/
structure Rul where
  name : Str
  frm : Int
  on : Str
  cnd : Nd
  due : Nd
  unl : Str
  els : Str
abbrev rlC (r : Rul) (ki kd : Value) : List Value := [str r.name, .int .i64 r.frm, str r.on, .int .i64 r.cnd.kind, .int .i64 r.cnd.num, str r.cnd.word, ki, .int .i64 r.due.kind, .int .i64 r.due.num, str r.due.word, kd, str r.unl, str r.els]
/-- the value of a rule -/
def RulV (X : List Nat) (w : World) (v : Value) (r : Rul) : Prop := ∃ ki kd, v = .agg (rlC r ki kd).toArray ∧ SlV X w ki r.cnd.kids ∧ SlV X w kd r.due.kids
theorem RulV.up {X : List Nat} {w w' : World} {v : Value} {r : Rul} (h : RulV X w v r) (hS : Stp [] w w') : RulV X w' v r := by
  obtain ⟨ki, kd, rfl, h1, h2⟩ := h
  exact ⟨ki, kd, rfl, h1.up hS, h2.up hS⟩
/-- the names are good -/
def namesT (r : Rul) : Bool := namedT r.name && namedT r.on && (decide (r.unl = []) || namedT r.unl) && (decide (r.els = []) || namedT r.els)
/-- the error of a rule -/
def checkT (r : Rul) : Int := if namesT r = false then 7 else if r.frm < 0 ∨ r.frm > 3652058 then 5 else if mustF r.cnd 2 ≠ 0 then mustF r.cnd 2 else mustF r.due 3
theorem Check14_any (v : Value) (r : Rul) (m : Int) (w : World) (hv : RulV [] w v r) (hF : SlV [] w flds fieldNames) (hm : w.cell? ⟨1, 0, none⟩ = some (.int .i64 m)) :
    Calls Tryd.prog 44 #[v] w (Ret fun r' w' => r' = .int .i64 (checkT r) ∧ Stp [] w w') := by
  obtain ⟨ki, kd, rfl, hi, hd⟩ := hv
  refine calls_of_WC1 (n := 55) Tryd.func44 rfl rfl rfl ?_
  refine W ?_
  refine WL_eff (OE_box rfl) rfl ?_
  rintro _ w1 ⟨b, rfl, hb, hblk, hS⟩
  replace hblk : Blk w1 b _ (rlC r ki kd) := hblk
  refine W ?_
  refine WL_eff (OE_call rfl (evs1 rfl) (named_any r.name m _ (hF.up hS) (hS.cell (by simp) hm))) rfl ?_
  rintro _ w2 ⟨rfl, hT⟩
  replace hblk := hblk.up hT
  replace hS := hS.trans hT
  clear hT
  refine WL_cutQ (σ := Bool) (fun q => [(1, .pointer (some ⟨b, 0, none⟩)), (2, .int .i64 0), (4, .bool q)]) (fun q w' => Blk w' b 50 (rlC r ki kd) ∧ Stp [] w w' ∧ q = !namesT r) ?_ ?_
  · cases hA : namedT r.name with
    | false =>
      refine W ?_
      exact WQ_cut true ⟨rfl, rfl, rfl, trivial⟩ ⟨hblk, hS, by simp [namesT, *]⟩
    | true =>
      refine W ?_
      refine WL_eff (OE_call rfl (evs1 rfl) (named_any r.on m _ (hF.up hS) (hS.cell (by simp) hm))) rfl ?_
      rintro _ w2 ⟨rfl, hT⟩
      replace hblk := hblk.up hT
      replace hS := hS.trans hT
      clear hT
      cases hB : namedT r.on with
      | false =>
        refine W ?_
        exact WQ_cut true ⟨rfl, rfl, rfl, trivial⟩ ⟨hblk, hS, by simp [namesT, *]⟩
      | true =>
        repeat' (first | refine W1 ?_ | (exfalso; omega) | refine WL_split rfl rfl (fun hg => ?_) (fun hg => ?_) | refine WL_splitB rfl rfl (fun hg => ?_) (fun hg => ?_) | refine WC_cond rfl (fun hc => ?_) (fun hc => ?_) | refine WC_condB rfl (fun hc => ?_) (fun hc => ?_))
        · refine WL_eff (OE_call rfl (evs1 rfl) (named_any r.unl m _ (hF.up hS) (hS.cell (by simp) hm))) rfl ?_
          rintro _ w2 ⟨rfl, hT⟩
          replace hblk := hblk.up hT
          replace hS := hS.trans hT
          clear hT
          cases hC : namedT r.unl with
          | false =>
            refine W ?_
            exact WQ_cut true ⟨rfl, rfl, rfl, trivial⟩ ⟨hblk, hS, by simp [namesT, *]⟩
          | true =>
            repeat' (first | refine W1 ?_ | (exfalso; omega) | refine WL_split rfl rfl (fun hg => ?_) (fun hg => ?_) | refine WL_splitB rfl rfl (fun hg => ?_) (fun hg => ?_) | refine WC_cond rfl (fun hc => ?_) (fun hc => ?_) | refine WC_condB rfl (fun hc => ?_) (fun hc => ?_))
            · refine WL_eff (OE_call rfl (evs1 rfl) (named_any r.els m _ (hF.up hS) (hS.cell (by simp) hm))) rfl ?_
              rintro _ w2 ⟨rfl, hT⟩
              replace hblk := hblk.up hT
              replace hS := hS.trans hT
              clear hT
              cases hD : namedT r.els with
              | false =>
                refine W ?_
                exact WQ_cut true ⟨rfl, rfl, rfl, trivial⟩ ⟨hblk, hS, by simp [namesT, *]⟩
              | true =>
                refine W ?_
                exact WQ_cut false ⟨rfl, rfl, rfl, trivial⟩ ⟨hblk, hS, by simp [namesT, *]⟩
            · exact WQ_cut false ⟨rfl, rfl, rfl, trivial⟩ ⟨hblk, hS, by simp [namesT, *]⟩
        · refine WL_eff (OE_call rfl (evs1 rfl) (named_any r.els m _ (hF.up hS) (hS.cell (by simp) hm))) rfl ?_
          rintro _ w2 ⟨rfl, hT⟩
          replace hblk := hblk.up hT
          replace hS := hS.trans hT
          clear hT
          cases hD : namedT r.els with
          | false =>
            refine W ?_
            exact WQ_cut true ⟨rfl, rfl, rfl, trivial⟩ ⟨hblk, hS, by simp [namesT, *]⟩
          | true =>
            refine W ?_
            exact WQ_cut false ⟨rfl, rfl, rfl, trivial⟩ ⟨hblk, hS, by simp [namesT, *]⟩
        · exact WQ_cut false ⟨rfl, rfl, rfl, trivial⟩ ⟨hblk, hS, by simp [namesT, *]⟩
  rintro q w3 ⟨hblk, hS, hq⟩
  try dsimp only at hq ⊢
  unfold checkT
  cases hnm : namesT r with
  | false =>
    rw [hnm] at hq
    subst hq
    refine W ?_
    first | refine WQ_ret1 rfl rfl ?_ | refine WQ_ret2 rfl rfl rfl ?_ | refine WQ_ret3 rfl rfl rfl rfl ?_ | refine WQ_ret0 rfl ?_ | refine WQ_end0 rfl ?_
    exact .mk ⟨rfl, hS⟩
  | true =>
    rw [hnm] at hq
    subst hq
    refine W ?_
    by_cases hr : r.frm < 0 ∨ r.frm > 3652058
    · repeat' (first | refine W1 ?_ | (exfalso; omega) | refine WL_split rfl rfl (fun hg => ?_) (fun hg => ?_) | refine WL_splitB rfl rfl (fun hg => ?_) (fun hg => ?_) | refine WC_cond rfl (fun hc => ?_) (fun hc => ?_) | refine WC_condB rfl (fun hc => ?_) (fun hc => ?_))
      all_goals
        first | refine WQ_ret1 rfl rfl ?_ | refine WQ_ret2 rfl rfl rfl ?_ | refine WQ_ret3 rfl rfl rfl rfl ?_ | refine WQ_ret0 rfl ?_ | refine WQ_end0 rfl ?_
        exact .mk ⟨by rw [if_neg (by decide), if_pos hr], hS⟩
    repeat' (first | refine W1 ?_ | (exfalso; omega) | refine WL_split rfl rfl (fun hg => ?_) (fun hg => ?_) | refine WL_splitB rfl rfl (fun hg => ?_) (fun hg => ?_) | refine WC_cond rfl (fun hc => ?_) (fun hc => ?_) | refine WC_condB rfl (fun hc => ?_) (fun hc => ?_))
    apply WL_pure (PR_loadN_blk (us := ndC r.cnd ki) rfl rfl hblk rfl rfl) rfl
    refine W ?_
    refine WL_eff (OE_call rfl (evs2 rfl rfl) (must_any _ r.cnd 2 _ ⟨ki, rfl, hi.up hS⟩ (hF.up hS))) rfl ?_
    rintro _ w4 ⟨rfl, hT⟩
    replace hblk := hblk.up hT
    replace hS := hS.trans hT
    clear hT
    by_cases h2 : mustF r.cnd 2 = 0
    · repeat' (first | refine W1 ?_ | (exfalso; omega) | refine WL_split rfl rfl (fun hg => ?_) (fun hg => ?_) | refine WL_splitB rfl rfl (fun hg => ?_) (fun hg => ?_) | refine WC_cond rfl (fun hc => ?_) (fun hc => ?_) | refine WC_condB rfl (fun hc => ?_) (fun hc => ?_))
      apply WL_pure (PR_loadN_blk (us := ndC r.due kd) rfl rfl hblk rfl rfl) rfl
      refine W ?_
      refine WL_eff (OE_call rfl (evs2 rfl rfl) (must_any _ r.due 3 _ ⟨kd, rfl, hd.up hS⟩ (hF.up hS))) rfl ?_
      rintro _ w5 ⟨rfl, hT⟩
      refine W ?_
      first | refine WQ_ret1 rfl rfl ?_ | refine WQ_ret2 rfl rfl rfl ?_ | refine WQ_ret3 rfl rfl rfl rfl ?_ | refine WQ_ret0 rfl ?_ | refine WQ_end0 rfl ?_
      exact .mk ⟨by rw [if_neg (by decide), if_neg hr, if_neg (by simpa using h2)], hS.trans hT⟩
    · repeat' (first | refine W1 ?_ | (exfalso; omega) | refine WL_split rfl rfl (fun hg => ?_) (fun hg => ?_) | refine WL_splitB rfl rfl (fun hg => ?_) (fun hg => ?_) | refine WC_cond rfl (fun hc => ?_) (fun hc => ?_) | refine WC_condB rfl (fun hc => ?_) (fun hc => ?_))
      first | refine WQ_ret1 rfl rfl ?_ | refine WQ_ret2 rfl rfl rfl ?_ | refine WQ_ret3 rfl rfl rfl rfl ?_ | refine WQ_ret0 rfl ?_ | refine WQ_end0 rfl ?_
      exact .mk ⟨by rw [if_neg (by decide), if_neg hr, if_pos h2], hS⟩
end Go.Proofs.YtfjmlobgjdmecaaDoor
namespace Go.Proofs.YtfjmlobgjdmecaaDoor
open Go Go.Eng Go.RowKit
set_option linter.unusedVariables false

theorem CheckR_any (v : Value) (r : Rul) (w : World) (hv : RulV [] w v r) (h1 : sizeN r.cnd ≤ 1000) (h2 : sizeN r.due ≤ 1000) :
    Calls Tryd.prog 46 #[v] w (Ret fun r' w' => r' = .int .i64 (checkT r) ∧ Stp [] w w') := by
  obtain ⟨ki, kd, rfl, hi, hd⟩ := hv
  have hn1 := nest_le_size r.cnd
  have hn2 := nest_le_size r.due
  refine calls_of_WC1 (n := 69) Tryd.func46 rfl rfl rfl ?_
  refine W ?_
  refine WL_eff (OE_box rfl) rfl ?_
  rintro _ w1 ⟨b, rfl, hb, hblk, hS⟩
  replace hblk : Blk w1 b _ (rlC r ki kd) := hblk
  refine W ?_
  refine WL_eff (OE_call rfl (evs1 rfl) (Named14_any r.name _)) rfl ?_
  rintro _ w2 ⟨rfl, hT⟩
  replace hblk := hblk.up hT
  replace hS := hS.trans hT
  clear hT
  refine WL_cutQ (σ := Bool) (fun q => [(1, .pointer (some ⟨b, 0, none⟩)), (2, .int .i64 0), (38, .bool q)]) (fun q w' => Blk w' b 50 (rlC r ki kd) ∧ Stp [] w w' ∧ q = !namesT r) ?_ ?_
  · cases hA : namedT r.name with
    | false =>
      refine W ?_
      exact WQ_cut true ⟨rfl, rfl, rfl, trivial⟩ ⟨hblk, hS, by simp [namesT, *]⟩
    | true =>
      refine W ?_
      refine WL_eff (OE_call rfl (evs1 rfl) (Named14_any r.on _)) rfl ?_
      rintro _ w2 ⟨rfl, hT⟩
      replace hblk := hblk.up hT
      replace hS := hS.trans hT
      clear hT
      cases hB : namedT r.on with
      | false =>
        refine W ?_
        exact WQ_cut true ⟨rfl, rfl, rfl, trivial⟩ ⟨hblk, hS, by simp [namesT, *]⟩
      | true =>
        repeat' (first | refine W1 ?_ | (exfalso; omega) | refine WL_split rfl rfl (fun hg => ?_) (fun hg => ?_) | refine WL_splitB rfl rfl (fun hg => ?_) (fun hg => ?_) | refine WC_cond rfl (fun hc => ?_) (fun hc => ?_) | refine WC_condB rfl (fun hc => ?_) (fun hc => ?_))
        · refine WL_eff (OE_call rfl (evs1 rfl) (Named14_any r.unl _)) rfl ?_
          rintro _ w2 ⟨rfl, hT⟩
          replace hblk := hblk.up hT
          replace hS := hS.trans hT
          clear hT
          cases hC : namedT r.unl with
          | false =>
            refine W ?_
            exact WQ_cut true ⟨rfl, rfl, rfl, trivial⟩ ⟨hblk, hS, by simp [namesT, *]⟩
          | true =>
            repeat' (first | refine W1 ?_ | (exfalso; omega) | refine WL_split rfl rfl (fun hg => ?_) (fun hg => ?_) | refine WL_splitB rfl rfl (fun hg => ?_) (fun hg => ?_) | refine WC_cond rfl (fun hc => ?_) (fun hc => ?_) | refine WC_condB rfl (fun hc => ?_) (fun hc => ?_))
            · refine WL_eff (OE_call rfl (evs1 rfl) (Named14_any r.els _)) rfl ?_
              rintro _ w2 ⟨rfl, hT⟩
              replace hblk := hblk.up hT
              replace hS := hS.trans hT
              clear hT
              cases hD : namedT r.els with
              | false =>
                refine W ?_
                exact WQ_cut true ⟨rfl, rfl, rfl, trivial⟩ ⟨hblk, hS, by simp [namesT, *]⟩
              | true =>
                refine W ?_
                exact WQ_cut false ⟨rfl, rfl, rfl, trivial⟩ ⟨hblk, hS, by simp [namesT, *]⟩
            · exact WQ_cut false ⟨rfl, rfl, rfl, trivial⟩ ⟨hblk, hS, by simp [namesT, *]⟩
        · refine WL_eff (OE_call rfl (evs1 rfl) (Named14_any r.els _)) rfl ?_
          rintro _ w2 ⟨rfl, hT⟩
          replace hblk := hblk.up hT
          replace hS := hS.trans hT
          clear hT
          cases hD : namedT r.els with
          | false =>
            refine W ?_
            exact WQ_cut true ⟨rfl, rfl, rfl, trivial⟩ ⟨hblk, hS, by simp [namesT, *]⟩
          | true =>
            refine W ?_
            exact WQ_cut false ⟨rfl, rfl, rfl, trivial⟩ ⟨hblk, hS, by simp [namesT, *]⟩
        · exact WQ_cut false ⟨rfl, rfl, rfl, trivial⟩ ⟨hblk, hS, by simp [namesT, *]⟩
  rintro q w3 ⟨hblk, hS, hq⟩
  try dsimp only at hq ⊢
  unfold checkT
  cases hnm : namesT r with
  | false =>
    rw [hnm] at hq
    subst hq
    refine W ?_
    first | refine WQ_ret1 rfl rfl ?_ | refine WQ_ret2 rfl rfl rfl ?_ | refine WQ_ret3 rfl rfl rfl rfl ?_ | refine WQ_ret0 rfl ?_ | refine WQ_end0 rfl ?_
    exact .mk ⟨rfl, hS⟩
  | true =>
    rw [hnm] at hq
    subst hq
    rw [if_neg (by decide)]
    refine W ?_
    by_cases hr : r.frm < 0 ∨ r.frm > 3652058
    · rw [if_pos hr]
      repeat' (first | refine W1 ?_ | (exfalso; omega) | refine WL_split rfl rfl (fun hg => ?_) (fun hg => ?_) | refine WL_splitB rfl rfl (fun hg => ?_) (fun hg => ?_) | refine WC_cond rfl (fun hc => ?_) (fun hc => ?_) | refine WC_condB rfl (fun hc => ?_) (fun hc => ?_))
      all_goals
        first | refine WQ_ret1 rfl rfl ?_ | refine WQ_ret2 rfl rfl rfl ?_ | refine WQ_ret3 rfl rfl rfl rfl ?_ | refine WQ_ret0 rfl ?_ | refine WQ_end0 rfl ?_
        exact .mk ⟨rfl, hS⟩
    rw [if_neg hr]
    repeat' (first | refine W1 ?_ | (exfalso; omega) | refine WL_split rfl rfl (fun hg => ?_) (fun hg => ?_) | refine WL_splitB rfl rfl (fun hg => ?_) (fun hg => ?_) | refine WC_cond rfl (fun hc => ?_) (fun hc => ?_) | refine WC_condB rfl (fun hc => ?_) (fun hc => ?_))
    apply WL_pure (PR_loadN_blk (us := ndC r.cnd ki) rfl rfl hblk rfl rfl) rfl
    refine W ?_
    refine WL_eff (OE_call rfl (evs1 rfl) (Of14_any [] _ r.cnd _ (okN_of_size _ h1) (by omega) ⟨ki, rfl, hi.up hS⟩)) rfl ?_
    rintro _ w4 ⟨rfl, hT⟩
    replace hblk := hblk.up hT
    replace hS := hS.trans hT
    clear hT
    unfold mustF
    by_cases n1 : nestN r.cnd ≤ 12
    case neg =>
      simp only [if_neg n1]
      repeat' (first | refine W1 ?_ | (exfalso; omega) | refine WL_split rfl rfl (fun hg => ?_) (fun hg => ?_) | refine WL_splitB rfl rfl (fun hg => ?_) (fun hg => ?_) | refine WC_cond rfl (fun hc => ?_) (fun hc => ?_) | refine WC_condB rfl (fun hc => ?_) (fun hc => ?_))
      first | refine WQ_ret1 rfl rfl ?_ | refine WQ_ret2 rfl rfl rfl ?_ | refine WQ_ret3 rfl rfl rfl rfl ?_ | refine WQ_ret0 rfl ?_ | refine WQ_end0 rfl ?_
      exact .mk ⟨rfl, hS⟩
    simp only [if_pos n1]
    by_cases t1 : typeT r.cnd = 0
    · simp only [if_pos t1]
      repeat' (first | refine W1 ?_ | (exfalso; omega) | refine WL_split rfl rfl (fun hg => ?_) (fun hg => ?_) | refine WL_splitB rfl rfl (fun hg => ?_) (fun hg => ?_) | refine WC_cond rfl (fun hc => ?_) (fun hc => ?_) | refine WC_condB rfl (fun hc => ?_) (fun hc => ?_))
      first | refine WQ_ret1 rfl rfl ?_ | refine WQ_ret2 rfl rfl rfl ?_ | refine WQ_ret3 rfl rfl rfl rfl ?_ | refine WQ_ret0 rfl ?_ | refine WQ_end0 rfl ?_
      exact .mk ⟨rfl, hS⟩
    simp only [if_neg t1]
    by_cases u1 : typeT r.cnd = 2
    case neg =>
      simp only [if_neg u1]
      repeat' (first | refine W1 ?_ | (exfalso; omega) | refine WL_split rfl rfl (fun hg => ?_) (fun hg => ?_) | refine WL_splitB rfl rfl (fun hg => ?_) (fun hg => ?_) | refine WC_cond rfl (fun hc => ?_) (fun hc => ?_) | refine WC_condB rfl (fun hc => ?_) (fun hc => ?_))
      first | refine WQ_ret1 rfl rfl ?_ | refine WQ_ret2 rfl rfl rfl ?_ | refine WQ_ret3 rfl rfl rfl rfl ?_ | refine WQ_ret0 rfl ?_ | refine WQ_end0 rfl ?_
      exact .mk ⟨rfl, hS⟩
    simp only [if_pos u1]
    repeat' (first | refine W1 ?_ | (exfalso; omega) | refine WL_split rfl rfl (fun hg => ?_) (fun hg => ?_) | refine WL_splitB rfl rfl (fun hg => ?_) (fun hg => ?_) | refine WC_cond rfl (fun hc => ?_) (fun hc => ?_) | refine WC_condB rfl (fun hc => ?_) (fun hc => ?_))
    apply WL_pure (PR_loadN_blk (us := ndC r.due kd) rfl rfl hblk rfl rfl) rfl
    refine W ?_
    refine WL_eff (OE_call rfl (evs1 rfl) (Of14_any [] _ r.due _ (okN_of_size _ h2) (by omega) ⟨kd, rfl, hd.up hS⟩)) rfl ?_
    rintro _ w5 ⟨rfl, hT⟩
    replace hS := hS.trans hT
    clear hT
    by_cases n2 : nestN r.due ≤ 12
    case neg =>
      simp only [if_neg n2]
      repeat' (first | refine W1 ?_ | (exfalso; omega) | refine WL_split rfl rfl (fun hg => ?_) (fun hg => ?_) | refine WL_splitB rfl rfl (fun hg => ?_) (fun hg => ?_) | refine WC_cond rfl (fun hc => ?_) (fun hc => ?_) | refine WC_condB rfl (fun hc => ?_) (fun hc => ?_))
      first | refine WQ_ret1 rfl rfl ?_ | refine WQ_ret2 rfl rfl rfl ?_ | refine WQ_ret3 rfl rfl rfl rfl ?_ | refine WQ_ret0 rfl ?_ | refine WQ_end0 rfl ?_
      exact .mk ⟨rfl, hS⟩
    simp only [if_pos n2]
    by_cases t2 : typeT r.due = 0
    · simp only [if_pos t2]
      repeat' (first | refine W1 ?_ | (exfalso; omega) | refine WL_split rfl rfl (fun hg => ?_) (fun hg => ?_) | refine WL_splitB rfl rfl (fun hg => ?_) (fun hg => ?_) | refine WC_cond rfl (fun hc => ?_) (fun hc => ?_) | refine WC_condB rfl (fun hc => ?_) (fun hc => ?_))
      first | refine WQ_ret1 rfl rfl ?_ | refine WQ_ret2 rfl rfl rfl ?_ | refine WQ_ret3 rfl rfl rfl rfl ?_ | refine WQ_ret0 rfl ?_ | refine WQ_end0 rfl ?_
      exact .mk ⟨rfl, hS⟩
    simp only [if_neg t2]
    by_cases u2 : typeT r.due = 3
    case neg =>
      simp only [if_neg u2]
      repeat' (first | refine W1 ?_ | (exfalso; omega) | refine WL_split rfl rfl (fun hg => ?_) (fun hg => ?_) | refine WL_splitB rfl rfl (fun hg => ?_) (fun hg => ?_) | refine WC_cond rfl (fun hc => ?_) (fun hc => ?_) | refine WC_condB rfl (fun hc => ?_) (fun hc => ?_))
      first | refine WQ_ret1 rfl rfl ?_ | refine WQ_ret2 rfl rfl rfl ?_ | refine WQ_ret3 rfl rfl rfl rfl ?_ | refine WQ_ret0 rfl ?_ | refine WQ_end0 rfl ?_
      exact .mk ⟨rfl, hS⟩
    simp only [if_pos u2]
    repeat' (first | refine W1 ?_ | (exfalso; omega) | refine WL_split rfl rfl (fun hg => ?_) (fun hg => ?_) | refine WL_splitB rfl rfl (fun hg => ?_) (fun hg => ?_) | refine WC_cond rfl (fun hc => ?_) (fun hc => ?_) | refine WC_condB rfl (fun hc => ?_) (fun hc => ?_))
    first | refine WQ_ret1 rfl rfl ?_ | refine WQ_ret2 rfl rfl rfl ?_ | refine WQ_ret3 rfl rfl rfl rfl ?_ | refine WQ_ret0 rfl ?_ | refine WQ_end0 rfl ?_
    exact .mk ⟨rfl, hS⟩
end Go.Proofs.YtfjmlobgjdmecaaDoor
namespace Go.Proofs.YtfjmlobgjdmecaaDoor
open Go Go.Eng Go.RowKit
set_option linter.unusedVariables false

def names4 : List Str := [[97], [98], [99, 49, 48], [97, 110, 115, 119, 101, 114]]
def kinds7 : List Str := [[109, 111, 116, 105, 111, 110], [97, 110, 115, 119, 101, 114], [111, 114, 100, 101, 114], [110, 111, 116, 105, 99, 101], [97, 112, 112, 101, 97, 108], [100, 101, 102, 97, 117, 108, 116, 50], [114, 101, 112, 108, 121]]
theorem Kinds_any (X : List Nat) (w : World) (hX : ∀ b ∈ X, b < w.heap.size) : Calls Tryd.prog 66 #[] w (Ret fun r w' => Row X w' w.heap.size 9 r kinds7 ∧ Stp [] w w') := by
  refine calls_of_WC0 (n := 2) Tryd.func66 rfl rfl ?_
  refine W ?_
  refine WL_eff (OE_call rfl (evs1 rfl) (words_any X [109, 111, 116, 105, 111, 110, 32, 97, 110, 115, 119, 101, 114, 32, 111, 114, 100, 101, 114, 32, 110, 111, 116, 105, 99, 101, 32, 97, 112, 112, 101, 97, 108, 32, 100, 101, 102, 97, 117, 108, 116, 50, 32, 114, 101, 112, 108, 121] _ hX (by decide))) rfl ?_
  rintro v w1 ⟨hr, hS⟩
  rw [show wordsOf [109, 111, 116, 105, 111, 110, 32, 97, 110, 115, 119, 101, 114, 32, 111, 114, 100, 101, 114, 32, 110, 111, 116, 105, 99, 101, 32, 97, 112, 112, 101, 97, 108, 32, 100, 101, 102, 97, 117, 108, 116, 50, 32, 114, 101, 112, 108, 121] = kinds7 by decide +kernel] at hr
  refine W ?_
  first | refine WQ_ret1 rfl rfl ?_ | refine WQ_ret2 rfl rfl rfl ?_ | refine WQ_ret3 rfl rfl rfl rfl ?_ | refine WQ_ret0 rfl ?_ | refine WQ_end0 rfl ?_
  exact .mk ⟨hr, hS⟩
abbrev nil4 : Nd := .mk 0 0 [] []
abbrev nilS : Value := .slice none 0 0
theorem buildRl (a o : Str) (f : Int) (w : World) : (Instr.build 50 #[(0, str a), (1, .int .i64 f), (2, str o)]).run Tryd.prog w = .ok (.agg (rlC ⟨a, f, o, nil4, nil4, [], []⟩ nilS nilS).toArray) w := by kernel_rfl
theorem rlC_one (r : Rul) {X Y : List Nat} {w w' : World} {ki kd : Value} (h1 : SlV X w ki r.cnd.kids) (h2 : SlV Y w' kd r.due.kids) : ∀ c ∈ rlC r ki kd, c.oneCell' = true := by
  intro c hc
  have e1 := h1.one
  have e2 := h2.one
  simp only [rlC, List.mem_cons, List.not_mem_nil, or_false] at hc
  rcases hc with rfl | rfl | rfl | rfl | rfl | rfl | rfl | rfl | rfl | rfl | rfl | rfl | rfl <;> first | rfl | exact e1 | exact e2
theorem names_ok : ∀ s ∈ names4, namedT s = true := by decide +kernel
theorem kinds_ok : ∀ s ∈ kinds7, namedT s = true := by decide +kernel
theorem getD_mem {l : List Str} {q : Nat} (h : q < l.length) : l.getD q [] ∈ l := by
  have : l.getD q [] = l[q] := by simp [List.getD, h]
  rw [this]; exact List.getElem_mem h
theorem check_ok {a o u v : Str} {f : Int} {y x : Nd} (ha : a ∈ names4) (ho : o ∈ kinds7) (hu : u = [] ∨ u ∈ kinds7) (hv : v = [] ∨ v ∈ kinds7) (hf : 0 ≤ f ∧ f < 30) (hy : typeT y = 2) (hy' : nestN y ≤ 3) (hx : typeT x = 3) (hx' : nestN x ≤ 4) :
    checkT ⟨a, 739600 + f, o, y, x, u, v⟩ = 0 := by
  have hn : namesT ⟨a, 739600 + f, o, y, x, u, v⟩ = true := by
    simp only [namesT, names_ok a ha, kinds_ok o ho, Bool.true_and, Bool.and_eq_true, Bool.or_eq_true, decide_eq_true_eq]
    exact ⟨hu.imp id (kinds_ok u), hv.imp id (kinds_ok v)⟩
  have m1 : mustF y 2 = 0 := by unfold mustF; rw [if_pos (by omega), hy]; decide
  have m2 : mustF x 3 = 0 := by unfold mustF; rw [if_pos (by omega), hx]; decide
  unfold checkT
  rw [hn, if_neg (by decide), if_neg (by simp only; omega)]
  simp [m1, m2]
theorem Rule14_any (X : List Nat) (lv : Value) (l : List Int) (w : World) (hs : SlV [] w lv l) (hl : ∀ a ∈ l, I64 a) (hX : ∀ b ∈ X, b < w.heap.size) :
    Calls Tryd.prog 25 #[lv] w (Ret fun r w' => ∃ rl : Rul, RulV X w' r rl ∧ sizeN rl.cnd ≤ 400 ∧ sizeN rl.due ≤ 400 ∧ checkT rl = 0 ∧ Stp [] w w') := by
  obtain ⟨p, c, rfl, -⟩ := id hs
  refine calls_of_WC1 (n := 49) Tryd.func25 rfl rfl rfl ?_
  refine W ?_
  refine WL_eff OE_alloc rfl ?_
  rintro _ w1 ⟨b2, rfl, hb2, e2, hS⟩
  refine W ?_
  apply WL_build (vs := [(0, .slice p l.length c)]) rfl (buildMk _ _ _) rfl
  refine WL_eff (OE_box rfl) rfl ?_
  rintro _ w2 ⟨bm, rfl, hbm, hmk, hT⟩
  replace hmk : Mk w2 bm (.slice p l.length c) 0 := hmk
  have n2 : b2 ≠ bm := by have := e2.lt; omega
  have hbmw : w.heap.size ≤ bm := Nat.le_trans hS.size hbm
  replace e2 := e2.up hT
  have hsl := (hs.up hS).ext (X' := [bm]) hT (by simp) (fun b h => .inr (by simp at h; omega))
  replace hS := hS.trans hT
  clear hT hbm
  refine W ?_
  refine WL_eff (OE_call rfl evs0 (Kinds_any [bm] _ (fun b h => by simp at h; rw [h]; exact hmk.lt))) rfl ?_
  rintro kv wP ⟨hrk, hT⟩
  have hkv := hrk.slv (X := [bm]) (fun b h => by simp at h; rw [h]; exact hmk.lt)
  replace hmk := hmk.up hT
  replace e2 := e2.up hT
  replace hsl := hsl.up hT
  replace hS := hS.trans hT
  clear hT hrk
  refine W ?_
  refine WC_cutQ (σ := Nat × Str × Int × Str) (fun q => [(2, .pointer (some ⟨b2, 0, none⟩)), (3, .pointer (some ⟨bm, 0, none⟩)), (4, kv), (5, .pointer (some ⟨q.1, 0, none⟩))])
    (fun q w' => Mk w' bm (.slice p l.length c) 3 ∧ SlV [q.1, bm] w' (.slice p l.length c) l ∧ SlV [q.1, bm] w' kv kinds7 ∧ (∃ cs : List Value, cs.length = 13 ∧ Blk w' b2 50 cs) ∧ Blk w' q.1 50 (rlC ⟨q.2.1, 739600 + q.2.2.1, q.2.2.2, nil4, nil4, [], []⟩ nilS nilS) ∧ q.2.1 ∈ names4 ∧ (0 ≤ q.2.2.1 ∧ q.2.2.1 < 30) ∧ q.2.2.2 ∈ kinds7 ∧ q.1 ≠ bm ∧ q.1 ≠ b2 ∧ wP.heap.size ≤ q.1 ∧ Stp [bm] wP w') ?_ ?_
  · refine WC_drawn 16 ([bm]) [15] [(1, 0), (5, 0), (8, 0), (9, 0), (0, 17), (2, 17), (3, 0), (4, 1), (6, 17), (7, 0), (10, 17), (11, 0), (12, 1), (13, 0), (14, 2), (15, 2)] rfl mixed (by kernel_rfl) (by kernel_rfl) (by kernel_rfl) (fun w1 hS1 => ?_)
    have hP : Stp [bm] wP w1 := hS1.mono (by simp)
    replace hmk := hmk.up hS1
    replace hsl := hsl.up hS1
    replace hkv := hkv.up hS1
    replace e2 := e2.up hS1
    clear hS1
    refine D ?_
    apply WD_two
    · rfl
    · refine WD1_eff rfl trivial (OE_call rfl (evs1 rfl) (words_any [bm] [97, 32, 98, 32, 99, 49, 48, 32, 97, 110, 115, 119, 101, 114] _ (fun b h => by simp at h; rw [h]; exact hmk.lt) (by decide))) (fun _ _ h => h.2.mono (by simp)) rfl ?_
      rintro wv wq ⟨hrw, hT⟩
      rw [show wordsOf [97, 32, 98, 32, 99, 49, 48, 32, 97, 110, 115, 119, 101, 114] = names4 by decide +kernel] at hrw
      have hw := hrw.slv (X := [bm]) (fun b h => by simp at h; rw [h]; exact hmk.lt)
      replace hmk := hmk.up hT
      replace hsl := hsl.ext hT (by simp) (fun _ h => .inl h)
      replace hkv := hkv.ext hT (by simp) (fun _ h => .inl h)
      replace hP := hP.trans (hT.mono (by simp))
      replace e2 := e2.ext hT (by simp; try exact n2)
      clear hT hrw
      refine D ?_
      apply WD_two
      · rfl
      · refine WD1_eff rfl trivial (OE_call rfl (evs2 rfl rfl) (Next_any bm (.slice p l.length c) l 0 4 _ (by decide) (by decide) hmk (hsl.wk (fun b h => by simp at h; simp [h])) hl)) (fun _ _ h => h.choose_spec.2.2.2.mono (by simp)) rfl ?_
        rintro _ wq ⟨q1, rfl, hq1, hmk, hT⟩
        replace hsl := hsl.ext hT (by simp) (fun _ h => .inl h)
        replace hkv := hkv.ext hT (by simp) (fun _ h => .inl h)
        replace hP := hP.trans (hT.mono (by simp))
        replace e2 := e2.ext hT (by simp; try exact n2)
        replace hw := hw.ext hT (by simp) (fun _ h => .inl h)
        clear hT
        have hq1n : q1 < names4.length := by show q1 < 4; omega
        refine D ?_
        apply WD_two
        · rfl
        · refine WD1_eff rfl trivial (OE_call rfl (evs2 rfl rfl) (Next_any bm (.slice p l.length c) l 1 30 _ (by decide) (by decide) hmk (hsl.wk (fun b h => by simp at h; simp [h])) hl)) (fun _ _ h => h.choose_spec.2.2.2.mono (by simp)) rfl ?_
          rintro _ wq ⟨q2, rfl, hq2, hmk, hT⟩
          replace hsl := hsl.ext hT (by simp) (fun _ h => .inl h)
          replace hkv := hkv.ext hT (by simp) (fun _ h => .inl h)
          replace hP := hP.trans (hT.mono (by simp))
          replace e2 := e2.ext hT (by simp; try exact n2)
          replace hw := hw.ext hT (by simp) (fun _ h => .inl h)
          clear hT
          refine D ?_
          apply WD_two
          · rfl
          · refine WD1_eff rfl trivial (OE_call rfl (evs2 rfl rfl) (Next_any bm (.slice p l.length c) l 2 7 _ (by decide) (by decide) hmk (hsl.wk (fun b h => by simp at h; simp [h])) hl)) (fun _ _ h => h.choose_spec.2.2.2.mono (by simp)) rfl ?_
            rintro _ wq ⟨q3, rfl, hq3, hmk, hT⟩
            replace hsl := hsl.ext hT (by simp) (fun _ h => .inl h)
            replace hkv := hkv.ext hT (by simp) (fun _ h => .inl h)
            replace hP := hP.trans (hT.mono (by simp))
            replace e2 := e2.ext hT (by simp; try exact n2)
            replace hw := hw.ext hT (by simp) (fun _ h => .inl h)
            clear hT
            have hq3n : q3 < kinds7.length := by show q3 < 7; omega
            refine D ?_
            try (refine WF_build rfl trivial (vs := [(0, str names4[q1]), (1, .int .i64 (739600 + (q2 : Int))), (2, str kinds7[q3])]) rfl (buildRl _ _ _) rfl ?_)
            refine D ?_
            refine WD_eff rfl trivial OE_alloc (fun _ _ h => h.choose_spec.2.2.2.mono (by simp)) rfl ?_
            rintro _ wq ⟨b5, rfl, hb5, e5, hT⟩
            have n5 : b5 ≠ bm := by have := hmk.lt; omega
            have n52 : b5 ≠ b2 := by have := e2.lt; omega
            have hb5w : wP.heap.size ≤ b5 := Nat.le_trans hP.size hb5
            replace hmk := hmk.up hT
            replace hsl := hsl.ext (X' := [b5, bm]) hT (by simp) (fun b h => by simp at h; rcases h with rfl | rfl; exact .inr hb5; exact .inl (by simp))
            replace hkv := hkv.ext (X' := [b5, bm]) hT (by simp) (fun b h => by simp at h; rcases h with rfl | rfl; exact .inr hb5; exact .inl (by simp))
            replace hP := hP.trans (hT.mono (by simp))
            replace e2 := e2.ext hT (by simp; try exact n2)
            replace hw := hw.ext hT (by simp) (fun _ h => .inl h)
            clear hT hb5
            refine D ?_
            refine WD_late0 rfl trivial (OE_storeA (us := rlC ⟨names4[q1], 739600 + (q2 : Int), kinds7[q3], nil4, nil4, [], []⟩ nilS nilS) rfl rfl rfl rfl (rlC_one _ (nilSlv [] wq) (nilSlv [] wq)) e5 rfl) rfl ?_
            rintro _ wz ⟨hZ, e5z⟩
            refine D ?_
            refine WQ_cut (b5, names4[q1], (q2 : Int), kinds7[q3]) ⟨rfl, rfl, rfl, rfl, trivial⟩ ⟨hmk.ext hZ (by simp; exact n5.symm), hsl.ext hZ (by simp) (fun _ h => .inl h), hkv.ext hZ (by simp) (fun _ h => .inl h), ⟨_, rfl, e2.ext hZ (by simp; exact n52.symm)⟩, e5z, List.getElem_mem _, by simp only; omega, List.getElem_mem _, n5, n52, hb5w, hP.own hZ (fun b hb => .inr (by simp at hb; omega))⟩
          · refine WD1_eff rfl trivial OE_alloc (fun _ _ h => h.choose_spec.2.2.2.mono (by simp)) rfl ?_
            rintro _ wq ⟨b5, rfl, hb5, e5, hT⟩
            have n5 : b5 ≠ bm := by have := hmk.lt; omega
            have n52 : b5 ≠ b2 := by have := e2.lt; omega
            have hb5w : wP.heap.size ≤ b5 := Nat.le_trans hP.size hb5
            replace hmk := hmk.up hT
            replace hsl := hsl.ext (X' := [b5, bm]) hT (by simp) (fun b h => by simp at h; rcases h with rfl | rfl; exact .inr hb5; exact .inl (by simp))
            replace hkv := hkv.ext (X' := [b5, bm]) hT (by simp) (fun b h => by simp at h; rcases h with rfl | rfl; exact .inr hb5; exact .inl (by simp))
            replace hP := hP.trans (hT.mono (by simp))
            replace e2 := e2.ext hT (by simp; try exact n2)
            replace hw := hw.ext hT (by simp) (fun _ h => .inl h)
            clear hT hb5
            refine D ?_
            refine WD_eff rfl trivial (OE_call rfl (evs2 rfl rfl) (Next_any bm (.slice p l.length c) l 2 7 _ (by decide) (by decide) hmk (hsl.wk (fun b h => by simp at h; simp [h])) hl)) (fun _ _ h => h.choose_spec.2.2.2.mono (by simp)) rfl ?_
            rintro _ wq ⟨q3, rfl, hq3, hmk, hT⟩
            replace hsl := hsl.ext hT (by simp) (fun _ h => .inl h)
            replace hkv := hkv.ext hT (by simp) (fun _ h => .inl h)
            replace hP := hP.trans (hT.mono (by simp))
            replace e2 := e2.ext hT (by simp; try exact n2)
            replace hw := hw.ext hT (by simp) (fun _ h => .inl h)
            replace e5 := e5.ext hT (by simp; try exact n5)
            clear hT
            have hq3n : q3 < kinds7.length := by show q3 < 7; omega
            refine D ?_
            try (refine WF_build rfl trivial (vs := [(0, str names4[q1]), (1, .int .i64 (739600 + (q2 : Int))), (2, str kinds7[q3])]) rfl (buildRl _ _ _) rfl ?_)
            refine D ?_
            refine WD_late0 rfl trivial (OE_storeA (us := rlC ⟨names4[q1], 739600 + (q2 : Int), kinds7[q3], nil4, nil4, [], []⟩ nilS nilS) rfl rfl rfl rfl (rlC_one _ (nilSlv [] wq) (nilSlv [] wq)) e5 rfl) rfl ?_
            rintro _ wz ⟨hZ, e5z⟩
            refine D ?_
            refine WQ_cut (b5, names4[q1], (q2 : Int), kinds7[q3]) ⟨rfl, rfl, rfl, rfl, trivial⟩ ⟨hmk.ext hZ (by simp; exact n5.symm), hsl.ext hZ (by simp) (fun _ h => .inl h), hkv.ext hZ (by simp) (fun _ h => .inl h), ⟨_, rfl, e2.ext hZ (by simp; exact n52.symm)⟩, e5z, List.getElem_mem _, by simp only; omega, List.getElem_mem _, n5, n52, hb5w, hP.own hZ (fun b hb => .inr (by simp at hb; omega))⟩
        · refine WD1_eff rfl trivial OE_alloc (fun _ _ h => h.choose_spec.2.2.2.mono (by simp)) rfl ?_
          rintro _ wq ⟨b5, rfl, hb5, e5, hT⟩
          have n5 : b5 ≠ bm := by have := hmk.lt; omega
          have n52 : b5 ≠ b2 := by have := e2.lt; omega
          have hb5w : wP.heap.size ≤ b5 := Nat.le_trans hP.size hb5
          replace hmk := hmk.up hT
          replace hsl := hsl.ext (X' := [b5, bm]) hT (by simp) (fun b h => by simp at h; rcases h with rfl | rfl; exact .inr hb5; exact .inl (by simp))
          replace hkv := hkv.ext (X' := [b5, bm]) hT (by simp) (fun b h => by simp at h; rcases h with rfl | rfl; exact .inr hb5; exact .inl (by simp))
          replace hP := hP.trans (hT.mono (by simp))
          replace e2 := e2.ext hT (by simp; try exact n2)
          replace hw := hw.ext hT (by simp) (fun _ h => .inl h)
          clear hT hb5
          refine D ?_
          refine WD_eff rfl trivial (OE_call rfl (evs2 rfl rfl) (Next_any bm (.slice p l.length c) l 1 30 _ (by decide) (by decide) hmk (hsl.wk (fun b h => by simp at h; simp [h])) hl)) (fun _ _ h => h.choose_spec.2.2.2.mono (by simp)) rfl ?_
          rintro _ wq ⟨q2, rfl, hq2, hmk, hT⟩
          replace hsl := hsl.ext hT (by simp) (fun _ h => .inl h)
          replace hkv := hkv.ext hT (by simp) (fun _ h => .inl h)
          replace hP := hP.trans (hT.mono (by simp))
          replace e2 := e2.ext hT (by simp; try exact n2)
          replace hw := hw.ext hT (by simp) (fun _ h => .inl h)
          replace e5 := e5.ext hT (by simp; try exact n5)
          clear hT
          refine D ?_
          refine WD_eff rfl trivial (OE_call rfl (evs2 rfl rfl) (Next_any bm (.slice p l.length c) l 2 7 _ (by decide) (by decide) hmk (hsl.wk (fun b h => by simp at h; simp [h])) hl)) (fun _ _ h => h.choose_spec.2.2.2.mono (by simp)) rfl ?_
          rintro _ wq ⟨q3, rfl, hq3, hmk, hT⟩
          replace hsl := hsl.ext hT (by simp) (fun _ h => .inl h)
          replace hkv := hkv.ext hT (by simp) (fun _ h => .inl h)
          replace hP := hP.trans (hT.mono (by simp))
          replace e2 := e2.ext hT (by simp; try exact n2)
          replace hw := hw.ext hT (by simp) (fun _ h => .inl h)
          replace e5 := e5.ext hT (by simp; try exact n5)
          clear hT
          have hq3n : q3 < kinds7.length := by show q3 < 7; omega
          refine D ?_
          try (refine WF_build rfl trivial (vs := [(0, str names4[q1]), (1, .int .i64 (739600 + (q2 : Int))), (2, str kinds7[q3])]) rfl (buildRl _ _ _) rfl ?_)
          refine D ?_
          refine WD_late0 rfl trivial (OE_storeA (us := rlC ⟨names4[q1], 739600 + (q2 : Int), kinds7[q3], nil4, nil4, [], []⟩ nilS nilS) rfl rfl rfl rfl (rlC_one _ (nilSlv [] wq) (nilSlv [] wq)) e5 rfl) rfl ?_
          rintro _ wz ⟨hZ, e5z⟩
          refine D ?_
          refine WQ_cut (b5, names4[q1], (q2 : Int), kinds7[q3]) ⟨rfl, rfl, rfl, rfl, trivial⟩ ⟨hmk.ext hZ (by simp; exact n5.symm), hsl.ext hZ (by simp) (fun _ h => .inl h), hkv.ext hZ (by simp) (fun _ h => .inl h), ⟨_, rfl, e2.ext hZ (by simp; exact n52.symm)⟩, e5z, List.getElem_mem _, by simp only; omega, List.getElem_mem _, n5, n52, hb5w, hP.own hZ (fun b hb => .inr (by simp at hb; omega))⟩
      · refine WD1_eff rfl trivial OE_alloc (fun _ _ h => h.choose_spec.2.2.2.mono (by simp)) rfl ?_
        rintro _ wq ⟨b5, rfl, hb5, e5, hT⟩
        have n5 : b5 ≠ bm := by have := hmk.lt; omega
        have n52 : b5 ≠ b2 := by have := e2.lt; omega
        have hb5w : wP.heap.size ≤ b5 := Nat.le_trans hP.size hb5
        replace hmk := hmk.up hT
        replace hsl := hsl.ext (X' := [b5, bm]) hT (by simp) (fun b h => by simp at h; rcases h with rfl | rfl; exact .inr hb5; exact .inl (by simp))
        replace hkv := hkv.ext (X' := [b5, bm]) hT (by simp) (fun b h => by simp at h; rcases h with rfl | rfl; exact .inr hb5; exact .inl (by simp))
        replace hP := hP.trans (hT.mono (by simp))
        replace e2 := e2.ext hT (by simp; try exact n2)
        replace hw := hw.ext hT (by simp) (fun _ h => .inl h)
        clear hT hb5
        refine D ?_
        refine WD_eff rfl trivial (OE_call rfl (evs2 rfl rfl) (Next_any bm (.slice p l.length c) l 0 4 _ (by decide) (by decide) hmk (hsl.wk (fun b h => by simp at h; simp [h])) hl)) (fun _ _ h => h.choose_spec.2.2.2.mono (by simp)) rfl ?_
        rintro _ wq ⟨q1, rfl, hq1, hmk, hT⟩
        replace hsl := hsl.ext hT (by simp) (fun _ h => .inl h)
        replace hkv := hkv.ext hT (by simp) (fun _ h => .inl h)
        replace hP := hP.trans (hT.mono (by simp))
        replace e2 := e2.ext hT (by simp; try exact n2)
        replace hw := hw.ext hT (by simp) (fun _ h => .inl h)
        replace e5 := e5.ext hT (by simp; try exact n5)
        clear hT
        have hq1n : q1 < names4.length := by show q1 < 4; omega
        refine D ?_
        refine WD_eff rfl trivial (OE_call rfl (evs2 rfl rfl) (Next_any bm (.slice p l.length c) l 1 30 _ (by decide) (by decide) hmk (hsl.wk (fun b h => by simp at h; simp [h])) hl)) (fun _ _ h => h.choose_spec.2.2.2.mono (by simp)) rfl ?_
        rintro _ wq ⟨q2, rfl, hq2, hmk, hT⟩
        replace hsl := hsl.ext hT (by simp) (fun _ h => .inl h)
        replace hkv := hkv.ext hT (by simp) (fun _ h => .inl h)
        replace hP := hP.trans (hT.mono (by simp))
        replace e2 := e2.ext hT (by simp; try exact n2)
        replace hw := hw.ext hT (by simp) (fun _ h => .inl h)
        replace e5 := e5.ext hT (by simp; try exact n5)
        clear hT
        refine D ?_
        refine WD_eff rfl trivial (OE_call rfl (evs2 rfl rfl) (Next_any bm (.slice p l.length c) l 2 7 _ (by decide) (by decide) hmk (hsl.wk (fun b h => by simp at h; simp [h])) hl)) (fun _ _ h => h.choose_spec.2.2.2.mono (by simp)) rfl ?_
        rintro _ wq ⟨q3, rfl, hq3, hmk, hT⟩
        replace hsl := hsl.ext hT (by simp) (fun _ h => .inl h)
        replace hkv := hkv.ext hT (by simp) (fun _ h => .inl h)
        replace hP := hP.trans (hT.mono (by simp))
        replace e2 := e2.ext hT (by simp; try exact n2)
        replace hw := hw.ext hT (by simp) (fun _ h => .inl h)
        replace e5 := e5.ext hT (by simp; try exact n5)
        clear hT
        have hq3n : q3 < kinds7.length := by show q3 < 7; omega
        refine D ?_
        try (refine WF_build rfl trivial (vs := [(0, str names4[q1]), (1, .int .i64 (739600 + (q2 : Int))), (2, str kinds7[q3])]) rfl (buildRl _ _ _) rfl ?_)
        refine D ?_
        refine WD_late0 rfl trivial (OE_storeA (us := rlC ⟨names4[q1], 739600 + (q2 : Int), kinds7[q3], nil4, nil4, [], []⟩ nilS nilS) rfl rfl rfl rfl (rlC_one _ (nilSlv [] wq) (nilSlv [] wq)) e5 rfl) rfl ?_
        rintro _ wz ⟨hZ, e5z⟩
        refine D ?_
        refine WQ_cut (b5, names4[q1], (q2 : Int), kinds7[q3]) ⟨rfl, rfl, rfl, rfl, trivial⟩ ⟨hmk.ext hZ (by simp; exact n5.symm), hsl.ext hZ (by simp) (fun _ h => .inl h), hkv.ext hZ (by simp) (fun _ h => .inl h), ⟨_, rfl, e2.ext hZ (by simp; exact n52.symm)⟩, e5z, List.getElem_mem _, by simp only; omega, List.getElem_mem _, n5, n52, hb5w, hP.own hZ (fun b hb => .inr (by simp at hb; omega))⟩
    · refine WD1_eff rfl trivial OE_alloc (fun _ _ h => h.choose_spec.2.2.2.mono (by simp)) rfl ?_
      rintro _ wq ⟨b5, rfl, hb5, e5, hT⟩
      have n5 : b5 ≠ bm := by have := hmk.lt; omega
      have n52 : b5 ≠ b2 := by have := e2.lt; omega
      have hb5w : wP.heap.size ≤ b5 := Nat.le_trans hP.size hb5
      replace hmk := hmk.up hT
      replace hsl := hsl.ext (X' := [b5, bm]) hT (by simp) (fun b h => by simp at h; rcases h with rfl | rfl; exact .inr hb5; exact .inl (by simp))
      replace hkv := hkv.ext (X' := [b5, bm]) hT (by simp) (fun b h => by simp at h; rcases h with rfl | rfl; exact .inr hb5; exact .inl (by simp))
      replace hP := hP.trans (hT.mono (by simp))
      replace e2 := e2.ext hT (by simp; try exact n2)
      clear hT hb5
      refine D ?_
      refine WD_eff rfl trivial (OE_call rfl (evs1 rfl) (words_any [bm] [97, 32, 98, 32, 99, 49, 48, 32, 97, 110, 115, 119, 101, 114] _ (fun b h => by simp at h; rw [h]; exact hmk.lt) (by decide))) (fun _ _ h => h.2.mono (by simp)) rfl ?_
      rintro wv wq ⟨hrw, hT⟩
      rw [show wordsOf [97, 32, 98, 32, 99, 49, 48, 32, 97, 110, 115, 119, 101, 114] = names4 by decide +kernel] at hrw
      have hw := hrw.slv (X := [bm]) (fun b h => by simp at h; rw [h]; exact hmk.lt)
      replace hmk := hmk.up hT
      replace hsl := hsl.ext hT (by simp) (fun _ h => .inl h)
      replace hkv := hkv.ext hT (by simp) (fun _ h => .inl h)
      replace hP := hP.trans (hT.mono (by simp))
      replace e2 := e2.ext hT (by simp; try exact n2)
      replace e5 := e5.ext hT (by simp; try exact n5)
      clear hT hrw
      refine D ?_
      refine WD_eff rfl trivial (OE_call rfl (evs2 rfl rfl) (Next_any bm (.slice p l.length c) l 0 4 _ (by decide) (by decide) hmk (hsl.wk (fun b h => by simp at h; simp [h])) hl)) (fun _ _ h => h.choose_spec.2.2.2.mono (by simp)) rfl ?_
      rintro _ wq ⟨q1, rfl, hq1, hmk, hT⟩
      replace hsl := hsl.ext hT (by simp) (fun _ h => .inl h)
      replace hkv := hkv.ext hT (by simp) (fun _ h => .inl h)
      replace hP := hP.trans (hT.mono (by simp))
      replace e2 := e2.ext hT (by simp; try exact n2)
      replace hw := hw.ext hT (by simp) (fun _ h => .inl h)
      replace e5 := e5.ext hT (by simp; try exact n5)
      clear hT
      have hq1n : q1 < names4.length := by show q1 < 4; omega
      refine D ?_
      refine WD_eff rfl trivial (OE_call rfl (evs2 rfl rfl) (Next_any bm (.slice p l.length c) l 1 30 _ (by decide) (by decide) hmk (hsl.wk (fun b h => by simp at h; simp [h])) hl)) (fun _ _ h => h.choose_spec.2.2.2.mono (by simp)) rfl ?_
      rintro _ wq ⟨q2, rfl, hq2, hmk, hT⟩
      replace hsl := hsl.ext hT (by simp) (fun _ h => .inl h)
      replace hkv := hkv.ext hT (by simp) (fun _ h => .inl h)
      replace hP := hP.trans (hT.mono (by simp))
      replace e2 := e2.ext hT (by simp; try exact n2)
      replace hw := hw.ext hT (by simp) (fun _ h => .inl h)
      replace e5 := e5.ext hT (by simp; try exact n5)
      clear hT
      refine D ?_
      refine WD_eff rfl trivial (OE_call rfl (evs2 rfl rfl) (Next_any bm (.slice p l.length c) l 2 7 _ (by decide) (by decide) hmk (hsl.wk (fun b h => by simp at h; simp [h])) hl)) (fun _ _ h => h.choose_spec.2.2.2.mono (by simp)) rfl ?_
      rintro _ wq ⟨q3, rfl, hq3, hmk, hT⟩
      replace hsl := hsl.ext hT (by simp) (fun _ h => .inl h)
      replace hkv := hkv.ext hT (by simp) (fun _ h => .inl h)
      replace hP := hP.trans (hT.mono (by simp))
      replace e2 := e2.ext hT (by simp; try exact n2)
      replace hw := hw.ext hT (by simp) (fun _ h => .inl h)
      replace e5 := e5.ext hT (by simp; try exact n5)
      clear hT
      have hq3n : q3 < kinds7.length := by show q3 < 7; omega
      refine D ?_
      try (refine WF_build rfl trivial (vs := [(0, str names4[q1]), (1, .int .i64 (739600 + (q2 : Int))), (2, str kinds7[q3])]) rfl (buildRl _ _ _) rfl ?_)
      refine D ?_
      refine WD_late0 rfl trivial (OE_storeA (us := rlC ⟨names4[q1], 739600 + (q2 : Int), kinds7[q3], nil4, nil4, [], []⟩ nilS nilS) rfl rfl rfl rfl (rlC_one _ (nilSlv [] wq) (nilSlv [] wq)) e5 rfl) rfl ?_
      rintro _ wz ⟨hZ, e5z⟩
      refine D ?_
      refine WQ_cut (b5, names4[q1], (q2 : Int), kinds7[q3]) ⟨rfl, rfl, rfl, rfl, trivial⟩ ⟨hmk.ext hZ (by simp; exact n5.symm), hsl.ext hZ (by simp) (fun _ h => .inl h), hkv.ext hZ (by simp) (fun _ h => .inl h), ⟨_, rfl, e2.ext hZ (by simp; exact n52.symm)⟩, e5z, List.getElem_mem _, by simp only; omega, List.getElem_mem _, n5, n52, hb5w, hP.own hZ (fun b hb => .inr (by simp at hb; omega))⟩
  clear hmk hsl hkv e2
  rintro ⟨b5, a, f, o⟩ w3 ⟨hmk, hsl, hkv, ⟨cs2, hl2, e2⟩, e5, ha, hf, ho, n5, n52, hb5w, hP⟩
  dsimp only at hmk hsl hkv e2 e5 ha hf ho n5 n52 hb5w hP
  have z3 : szD 3 = 13 := by decide
  have z4 : szD 4 = 40 := by decide
  refine W ?_
  refine WL_eff (OE_call rfl (evs2 rfl rfl) (Next_any bm (.slice p l.length c) l 3 3 _ (by decide) (by omega) hmk (hsl.wk (fun b h => by simp at h; simp [h])) hl)) rfl ?_
  rintro _ w4 ⟨q, rfl, hq, hmk, hT⟩
  replace hsl := hsl.ext hT (by simp) (fun _ h => .inl h)
  replace hkv := hkv.ext hT (by simp) (fun _ h => .inl h)
  replace hP := hP.trans hT
  replace e2 := e2.ext hT (by simp; exact n2)
  replace e5 := e5.ext hT (by simp; exact n5)
  clear hT
  refine W ?_
  refine WC_cutQ (σ := Str × Nat) (fun _ => [(2, .pointer (some ⟨b2, 0, none⟩)), (3, .pointer (some ⟨bm, 0, none⟩)), (4, kv), (5, .pointer (some ⟨b5, 0, none⟩))])
    (fun q w' => Mk w' bm (.slice p l.length c) q.2 ∧ q.2 ≤ 5 ∧ SlV [b5, bm] w' (.slice p l.length c) l ∧ SlV [b5, bm] w' kv kinds7 ∧ Blk w' b2 50 cs2 ∧ Blk w' b5 50 (rlC ⟨a, 739600 + f, o, nil4, nil4, q.1, []⟩ nilS nilS) ∧ (q.1 = [] ∨ q.1 ∈ kinds7) ∧ Stp [bm] wP w') ?_ ?_
  · repeat' (first | refine W1 ?_ | (exfalso; omega) | refine WL_split rfl rfl (fun hg => ?_) (fun hg => ?_) | refine WL_splitB rfl rfl (fun hg => ?_) (fun hg => ?_) | refine WC_cond rfl (fun hc => ?_) (fun hc => ?_) | refine WC_condB rfl (fun hc => ?_) (fun hc => ?_))
    · refine WL_eff (OE_call rfl (evs2 rfl rfl) (Next_any bm (.slice p l.length c) l _ 7 _ (by decide) (by omega) hmk (hsl.wk (fun b h => by simp at h; simp [h])) hl)) rfl ?_
      rintro _ w4 ⟨z, rfl, hz, hmk, hT⟩
      replace hsl := hsl.ext hT (by simp) (fun _ h => .inl h)
      replace hkv := hkv.ext hT (by simp) (fun _ h => .inl h)
      replace hP := hP.trans hT
      replace e2 := e2.ext hT (by simp; exact n2)
      replace e5 := e5.ext hT (by simp; exact n5)
      clear hT
      have hqn : z < kinds7.length := by show z < 7; omega
      refine W ?_
      refine WL_eff0 (OE_store1 (u := str kinds7[z]) rfl rfl rfl rfl e5 (by simp)) ?_
      rintro _ w6 ⟨hT, e5⟩
      replace hmk := hmk.ext hT (by simp; exact n5.symm)
      replace hsl := hsl.ext hT (by simp) (fun _ h => .inl h)
      replace hkv := hkv.ext hT (by simp) (fun _ h => .inl h)
      replace hP := hP.own hT (fun b hb => .inr (by simp at hb; omega))
      replace e2 := e2.ext hT (by simp; exact n52.symm)
      clear hT
      refine W ?_
      exact WQ_cut (kinds7[z], _) ⟨rfl, rfl, rfl, rfl, trivial⟩ ⟨hmk, by simp only; omega, hsl, hkv, e2, e5, .inr (List.getElem_mem _), hP⟩
    · exact WQ_cut ([], _) ⟨rfl, rfl, rfl, rfl, trivial⟩ ⟨hmk, by simp only; omega, hsl, hkv, e2, e5, .inl rfl, hP⟩
  clear hmk hsl hkv e2 e5 hP
  rintro ⟨u, iu⟩ w3 ⟨hmk, hiu, hsl, hkv, e2, e5, hu, hP⟩
  dsimp only at hmk hiu hsl hkv e2 e5 hu hP
  refine W ?_
  refine WL_eff (OE_call rfl (evs2 rfl rfl) (Next_any bm (.slice p l.length c) l _ 3 _ (by decide) (by omega) hmk (hsl.wk (fun b h => by simp at h; simp [h])) hl)) rfl ?_
  rintro _ w4 ⟨q, rfl, hq, hmk, hT⟩
  replace hsl := hsl.ext hT (by simp) (fun _ h => .inl h)
  replace hkv := hkv.ext hT (by simp) (fun _ h => .inl h)
  replace hP := hP.trans hT
  replace e2 := e2.ext hT (by simp; exact n2)
  replace e5 := e5.ext hT (by simp; exact n5)
  clear hT
  refine W ?_
  refine WC_cutQ (σ := Str × Nat) (fun _ => [(2, .pointer (some ⟨b2, 0, none⟩)), (3, .pointer (some ⟨bm, 0, none⟩)), (4, kv), (5, .pointer (some ⟨b5, 0, none⟩))])
    (fun q w' => Mk w' bm (.slice p l.length c) q.2 ∧ q.2 ≤ 7 ∧ SlV [b5, bm] w' (.slice p l.length c) l ∧ SlV [b5, bm] w' kv kinds7 ∧ Blk w' b2 50 cs2 ∧ Blk w' b5 50 (rlC ⟨a, 739600 + f, o, nil4, nil4, u, q.1⟩ nilS nilS) ∧ (q.1 = [] ∨ q.1 ∈ kinds7) ∧ Stp [bm] wP w') ?_ ?_
  · repeat' (first | refine W1 ?_ | (exfalso; omega) | refine WL_split rfl rfl (fun hg => ?_) (fun hg => ?_) | refine WL_splitB rfl rfl (fun hg => ?_) (fun hg => ?_) | refine WC_cond rfl (fun hc => ?_) (fun hc => ?_) | refine WC_condB rfl (fun hc => ?_) (fun hc => ?_))
    · refine WL_eff (OE_call rfl (evs2 rfl rfl) (Next_any bm (.slice p l.length c) l _ 7 _ (by decide) (by omega) hmk (hsl.wk (fun b h => by simp at h; simp [h])) hl)) rfl ?_
      rintro _ w4 ⟨z, rfl, hz, hmk, hT⟩
      replace hsl := hsl.ext hT (by simp) (fun _ h => .inl h)
      replace hkv := hkv.ext hT (by simp) (fun _ h => .inl h)
      replace hP := hP.trans hT
      replace e2 := e2.ext hT (by simp; exact n2)
      replace e5 := e5.ext hT (by simp; exact n5)
      clear hT
      have hqn : z < kinds7.length := by show z < 7; omega
      refine W ?_
      refine WL_eff0 (OE_store1 (u := str kinds7[z]) rfl rfl rfl rfl e5 (by simp)) ?_
      rintro _ w6 ⟨hT, e5⟩
      replace hmk := hmk.ext hT (by simp; exact n5.symm)
      replace hsl := hsl.ext hT (by simp) (fun _ h => .inl h)
      replace hkv := hkv.ext hT (by simp) (fun _ h => .inl h)
      replace hP := hP.own hT (fun b hb => .inr (by simp at hb; omega))
      replace e2 := e2.ext hT (by simp; exact n52.symm)
      clear hT
      refine W ?_
      exact WQ_cut (kinds7[z], _) ⟨rfl, rfl, rfl, rfl, trivial⟩ ⟨hmk, by simp only; omega, hsl, hkv, e2, e5, .inr (List.getElem_mem _), hP⟩
    · exact WQ_cut ([], _) ⟨rfl, rfl, rfl, rfl, trivial⟩ ⟨hmk, by simp only; omega, hsl, hkv, e2, e5, .inl rfl, hP⟩
  clear hmk hsl hkv e2 e5 hP
  rintro ⟨v, iv⟩ w3 ⟨hmk, hiv, hsl, hkv, e2, e5, hv, hP⟩
  dsimp only at hmk hiv hsl hkv e2 e5 hv hP
  refine W ?_
  have hX3 : ∀ b ∈ b5 :: b2 :: bm :: X, b < w3.heap.size := fun b hb => by
    have h1 := e5.lt; have h2 := e2.lt; have h3 := hmk.lt; have h4 := hS.size; have h5 := hP.size
    simp only [List.mem_cons] at hb
    rcases hb with rfl | rfl | rfl | h
    · omega
    · omega
    · omega
    · have := hX b h; omega
  refine WL_eff (OE_call rfl (evs2 rfl rfl) ((gens 3 (by decide) (by decide)).2.1 (b5 :: b2 :: bm :: X) _ bm _ l _ _ rfl hmk (hsl.wk (fun b h => by simp at h; simp [h])) hl (by rw [z3]; omega) hX3)) rfl ?_
  clear hX3
  rintro _ w3 ⟨y, iy, ⟨ky, rfl, hy⟩, hsy, ⟨hty, hny⟩, hmk, hiy, hT⟩
  replace hsl := hsl.ext hT (by simp) (fun _ h => .inl h)
  replace hkv := hkv.ext hT (by simp) (fun _ h => .inl h)
  replace hP := hP.trans hT
  replace e2 := e2.ext hT (by simp; exact n2)
  replace e5 := e5.ext hT (by simp; exact n5)
  clear hT
  refine W ?_
  refine WL_eff0 (OE_store (us := ndC y ky) rfl rfl rfl rfl (ndC_one hy) e5 (by simp)) ?_
  rintro _ w3 ⟨hT, e5⟩
  replace e5 : Blk w3 b5 50 (rlC ⟨a, 739600 + f, o, y, nil4, u, v⟩ ky nilS) := e5
  replace hy := hy.ext hT (by simp) (fun _ h => .inl h)
  replace hmk := hmk.ext hT (by simp; exact n5.symm)
  replace hsl := hsl.ext hT (by simp) (fun _ h => .inl h)
  replace hkv := hkv.ext hT (by simp) (fun _ h => .inl h)
  replace hP := hP.own hT (fun b hb => .inr (by simp at hb; omega))
  replace e2 := e2.ext hT (by simp; exact n52.symm)
  clear hT
  refine W ?_
  have hX3 : ∀ b ∈ b5 :: b2 :: bm :: X, b < w3.heap.size := fun b hb => by
    have h1 := e5.lt; have h2 := e2.lt; have h3 := hmk.lt; have h4 := hS.size; have h5 := hP.size
    simp only [List.mem_cons] at hb
    rcases hb with rfl | rfl | rfl | h
    · omega
    · omega
    · omega
    · have := hX b h; omega
  refine WL_eff (OE_call rfl (evs2 rfl rfl) ((gens 4 (by decide) (by decide)).2.2 (b5 :: b2 :: bm :: X) _ bm _ l _ _ rfl hmk (hsl.wk (fun b h => by simp at h; simp [h])) hl (by rw [z4]; omega) hX3)) rfl ?_
  clear hX3
  rintro _ w3 ⟨x, ix, ⟨kx, rfl, hx⟩, hsx, ⟨htx, hnx⟩, hmk, hix, hT⟩
  replace hy := hy.ext hT (by simp) (fun _ h => .inl h)
  replace hsl := hsl.ext hT (by simp) (fun _ h => .inl h)
  replace hkv := hkv.ext hT (by simp) (fun _ h => .inl h)
  replace hP := hP.trans hT
  replace e2 := e2.ext hT (by simp; exact n2)
  replace e5 := e5.ext hT (by simp; exact n5)
  clear hT
  refine W ?_
  refine WL_eff0 (OE_store (us := ndC x kx) rfl rfl rfl rfl (ndC_one hx) e5 (by simp)) ?_
  rintro _ w3 ⟨hT, e5⟩
  replace e5 : Blk w3 b5 50 (rlC ⟨a, 739600 + f, o, y, x, u, v⟩ ky kx) := e5
  replace hy := hy.ext hT (by simp) (fun _ h => .inl h)
  replace hx := hx.ext hT (by simp) (fun _ h => .inl h)
  replace hmk := hmk.ext hT (by simp; exact n5.symm)
  replace hsl := hsl.ext hT (by simp) (fun _ h => .inl h)
  replace hkv := hkv.ext hT (by simp) (fun _ h => .inl h)
  replace hP := hP.own hT (fun b hb => .inr (by simp at hb; omega))
  replace e2 := e2.ext hT (by simp; exact n52.symm)
  clear hT
  refine W ?_
  try (apply WL_pure (PR_loadN_blk (us := rlC ⟨a, 739600 + f, o, y, x, u, v⟩ ky kx) rfl rfl e5 rfl rfl) rfl)
  try refine W ?_
  refine WL_eff0 (OE_storeA (us := rlC ⟨a, 739600 + f, o, y, x, u, v⟩ ky kx) rfl rfl rfl rfl (rlC_one ⟨a, 739600 + f, o, y, x, u, v⟩ hy hx) e2 (by rw [hl2]; rfl)) ?_
  rintro _ w4 ⟨hT, e2⟩
  refine W ?_
  refine WQ_retc rfl rfl rfl e2 rfl ?_
  refine .mk ⟨⟨a, 739600 + f, o, y, x, u, v⟩, ⟨ky, kx, rfl, (hy.ext hT (by simp) (fun _ h => .inl h)).wk (fun b h => by simp [h]), (hx.ext hT (by simp) (fun _ h => .inl h)).wk (fun b h => by simp [h])⟩, by simp only; omega, by simp only; omega, check_ok ha ho hu hv hf hty hny htx hnx, ?_⟩
  exact (hS.own hP (fun b hb => .inr (by simp at hb; omega))).own hT (fun b hb => .inr (by simp at hb; omega))
end Go.Proofs.YtfjmlobgjdmecaaDoor
namespace Go.Proofs.YtfjmlobgjdmecaaDoor
open Go Go.Eng Go.RowKit
set_option linter.unusedVariables false

/-! ### compiled rules -/
structure Cr where
  name : Str
  frm : Int
  on : Str
  cnd : List Ins
  due : List Ins
  unl : Str
  els : Str
abbrev crC (q : Cr) (kc kd : Value) : List Value := [str q.name, .int .i64 q.frm, str q.on, kc, kd, str q.unl, str q.els]
def CrV (X : List Nat) (w : World) (v : Value) (q : Cr) : Prop := ∃ kc kd, v = .agg (crC q kc kd).toArray ∧ SlV X w kc q.cnd ∧ SlV X w kd q.due
theorem CrV.up {X : List Nat} {w w' : World} {v : Value} {q : Cr} (h : CrV X w v q) (hS : Stp [] w w') : CrV X w' v q := by
  obtain ⟨kc, kd, rfl, h1, h2⟩ := h
  exact ⟨kc, kd, rfl, h1.up hS, h2.up hS⟩
theorem crC_one {q : Cr} {X Y : List Nat} {w w' : World} {kc kd : Value} (h1 : SlV X w kc q.cnd) (h2 : SlV Y w' kd q.due) : ∀ c ∈ crC q kc kd, c.oneCell' = true := by
  intro c hc
  have e1 := h1.one
  have e2 := h2.one
  simp only [crC, List.mem_cons, List.not_mem_nil, or_false] at hc
  rcases hc with rfl | rfl | rfl | rfl | rfl | rfl | rfl <;> first | rfl | exact e1 | exact e2
/-- the error of a compiled rule -/
def ruleE (r : Rul) : Int := if checkT r ≠ 0 then checkT r else if errX r.cnd ≠ 0 then errX r.cnd else errX r.due
abbrev crZ : Cr := ⟨[], 0, [], [], [], [], []⟩
def crF (r : Rul) : Cr := if ruleE r = 0 then ⟨r.name, r.frm, r.on, exprF r.cnd, exprF r.due, r.unl, r.els⟩ else crZ
/-- what both 'Rule' give -/
def RuleR (w : World) (r : Rul) (v : Value) (w' : World) : Prop := ∃ cv, v = .tuple #[cv, .int .i64 (ruleE r)] ∧ (∀ X : List Nat, (∀ b ∈ X, b < w.heap.size) → CrV X w' cv (crF r)) ∧ Stp [] w w'
theorem buildCr0 (w : World) : (Instr.build 53 #[]).run Tryd.prog w = .ok (.agg (crC crZ nilS nilS).toArray) w := by kernel_rfl
theorem buildCr (q : Cr) (p1 p2 : Option Addr) (l1 c1 l2 c2 : Nat) (w : World) : (Instr.build 53 #[(0, str q.name), (1, .int .i64 q.frm), (2, str q.on), (3, .slice p1 l1 c1), (4, .slice p2 l2 c2), (5, str q.unl), (6, str q.els)]).run Tryd.prog w = .ok (.agg (crC q (.slice p1 l1 c1) (.slice p2 l2 c2)).toArray) w := by kernel_rfl
theorem Rule_any (v : Value) (r : Rul) (w : World) (hv : RulV [] w v r) (h1 : sizeN r.cnd ≤ 1000) (h2 : sizeN r.due ≤ 1000) (hF : SlV [] w flds fieldNames) (m : Int) (hm : w.cell? ⟨1, 0, none⟩ = some (.int .i64 m)) :
    Calls Tryd.prog 26 #[v] w (Ret (RuleR w r)) := by
  obtain ⟨ki, kd, rfl, hi, hd⟩ := hv
  have hn1 := nest_le_size r.cnd
  have hn2 := nest_le_size r.due
  refine calls_of_WC1 (n := 47) Tryd.func26 rfl rfl rfl ?_
  refine W ?_
  refine WL_eff (OE_box rfl) rfl ?_
  rintro _ w1 ⟨b, rfl, hb, hblk, hS⟩
  replace hblk : Blk w1 b _ (rlC r ki kd) := hblk
  refine W ?_
  refine WL_eff OE_alloc rfl ?_
  rintro _ w2 ⟨b2, rfl, hb2, e2, hT⟩
  have hb2w : w.heap.size ≤ b2 := Nat.le_trans hS.size hb2
  replace hblk := hblk.up hT
  replace hS := hS.trans hT
  clear hT hb hb2
  refine W ?_
  try (refine WL_pure (PR_load_blkA rfl rfl hblk rfl) rfl ?_)
  refine W ?_
  refine WL_eff (OE_call rfl (evs1 rfl) (Check14_any _ r m _ ⟨ki, kd, rfl, hi.up hS, hd.up hS⟩ (hF.up hS) (hS.cell (by simp) hm))) rfl ?_
  rintro _ w3 ⟨rfl, hT⟩
  replace hblk := hblk.up hT
  replace e2 := e2.up hT
  replace hS := hS.trans hT
  clear hT
  by_cases hck : checkT r = 0
  case neg =>
    have hE : ruleE r = checkT r := by unfold ruleE; rw [if_pos hck]
    have hC : crF r = crZ := by unfold crF; rw [hE, if_neg hck]
    repeat' (first | refine W1 ?_ | (exfalso; omega) | refine WL_split rfl rfl (fun hg => ?_) (fun hg => ?_) | refine WL_splitB rfl rfl (fun hg => ?_) (fun hg => ?_) | refine WC_cond rfl (fun hc => ?_) (fun hc => ?_) | refine WC_condB rfl (fun hc => ?_) (fun hc => ?_))
    apply WL_build (vs := []) rfl buildCr0 rfl
    refine W ?_
    refine WL_eff0 (OE_storeA (us := crC crZ nilS nilS) rfl rfl rfl rfl (crC_one (q := crZ) (nilSlv [] w) (nilSlv [] w)) e2 rfl) ?_
    rintro _ w9 ⟨hT, e2⟩
    refine W ?_
    refine WQ_retct rfl rfl rfl e2 rfl rfl ?_
    exact .mk ⟨_, by rw [hE] <;> rfl, fun X hX => ⟨nilS, nilS, by rw [hC], by rw [hC]; exact nilSlv X _, by rw [hC]; exact nilSlv X _⟩, hS.own hT (fun b hb => .inr (by simp at hb; omega))⟩
  repeat' (first | refine W1 ?_ | (exfalso; omega) | refine WL_split rfl rfl (fun hg => ?_) (fun hg => ?_) | refine WL_splitB rfl rfl (fun hg => ?_) (fun hg => ?_) | refine WC_cond rfl (fun hc => ?_) (fun hc => ?_) | refine WC_condB rfl (fun hc => ?_) (fun hc => ?_))
  apply WL_pure (PR_loadN_blk (us := ndC r.cnd ki) rfl rfl hblk rfl rfl) rfl
  refine W ?_
  refine WL_eff (OE_call rfl (evs1 rfl) (Expression_any _ r.cnd _ h1 ⟨ki, rfl, hi.up hS⟩ (hF.up hS))) rfl ?_
  rintro _ w4 ⟨va, rfl, ha, hT⟩
  replace ha := fun X (hX : ∀ b ∈ X, b < w.heap.size) => ha (b2 :: X) (fun b hb => by
    rcases List.mem_cons.1 hb with rfl | h
    · exact e2.lt
    · exact Nat.lt_of_lt_of_le (hX b h) hS.size)
  replace hblk := hblk.up hT
  replace e2 := e2.up hT
  replace hS := hS.trans hT
  clear hT
  refine W ?_
  by_cases hc1 : errX r.cnd = 0
  case neg =>
    have hE : ruleE r = errX r.cnd := by unfold ruleE; rw [if_neg (by simp [hck]), if_pos hc1]
    have hC : crF r = crZ := by unfold crF; rw [hE, if_neg hc1]
    repeat' (first | refine W1 ?_ | (exfalso; omega) | refine WL_split rfl rfl (fun hg => ?_) (fun hg => ?_) | refine WL_splitB rfl rfl (fun hg => ?_) (fun hg => ?_) | refine WC_cond rfl (fun hc => ?_) (fun hc => ?_) | refine WC_condB rfl (fun hc => ?_) (fun hc => ?_))
    apply WL_build (vs := []) rfl buildCr0 rfl
    refine W ?_
    refine WL_eff0 (OE_storeA (us := crC crZ nilS nilS) rfl rfl rfl rfl (crC_one (q := crZ) (nilSlv [] w) (nilSlv [] w)) e2 rfl) ?_
    rintro _ w9 ⟨hT, e2⟩
    refine W ?_
    refine WQ_retct rfl rfl rfl e2 rfl rfl ?_
    exact .mk ⟨_, by rw [hE] <;> rfl, fun X hX => ⟨nilS, nilS, by rw [hC], by rw [hC]; exact nilSlv X _, by rw [hC]; exact nilSlv X _⟩, hS.own hT (fun b hb => .inr (by simp at hb; omega))⟩
  rw [if_pos hc1] at ha
  repeat' (first | refine W1 ?_ | (exfalso; omega) | refine WL_split rfl rfl (fun hg => ?_) (fun hg => ?_) | refine WL_splitB rfl rfl (fun hg => ?_) (fun hg => ?_) | refine WC_cond rfl (fun hc => ?_) (fun hc => ?_) | refine WC_condB rfl (fun hc => ?_) (fun hc => ?_))
  apply WL_pure (PR_loadN_blk (us := ndC r.due kd) rfl rfl hblk rfl rfl) rfl
  refine W ?_
  refine WL_eff (OE_call rfl (evs1 rfl) (Expression_any _ r.due _ h2 ⟨kd, rfl, hd.up hS⟩ (hF.up hS))) rfl ?_
  rintro _ w5 ⟨vb, rfl, hb, hT⟩
  replace hb := fun X (hX : ∀ b ∈ X, b < w.heap.size) => hb (b2 :: X) (fun b hb => by
    rcases List.mem_cons.1 hb with rfl | h
    · exact e2.lt
    · exact Nat.lt_of_lt_of_le (hX b h) hS.size)
  replace ha := fun X hX => (ha X hX).up hT
  replace hblk := hblk.up hT
  replace e2 := e2.up hT
  replace hS := hS.trans hT
  clear hT
  refine W ?_
  have hE : ruleE r = errX r.due := by unfold ruleE; rw [if_neg (by simp [hck]), if_neg (by simp [hc1])]
  by_cases hc2 : errX r.due = 0
  case neg =>
    have hC : crF r = crZ := by unfold crF; rw [hE, if_neg hc2]
    repeat' (first | refine W1 ?_ | (exfalso; omega) | refine WL_split rfl rfl (fun hg => ?_) (fun hg => ?_) | refine WL_splitB rfl rfl (fun hg => ?_) (fun hg => ?_) | refine WC_cond rfl (fun hc => ?_) (fun hc => ?_) | refine WC_condB rfl (fun hc => ?_) (fun hc => ?_))
    apply WL_build (vs := []) rfl buildCr0 rfl
    refine W ?_
    refine WL_eff0 (OE_storeA (us := crC crZ nilS nilS) rfl rfl rfl rfl (crC_one (q := crZ) (nilSlv [] w) (nilSlv [] w)) e2 rfl) ?_
    rintro _ w9 ⟨hT, e2⟩
    refine W ?_
    refine WQ_retct rfl rfl rfl e2 rfl rfl ?_
    exact .mk ⟨_, by rw [hE] <;> rfl, fun X hX => ⟨nilS, nilS, by rw [hC], by rw [hC]; exact nilSlv X _, by rw [hC]; exact nilSlv X _⟩, hS.own hT (fun b hb => .inr (by simp at hb; omega))⟩
  rw [if_pos hc2] at hb
  have hC : crF r = ⟨r.name, r.frm, r.on, exprF r.cnd, exprF r.due, r.unl, r.els⟩ := by unfold crF; rw [hE, if_pos hc2]
  obtain ⟨p1, c1, rfl, -⟩ := id (ha [] (by simp))
  obtain ⟨p2, c2, rfl, -⟩ := id (hb [] (by simp))
  repeat' (first | refine W1 ?_ | (exfalso; omega) | refine WL_split rfl rfl (fun hg => ?_) (fun hg => ?_) | refine WL_splitB rfl rfl (fun hg => ?_) (fun hg => ?_) | refine WC_cond rfl (fun hc => ?_) (fun hc => ?_) | refine WC_condB rfl (fun hc => ?_) (fun hc => ?_))
  apply WL_build (vs := [(0, str r.name), (1, .int .i64 r.frm), (2, str r.on), (3, .slice p1 (exprF r.cnd).length c1), (4, .slice p2 (exprF r.due).length c2), (5, str r.unl), (6, str r.els)]) rfl (buildCr ⟨r.name, r.frm, r.on, exprF r.cnd, exprF r.due, r.unl, r.els⟩ _ _ _ _ _ _) rfl
  refine WL_eff0 (OE_storeA (us := crC ⟨r.name, r.frm, r.on, exprF r.cnd, exprF r.due, r.unl, r.els⟩ (.slice p1 (exprF r.cnd).length c1) (.slice p2 (exprF r.due).length c2)) rfl rfl rfl rfl (crC_one (q := ⟨r.name, r.frm, r.on, exprF r.cnd, exprF r.due, r.unl, r.els⟩) (ha [] (by simp)) (hb [] (by simp))) e2 rfl) ?_
  rintro _ w9 ⟨hT, e2⟩
  refine W ?_
  refine WQ_retct rfl rfl rfl e2 rfl rfl ?_
  exact .mk ⟨_, by rw [hE, hc2], fun X hX => by
    rw [hC]
    exact ⟨_, _, rfl, ((ha X hX).ext hT (by simp) (fun _ h => .inl h)).wk (fun b h => by simp [h]), ((hb X hX).ext hT (by simp) (fun _ h => .inl h)).wk (fun b h => by simp [h])⟩, hS.own hT (fun b hb => .inr (by simp at hb; omega))⟩
theorem RuleR_any (v : Value) (r : Rul) (w : World) (hv : RulV [] w v r) (h1 : sizeN r.cnd ≤ 1000) (h2 : sizeN r.due ≤ 1000) :
    Calls Tryd.prog 27 #[v] w (Ret (RuleR w r)) := by
  obtain ⟨ki, kd, rfl, hi, hd⟩ := hv
  have hn1 := nest_le_size r.cnd
  have hn2 := nest_le_size r.due
  refine calls_of_WC1 (n := 48) Tryd.func27 rfl rfl rfl ?_
  refine W ?_
  refine WL_eff (OE_box rfl) rfl ?_
  rintro _ w1 ⟨b, rfl, hb, hblk, hS⟩
  replace hblk : Blk w1 b _ (rlC r ki kd) := hblk
  refine W ?_
  refine WL_eff OE_alloc rfl ?_
  rintro _ w2 ⟨b2, rfl, hb2, e2, hT⟩
  have hb2w : w.heap.size ≤ b2 := Nat.le_trans hS.size hb2
  replace hblk := hblk.up hT
  replace hS := hS.trans hT
  clear hT hb hb2
  refine W ?_
  try (refine WL_pure (PR_load_blkA rfl rfl hblk rfl) rfl ?_)
  refine W ?_
  refine WL_eff (OE_call rfl (evs1 rfl) (CheckR_any _ r _ ⟨ki, kd, rfl, hi.up hS, hd.up hS⟩ h1 h2)) rfl ?_
  rintro _ w3 ⟨rfl, hT⟩
  replace hblk := hblk.up hT
  replace e2 := e2.up hT
  replace hS := hS.trans hT
  clear hT
  by_cases hck : checkT r = 0
  case neg =>
    have hE : ruleE r = checkT r := by unfold ruleE; rw [if_pos hck]
    have hC : crF r = crZ := by unfold crF; rw [hE, if_neg hck]
    repeat' (first | refine W1 ?_ | (exfalso; omega) | refine WL_split rfl rfl (fun hg => ?_) (fun hg => ?_) | refine WL_splitB rfl rfl (fun hg => ?_) (fun hg => ?_) | refine WC_cond rfl (fun hc => ?_) (fun hc => ?_) | refine WC_condB rfl (fun hc => ?_) (fun hc => ?_))
    apply WL_build (vs := []) rfl buildCr0 rfl
    refine W ?_
    refine WL_eff0 (OE_storeA (us := crC crZ nilS nilS) rfl rfl rfl rfl (crC_one (q := crZ) (nilSlv [] w) (nilSlv [] w)) e2 rfl) ?_
    rintro _ w9 ⟨hT, e2⟩
    refine W ?_
    refine WQ_retct rfl rfl rfl e2 rfl rfl ?_
    exact .mk ⟨_, by rw [hE] <;> rfl, fun X hX => ⟨nilS, nilS, by rw [hC], by rw [hC]; exact nilSlv X _, by rw [hC]; exact nilSlv X _⟩, hS.own hT (fun b hb => .inr (by simp at hb; omega))⟩
  repeat' (first | refine W1 ?_ | (exfalso; omega) | refine WL_split rfl rfl (fun hg => ?_) (fun hg => ?_) | refine WL_splitB rfl rfl (fun hg => ?_) (fun hg => ?_) | refine WC_cond rfl (fun hc => ?_) (fun hc => ?_) | refine WC_condB rfl (fun hc => ?_) (fun hc => ?_))
  apply WL_pure (PR_loadN_blk (us := ndC r.cnd ki) rfl rfl hblk rfl rfl) rfl
  refine W ?_
  refine WL_eff (OE_call rfl (evs1 rfl) (ExpressionR_any _ r.cnd _ h1 (by omega) ⟨ki, rfl, hi.up hS⟩)) rfl ?_
  rintro _ w4 ⟨va, rfl, ha, hT⟩
  replace ha := fun X (hX : ∀ b ∈ X, b < w.heap.size) => ha (b2 :: X) (fun b hb => by
    rcases List.mem_cons.1 hb with rfl | h
    · exact e2.lt
    · exact Nat.lt_of_lt_of_le (hX b h) hS.size)
  replace hblk := hblk.up hT
  replace e2 := e2.up hT
  replace hS := hS.trans hT
  clear hT
  refine W ?_
  by_cases hc1 : errX r.cnd = 0
  case neg =>
    have hE : ruleE r = errX r.cnd := by unfold ruleE; rw [if_neg (by simp [hck]), if_pos hc1]
    have hC : crF r = crZ := by unfold crF; rw [hE, if_neg hc1]
    repeat' (first | refine W1 ?_ | (exfalso; omega) | refine WL_split rfl rfl (fun hg => ?_) (fun hg => ?_) | refine WL_splitB rfl rfl (fun hg => ?_) (fun hg => ?_) | refine WC_cond rfl (fun hc => ?_) (fun hc => ?_) | refine WC_condB rfl (fun hc => ?_) (fun hc => ?_))
    apply WL_build (vs := []) rfl buildCr0 rfl
    refine W ?_
    refine WL_eff0 (OE_storeA (us := crC crZ nilS nilS) rfl rfl rfl rfl (crC_one (q := crZ) (nilSlv [] w) (nilSlv [] w)) e2 rfl) ?_
    rintro _ w9 ⟨hT, e2⟩
    refine W ?_
    refine WQ_retct rfl rfl rfl e2 rfl rfl ?_
    exact .mk ⟨_, by rw [hE] <;> rfl, fun X hX => ⟨nilS, nilS, by rw [hC], by rw [hC]; exact nilSlv X _, by rw [hC]; exact nilSlv X _⟩, hS.own hT (fun b hb => .inr (by simp at hb; omega))⟩
  rw [if_pos hc1] at ha
  repeat' (first | refine W1 ?_ | (exfalso; omega) | refine WL_split rfl rfl (fun hg => ?_) (fun hg => ?_) | refine WL_splitB rfl rfl (fun hg => ?_) (fun hg => ?_) | refine WC_cond rfl (fun hc => ?_) (fun hc => ?_) | refine WC_condB rfl (fun hc => ?_) (fun hc => ?_))
  apply WL_pure (PR_loadN_blk (us := ndC r.due kd) rfl rfl hblk rfl rfl) rfl
  refine W ?_
  refine WL_eff (OE_call rfl (evs1 rfl) (ExpressionR_any _ r.due _ h2 (by omega) ⟨kd, rfl, hd.up hS⟩)) rfl ?_
  rintro _ w5 ⟨vb, rfl, hb, hT⟩
  replace hb := fun X (hX : ∀ b ∈ X, b < w.heap.size) => hb (b2 :: X) (fun b hb => by
    rcases List.mem_cons.1 hb with rfl | h
    · exact e2.lt
    · exact Nat.lt_of_lt_of_le (hX b h) hS.size)
  replace ha := fun X hX => (ha X hX).up hT
  replace hblk := hblk.up hT
  replace e2 := e2.up hT
  replace hS := hS.trans hT
  clear hT
  refine W ?_
  have hE : ruleE r = errX r.due := by unfold ruleE; rw [if_neg (by simp [hck]), if_neg (by simp [hc1])]
  by_cases hc2 : errX r.due = 0
  case neg =>
    have hC : crF r = crZ := by unfold crF; rw [hE, if_neg hc2]
    repeat' (first | refine W1 ?_ | (exfalso; omega) | refine WL_split rfl rfl (fun hg => ?_) (fun hg => ?_) | refine WL_splitB rfl rfl (fun hg => ?_) (fun hg => ?_) | refine WC_cond rfl (fun hc => ?_) (fun hc => ?_) | refine WC_condB rfl (fun hc => ?_) (fun hc => ?_))
    apply WL_build (vs := []) rfl buildCr0 rfl
    refine W ?_
    refine WL_eff0 (OE_storeA (us := crC crZ nilS nilS) rfl rfl rfl rfl (crC_one (q := crZ) (nilSlv [] w) (nilSlv [] w)) e2 rfl) ?_
    rintro _ w9 ⟨hT, e2⟩
    refine W ?_
    refine WQ_retct rfl rfl rfl e2 rfl rfl ?_
    exact .mk ⟨_, by rw [hE] <;> rfl, fun X hX => ⟨nilS, nilS, by rw [hC], by rw [hC]; exact nilSlv X _, by rw [hC]; exact nilSlv X _⟩, hS.own hT (fun b hb => .inr (by simp at hb; omega))⟩
  rw [if_pos hc2] at hb
  have hC : crF r = ⟨r.name, r.frm, r.on, exprF r.cnd, exprF r.due, r.unl, r.els⟩ := by unfold crF; rw [hE, if_pos hc2]
  obtain ⟨p1, c1, rfl, -⟩ := id (ha [] (by simp))
  obtain ⟨p2, c2, rfl, -⟩ := id (hb [] (by simp))
  repeat' (first | refine W1 ?_ | (exfalso; omega) | refine WL_split rfl rfl (fun hg => ?_) (fun hg => ?_) | refine WL_splitB rfl rfl (fun hg => ?_) (fun hg => ?_) | refine WC_cond rfl (fun hc => ?_) (fun hc => ?_) | refine WC_condB rfl (fun hc => ?_) (fun hc => ?_))
  apply WL_build (vs := [(0, str r.name), (1, .int .i64 r.frm), (2, str r.on), (3, .slice p1 (exprF r.cnd).length c1), (4, .slice p2 (exprF r.due).length c2), (5, str r.unl), (6, str r.els)]) rfl (buildCr ⟨r.name, r.frm, r.on, exprF r.cnd, exprF r.due, r.unl, r.els⟩ _ _ _ _ _ _) rfl
  refine WL_eff0 (OE_storeA (us := crC ⟨r.name, r.frm, r.on, exprF r.cnd, exprF r.due, r.unl, r.els⟩ (.slice p1 (exprF r.cnd).length c1) (.slice p2 (exprF r.due).length c2)) rfl rfl rfl rfl (crC_one (q := ⟨r.name, r.frm, r.on, exprF r.cnd, exprF r.due, r.unl, r.els⟩) (ha [] (by simp)) (hb [] (by simp))) e2 rfl) ?_
  rintro _ w9 ⟨hT, e2⟩
  refine W ?_
  refine WQ_retct rfl rfl rfl e2 rfl rfl ?_
  exact .mk ⟨_, by rw [hE, hc2], fun X hX => by
    rw [hC]
    exact ⟨_, _, rfl, ((ha X hX).ext hT (by simp) (fun _ h => .inl h)).wk (fun b h => by simp [h]), ((hb X hX).ext hT (by simp) (fun _ h => .inl h)).wk (fun b h => by simp [h])⟩, hS.own hT (fun b hb => .inr (by simp at hb; omega))⟩
end Go.Proofs.YtfjmlobgjdmecaaDoor
namespace Go.Proofs.YtfjmlobgjdmecaaDoor
open Go Go.Eng Go.RowKit Go.Proofs Go.ChangeShapes Go.WideShapes Go.Deep
set_option linter.unusedVariables false
theorem Short_any (a : Str) (z : Int) (w : World) (hz : 0 ≤ z) :
    Calls Tryd.prog 28 #[str a, .int .i64 z] w (Ret fun r w' => (∃ b : Str, r = str b) ∧ Stp [] w w') := by
  refine calls_of_WC2 (n := 11) Tryd.func28 rfl rfl rfl ?_
  refine W ?_
  have hmin : min (a.length : Int) z = ((min (a.length : Int) z).toNat : Int) := by omega
  have hml : (min (a.length : Int) z).toNat ≤ a.length := by omega
  refine WL_sliceT_h rfl rfl hmin hml rfl ?_
  refine W ?_
  first | refine WQ_ret1 rfl rfl ?_ | refine WQ_ret2 rfl rfl rfl ?_ | refine WQ_ret3 rfl rfl rfl rfl ?_ | refine WQ_ret0 rfl ?_ | refine WQ_end0 rfl ?_
  exact .mk ⟨⟨_, rfl⟩, Stp.refl _ _⟩
theorem SameR_any (va vb : Value) (q : Cr) (w : World) (ha : CrV [] w va q) (hb : CrV [] w vb q) :
    Calls Tryd.prog 29 #[va, vb] w (Ret fun r w' => r = .bool true ∧ Stp [] w w') := by
  obtain ⟨ka, da, rfl, ha1, ha2⟩ := ha
  obtain ⟨kb, db, rfl, hb1, hb2⟩ := hb
  refine calls_of_WC2 (n := 52) Tryd.func29 rfl rfl rfl ?_
  refine W ?_
  refine WL_eff (OE_box rfl) rfl ?_
  rintro _ w1 ⟨b1, rfl, hb1', e1, hS⟩
  replace e1 : Blk w1 b1 53 (crC q ka da) := e1
  refine W ?_
  refine WL_eff (OE_box rfl) rfl ?_
  rintro _ w2 ⟨b2, rfl, hb2', e2, hT⟩
  replace e2 : Blk w2 b2 53 (crC q kb db) := e2
  replace e1 := e1.up hT
  replace hS := hS.trans hT
  replace ha1 := ha1.up hS
  replace ha2 := ha2.up hS
  replace hb1 := hb1.up hS
  replace hb2 := hb2.up hS
  clear hT hb1' hb2'
  repeat' (first | refine W1 ?_ | (exfalso; omega) | refine WL_split rfl rfl (fun hg => ?_) (fun hg => ?_) | refine WL_splitB rfl rfl (fun hg => ?_) (fun hg => ?_) | refine WC_cond rfl (fun hc => ?_) (fun hc => ?_) | refine WC_condB rfl (fun hc => ?_) (fun hc => ?_))
  all_goals try (exact absurd rfl (by assumption))
  refine WL_eff (OE_call rfl (evs2 rfl rfl) (SameCode_any _ _ q.cnd q.cnd _ ha1 hb1)) rfl ?_
  rintro _ w3 ⟨rfl, hT⟩
  replace e1 := e1.up hT
  replace e2 := e2.up hT
  replace hS := hS.trans hT
  replace ha2 := ha2.up hT
  replace hb2 := hb2.up hT
  clear hT
  rw [decide_eq_true (rfl : q.cnd = q.cnd)]
  repeat' (first | refine W1 ?_ | (exfalso; omega) | refine WL_split rfl rfl (fun hg => ?_) (fun hg => ?_) | refine WL_splitB rfl rfl (fun hg => ?_) (fun hg => ?_) | refine WC_cond rfl (fun hc => ?_) (fun hc => ?_) | refine WC_condB rfl (fun hc => ?_) (fun hc => ?_))
  all_goals try (exact absurd rfl (by assumption))
  refine WL_eff (OE_call rfl (evs2 rfl rfl) (SameCode_any _ _ q.due q.due _ ha2 hb2)) rfl ?_
  rintro _ w3 ⟨rfl, hT⟩
  replace e1 := e1.up hT
  replace e2 := e2.up hT
  replace hS := hS.trans hT
  clear hT
  rw [decide_eq_true (rfl : q.due = q.due)]
  repeat' (first | refine W1 ?_ | (exfalso; omega) | refine WL_split rfl rfl (fun hg => ?_) (fun hg => ?_) | refine WL_splitB rfl rfl (fun hg => ?_) (fun hg => ?_) | refine WC_cond rfl (fun hc => ?_) (fun hc => ?_) | refine WC_condB rfl (fun hc => ?_) (fun hc => ?_))
  all_goals try (exact absurd rfl (by assumption))
  first | refine WQ_ret1 rfl rfl ?_ | refine WQ_ret2 rfl rfl rfl ?_ | refine WQ_ret3 rfl rfl rfl rfl ?_ | refine WQ_ret0 rfl ?_ | refine WQ_end0 rfl ?_
  exact .mk ⟨by simp, hS⟩
theorem rulesLaw (lv : Value) (l : List Int) (a1 a2 : Str) (z m : Int) (w : World) (hF : SlV [] w flds fieldNames) (hm : w.cell? ⟨1, 0, none⟩ = some (.int .i64 m)) (hs : SlV [] w lv l) (hl : ∀ a ∈ l, I64 a) :
    Calls Tryd.prog 7 #[lv, str a1, str a2, .int .i64 z] w (Ret fun r w' => r = .bool true ∧ Stp [] w w') := by
  refine calls_of_WC4 (n := 69) Tryd.func7 rfl rfl rfl ?_
  refine W ?_
  refine WL_eff (OE_call rfl (evs1 rfl) (Rule14_any [] lv l _ hs hl (by simp))) rfl ?_
  rintro _ w1 ⟨r, ⟨ki, kd, rfl, hi, hd⟩, hz1, hz2, hck, hS⟩
  refine WL_eff OE_alloc rfl ?_
  rintro _ w2 ⟨b9, rfl, hb9, e9, hT⟩
  refine WL_eff0 (OE_storeA (us := rlC r ki kd) rfl rfl rfl rfl (rlC_one r hi hd) e9 rfl) ?_
  rintro _ w3 ⟨hT2, e9'⟩
  have h9w : w.heap.size ≤ b9 := Nat.le_trans hS.size hb9
  replace hi := (hi.ext (X' := [b9]) hT (by simp) (fun b h => by simp at h; subst h; exact .inr hb9)).ext hT2 (by simp) (fun _ h => .inl h)
  replace hd := (hd.ext (X' := [b9]) hT (by simp) (fun b h => by simp at h; subst h; exact .inr hb9)).ext hT2 (by simp) (fun _ h => .inl h)
  replace hS := hS.trans (hT.own hT2 (fun b hb => .inr (by simp at hb; omega)))
  clear hT hT2 hb9 e9
  have e9 := e9'
  clear e9'
  refine W ?_
  refine WL_eff (OE_call rfl (evs1 rfl) (Rule_any _ (r) _ ⟨_, _, rfl, hi.wk (by simp), hd.wk (by simp)⟩ (Nat.le_trans hz1 (by decide)) (Nat.le_trans hz2 (by decide)) (hF.up hS) m (hS.cell (by simp) hm))) rfl ?_
  rintro _ w4 ⟨cv, rfl, h10, hT⟩
  obtain ⟨k10, d10, rfl, hk10, hd10⟩ := h10 [b9] (by simp; exact e9.lt)
  clear h10
  replace e9 := e9.up hT
  replace hi := hi.up hT
  replace hd := hd.up hT
  replace hS := hS.trans hT
  clear hT
  refine W ?_
  refine WL_eff OE_alloc rfl ?_
  rintro _ w5 ⟨b10, rfl, hb10, e10', hT⟩
  have n10 : b10 ≠ b9 := by have := e9.lt; omega
  refine WL_eff0 (OE_storeA (us := crC _ k10 d10) rfl rfl rfl rfl (crC_one hk10 hd10) e10' rfl) ?_
  rintro _ w6 ⟨hT2, e10⟩
  replace hT := hT.own hT2 (fun b hb => .inr (by simp at hb; omega))
  clear hT2 e10' hb10
  replace e9 := e9.up hT
  replace hi := hi.up hT
  replace hd := hd.up hT
  replace hk10 := hk10.up hT
  replace hd10 := hd10.up hT
  replace hS := hS.trans hT
  clear hT
  refine W ?_
  refine WL_eff (OE_call rfl (evs1 rfl) (RuleR_any _ (r) _ ⟨_, _, rfl, hi.wk (by simp), hd.wk (by simp)⟩ (Nat.le_trans hz1 (by decide)) (Nat.le_trans hz2 (by decide)))) rfl ?_
  rintro _ w4 ⟨cv, rfl, h12, hT⟩
  obtain ⟨k12, d12, rfl, hk12, hd12⟩ := h12 [b9] (by simp; exact e9.lt)
  clear h12
  replace e9 := e9.up hT
  replace hi := hi.up hT
  replace hd := hd.up hT
  replace hk10 := hk10.up hT
  replace hd10 := hd10.up hT
  replace e10 := e10.up hT
  replace hS := hS.trans hT
  clear hT
  refine W ?_
  refine WL_eff OE_alloc rfl ?_
  rintro _ w5 ⟨b12, rfl, hb12, e12', hT⟩
  have n12 : b12 ≠ b9 := by have := e9.lt; omega
  refine WL_eff0 (OE_storeA (us := crC _ k12 d12) rfl rfl rfl rfl (crC_one hk12 hd12) e12' rfl) ?_
  rintro _ w6 ⟨hT2, e12⟩
  replace hT := hT.own hT2 (fun b hb => .inr (by simp at hb; omega))
  clear hT2 e12' hb12
  replace e9 := e9.up hT
  replace hi := hi.up hT
  replace hd := hd.up hT
  replace hk12 := hk12.up hT
  replace hd12 := hd12.up hT
  replace hk10 := hk10.up hT
  replace hd10 := hd10.up hT
  replace e10 := e10.up hT
  replace hS := hS.trans hT
  clear hT
  refine W ?_
  refine WL_eff (OE_call rfl (evs2 rfl rfl) (Short_any a1 20 _ (by decide))) rfl ?_
  rintro _ w4 ⟨⟨s1, rfl⟩, hT⟩
  replace e9 := e9.up hT
  replace hi := hi.up hT
  replace hd := hd.up hT
  replace hk10 := hk10.up hT
  replace hd10 := hd10.up hT
  replace e10 := e10.up hT
  replace hk12 := hk12.up hT
  replace hd12 := hd12.up hT
  replace e12 := e12.up hT
  replace hS := hS.trans hT
  clear hT
  refine W ?_
  refine WL_eff0 (OE_store1 (o := 0) (u := str s1) rfl rfl rfl rfl e9 (by simp)) ?_
  rintro _ w5 ⟨hT, e9⟩
  replace e9 : Blk w5 b9 50 (rlC ⟨s1, r.frm, r.on, r.cnd, r.due, r.unl, r.els⟩ ki kd) := e9
  replace hi := hi.ext hT (by simp) (fun _ h => .inl h)
  replace hd := hd.ext hT (by simp) (fun _ h => .inl h)
  replace hk10 := hk10.ext hT (by simp) (fun _ h => .inl h)
  replace hd10 := hd10.ext hT (by simp) (fun _ h => .inl h)
  replace e10 := e10.ext hT (by simp; exact n10)
  replace hk12 := hk12.ext hT (by simp) (fun _ h => .inl h)
  replace hd12 := hd12.ext hT (by simp) (fun _ h => .inl h)
  replace e12 := e12.ext hT (by simp; exact n12)
  replace hS := hS.own hT (fun b hb => .inr (by simp at hb; omega))
  clear hT
  refine W ?_
  refine WL_eff (OE_call rfl (evs2 rfl rfl) (Short_any a2 20 _ (by decide))) rfl ?_
  rintro _ w4 ⟨⟨s2, rfl⟩, hT⟩
  replace e9 := e9.up hT
  replace hi := hi.up hT
  replace hd := hd.up hT
  replace hk10 := hk10.up hT
  replace hd10 := hd10.up hT
  replace e10 := e10.up hT
  replace hk12 := hk12.up hT
  replace hd12 := hd12.up hT
  replace e12 := e12.up hT
  replace hS := hS.trans hT
  clear hT
  refine W ?_
  refine WL_eff0 (OE_store1 (o := 11) (u := str s2) rfl rfl rfl rfl e9 (by simp)) ?_
  rintro _ w5 ⟨hT, e9⟩
  replace e9 : Blk w5 b9 50 (rlC ⟨s1, r.frm, r.on, r.cnd, r.due, s2, r.els⟩ ki kd) := e9
  replace hi := hi.ext hT (by simp) (fun _ h => .inl h)
  replace hd := hd.ext hT (by simp) (fun _ h => .inl h)
  replace hk10 := hk10.ext hT (by simp) (fun _ h => .inl h)
  replace hd10 := hd10.ext hT (by simp) (fun _ h => .inl h)
  replace e10 := e10.ext hT (by simp; exact n10)
  replace hk12 := hk12.ext hT (by simp) (fun _ h => .inl h)
  replace hd12 := hd12.ext hT (by simp) (fun _ h => .inl h)
  replace e12 := e12.ext hT (by simp; exact n12)
  replace hS := hS.own hT (fun b hb => .inr (by simp at hb; omega))
  clear hT
  refine W ?_
  refine WL_eff0 (OE_store1 (o := 1) (u := .int .i64 z) rfl rfl rfl rfl e9 (by simp)) ?_
  rintro _ w5 ⟨hT, e9⟩
  replace e9 : Blk w5 b9 50 (rlC ⟨s1, z, r.on, r.cnd, r.due, s2, r.els⟩ ki kd) := e9
  replace hi := hi.ext hT (by simp) (fun _ h => .inl h)
  replace hd := hd.ext hT (by simp) (fun _ h => .inl h)
  replace hk10 := hk10.ext hT (by simp) (fun _ h => .inl h)
  replace hd10 := hd10.ext hT (by simp) (fun _ h => .inl h)
  replace e10 := e10.ext hT (by simp; exact n10)
  replace hk12 := hk12.ext hT (by simp) (fun _ h => .inl h)
  replace hd12 := hd12.ext hT (by simp) (fun _ h => .inl h)
  replace e12 := e12.ext hT (by simp; exact n12)
  replace hS := hS.own hT (fun b hb => .inr (by simp at hb; omega))
  clear hT
  refine W ?_
  refine WL_eff (OE_call rfl (evs1 rfl) (Rule_any _ (⟨s1, z, r.on, r.cnd, r.due, s2, r.els⟩) _ ⟨_, _, rfl, hi.wk (by simp), hd.wk (by simp)⟩ (Nat.le_trans hz1 (by decide)) (Nat.le_trans hz2 (by decide)) (hF.up hS) m (hS.cell (by simp) hm))) rfl ?_
  rintro _ w4 ⟨cv, rfl, h14, hT⟩
  obtain ⟨k14, d14, rfl, hk14, hd14⟩ := h14 [b9] (by simp; exact e9.lt)
  clear h14
  replace e9 := e9.up hT
  replace hi := hi.up hT
  replace hd := hd.up hT
  replace hk10 := hk10.up hT
  replace hd10 := hd10.up hT
  replace e10 := e10.up hT
  replace hk12 := hk12.up hT
  replace hd12 := hd12.up hT
  replace e12 := e12.up hT
  replace hS := hS.trans hT
  clear hT
  refine W ?_
  refine WL_eff OE_alloc rfl ?_
  rintro _ w5 ⟨b14, rfl, hb14, e14', hT⟩
  have n14 : b14 ≠ b9 := by have := e9.lt; omega
  refine WL_eff0 (OE_storeA (us := crC _ k14 d14) rfl rfl rfl rfl (crC_one hk14 hd14) e14' rfl) ?_
  rintro _ w6 ⟨hT2, e14⟩
  replace hT := hT.own hT2 (fun b hb => .inr (by simp at hb; omega))
  clear hT2 e14' hb14
  replace e9 := e9.up hT
  replace hi := hi.up hT
  replace hd := hd.up hT
  replace hk14 := hk14.up hT
  replace hd14 := hd14.up hT
  replace hk10 := hk10.up hT
  replace hd10 := hd10.up hT
  replace e10 := e10.up hT
  replace hk12 := hk12.up hT
  replace hd12 := hd12.up hT
  replace e12 := e12.up hT
  replace hS := hS.trans hT
  clear hT
  refine W ?_
  refine WL_eff (OE_call rfl (evs1 rfl) (RuleR_any _ (⟨s1, z, r.on, r.cnd, r.due, s2, r.els⟩) _ ⟨_, _, rfl, hi.wk (by simp), hd.wk (by simp)⟩ (Nat.le_trans hz1 (by decide)) (Nat.le_trans hz2 (by decide)))) rfl ?_
  rintro _ w4 ⟨cv, rfl, h16, hT⟩
  obtain ⟨k16, d16, rfl, hk16, hd16⟩ := h16 [b9] (by simp; exact e9.lt)
  clear h16
  replace e9 := e9.up hT
  replace hi := hi.up hT
  replace hd := hd.up hT
  replace hk10 := hk10.up hT
  replace hd10 := hd10.up hT
  replace e10 := e10.up hT
  replace hk12 := hk12.up hT
  replace hd12 := hd12.up hT
  replace e12 := e12.up hT
  replace hk14 := hk14.up hT
  replace hd14 := hd14.up hT
  replace e14 := e14.up hT
  replace hS := hS.trans hT
  clear hT
  refine W ?_
  refine WL_eff OE_alloc rfl ?_
  rintro _ w5 ⟨b16, rfl, hb16, e16', hT⟩
  have n16 : b16 ≠ b9 := by have := e9.lt; omega
  refine WL_eff0 (OE_storeA (us := crC _ k16 d16) rfl rfl rfl rfl (crC_one hk16 hd16) e16' rfl) ?_
  rintro _ w6 ⟨hT2, e16⟩
  replace hT := hT.own hT2 (fun b hb => .inr (by simp at hb; omega))
  clear hT2 e16' hb16
  replace e9 := e9.up hT
  replace hi := hi.up hT
  replace hd := hd.up hT
  replace hk16 := hk16.up hT
  replace hd16 := hd16.up hT
  replace hk10 := hk10.up hT
  replace hd10 := hd10.up hT
  replace e10 := e10.up hT
  replace hk12 := hk12.up hT
  replace hd12 := hd12.up hT
  replace e12 := e12.up hT
  replace hk14 := hk14.up hT
  replace hd14 := hd14.up hT
  replace e14 := e14.up hT
  replace hS := hS.trans hT
  clear hT
  generalize crF r = q1 at *
  generalize crF ⟨s1, z, r.on, r.cnd, r.due, s2, r.els⟩ = q2 at *
  refine W ?_
  refine WL_eff (OE_call rfl (evs2 rfl rfl) (SameR_any _ _ q1 _ ⟨_, _, rfl, hk10.wk (by simp), hd10.wk (by simp)⟩ ⟨_, _, rfl, hk12.wk (by simp), hd12.wk (by simp)⟩)) rfl ?_
  rintro _ w7 ⟨rfl, hT⟩
  replace hk14 := hk14.up hT
  replace hd14 := hd14.up hT
  replace e14 := e14.up hT
  replace hk16 := hk16.up hT
  replace hd16 := hd16.up hT
  replace e16 := e16.up hT
  replace hS := hS.trans hT
  clear hT
  repeat' (first | refine W1 ?_ | (exfalso; omega) | refine WL_split rfl rfl (fun hg => ?_) (fun hg => ?_) | refine WL_splitB rfl rfl (fun hg => ?_) (fun hg => ?_) | refine WC_cond rfl (fun hc => ?_) (fun hc => ?_) | refine WC_condB rfl (fun hc => ?_) (fun hc => ?_))
  all_goals try (exact absurd rfl (by assumption))
  refine WL_eff (OE_call rfl (evs2 rfl rfl) (SameR_any _ _ q2 _ ⟨_, _, rfl, hk14.wk (by simp), hd14.wk (by simp)⟩ ⟨_, _, rfl, hk16.wk (by simp), hd16.wk (by simp)⟩)) rfl ?_
  rintro _ w8 ⟨rfl, hT⟩
  replace hS := hS.trans hT
  clear hT
  repeat' (first | refine W1 ?_ | (exfalso; omega) | refine WL_split rfl rfl (fun hg => ?_) (fun hg => ?_) | refine WL_splitB rfl rfl (fun hg => ?_) (fun hg => ?_) | refine WC_cond rfl (fun hc => ?_) (fun hc => ?_) | refine WC_condB rfl (fun hc => ?_) (fun hc => ?_))
  all_goals try (exact absurd rfl (by assumption))
  refine WL_eff (OE_call rfl evs0 (lives15_any _ (hF.up hS))) rfl ?_
  rintro _ w9 ⟨rfl, hT⟩
  refine W ?_
  first | refine WQ_ret1 rfl rfl ?_ | refine WQ_ret2 rfl rfl rfl ?_ | refine WQ_ret3 rfl rfl rfl rfl ?_ | refine WQ_ret0 rfl ?_ | refine WQ_end0 rfl ?_
  exact .mk ⟨rfl, hS.trans hT⟩
end Go.Proofs.YtfjmlobgjdmecaaDoor
/-
slices.Sort at this dump (written by the kit's lay-plain for this claim).
-/
namespace Go.Proofs
open Go.Shelf
def Tryd.lays189_ren : Go.Shelf.Ren := ⟨fun | 189 => 91 | 125 => 120 | 257 => 119 | 128 => 137 | 129 => 138 | 294 => 128 | 295 => 129 | 296 => 130 | 297 => 131 | 298 => 132 | 299 => 133 | 216 => 134 | 300 => 135 | 301 => 136 | 328 => 140 | 329 => 141 | 330 => 142 | 331 => 143 | 332 => 144 | 215 => 145 | 343 => 150 | n => n, fun | 28 => 25 | 3 => 3 | 46 => 138 | 0 => 0 | 51 => 170 | 53 => 137 | 4 => 4 | 183 => 163 | 182 => 162 | 131 => 167 | 5 => 5 | 9 => 9 | 218 => 172 | 222 => 176 | 228 => 179 | 229 => 180 | n => n, fun | n => n⟩
theorem Tryd.lays189 : Go.Proofs.Lays.n189 Tryd.prog Tryd.lays189_ren := {
  mixed := by kernel_rfl
  f125 := Tryd.func120.trans (congrArg some (by kernel_rfl))
  f128 := Tryd.func137.trans (congrArg some (by kernel_rfl))
  f129 := Tryd.func138.trans (congrArg some (by kernel_rfl))
  f189 := Tryd.func91.trans (congrArg some (by kernel_rfl))
  f215 := Tryd.func145.trans (congrArg some (by kernel_rfl))
  f216 := Tryd.func134.trans (congrArg some (by kernel_rfl))
  f257 := Tryd.func119.trans (congrArg some (by kernel_rfl))
  f294 := Tryd.func128.trans (congrArg some (by kernel_rfl))
  f295 := Tryd.func129.trans (congrArg some (by kernel_rfl))
  f296 := Tryd.func130.trans (congrArg some (by kernel_rfl))
  f297 := Tryd.func131.trans (congrArg some (by kernel_rfl))
  f298 := Tryd.func132.trans (congrArg some (by kernel_rfl))
  f299 := Tryd.func133.trans (congrArg some (by kernel_rfl))
  f300 := Tryd.func135.trans (congrArg some (by kernel_rfl))
  f301 := Tryd.func136.trans (congrArg some (by kernel_rfl))
  f328 := Tryd.func140.trans (congrArg some (by kernel_rfl))
  f329 := Tryd.func141.trans (congrArg some (by kernel_rfl))
  f330 := Tryd.func142.trans (congrArg some (by kernel_rfl))
  f331 := Tryd.func143.trans (congrArg some (by kernel_rfl))
  f332 := Tryd.func144.trans (congrArg some (by kernel_rfl))
  f343 := Tryd.func150.trans (congrArg some (by kernel_rfl))
  t0 := Tryd.underlying0
  a0 := Tryd.isAgg0
  z0 := Tryd.sizeOf0
  v0 := Tryd.zeroValue0
  t3 := Tryd.underlying3
  a3 := Tryd.isAgg3
  z3 := Tryd.sizeOf3
  v3 := Tryd.zeroValue3
  t4 := Tryd.underlying4
  a4 := Tryd.isAgg4
  z4 := Tryd.sizeOf4
  v4 := Tryd.zeroValue4
  t5 := Tryd.underlying5
  a5 := Tryd.isAgg5
  z5 := Tryd.sizeOf5
  v5 := Tryd.zeroValue5
  t9 := Tryd.underlying9
  a9 := Tryd.isAgg9
  z9 := Tryd.sizeOf9
  v9 := Tryd.zeroValue9
  t28 := Tryd.underlying25
  a28 := Tryd.isAgg25
  z28 := Tryd.sizeOf25
  v28 := Tryd.zeroValue25
  t46 := Tryd.underlying138
  a46 := Tryd.isAgg138
  z46 := Tryd.sizeOf138
  v46 := Tryd.zeroValue138
  t51 := Tryd.underlying170
  a51 := Tryd.isAgg170
  z51 := Tryd.sizeOf170
  v51 := Tryd.zeroValue170
  t53 := Tryd.underlying137
  a53 := Tryd.isAgg137
  z53 := Tryd.sizeOf137
  v53 := Tryd.zeroValue137
  t131 := Tryd.underlying167
  a131 := Tryd.isAgg167
  z131 := Tryd.sizeOf167
  v131 := Tryd.zeroValue167
  t182 := Tryd.underlying162
  a182 := Tryd.isAgg162
  z182 := Tryd.sizeOf162
  v182 := Tryd.zeroValue162
  t183 := Tryd.underlying163
  a183 := Tryd.isAgg163
  z183 := Tryd.sizeOf163
  v183 := Tryd.zeroValue163
  t218 := Tryd.underlying172
  a218 := Tryd.isAgg172
  z218 := Tryd.sizeOf172
  v218 := Tryd.zeroValue172
  t222 := Tryd.underlying176
  a222 := Tryd.isAgg176
  z222 := Tryd.sizeOf176
  v222 := Tryd.zeroValue176
  t228 := Tryd.underlying179
  a228 := Tryd.isAgg179
  z228 := Tryd.sizeOf179
  v228 := Tryd.zeroValue179
  t229 := Tryd.underlying180
  a229 := Tryd.isAgg180
  z229 := Tryd.sizeOf180
  v229 := Tryd.zeroValue180 }
open Go.Sort Go.RowKit in
theorem Tryd.slices_Sort_int (blk off cap : Nat) (zs : List Int) (w : World) (hH : Holds (Value.int .i64) w blk off zs.toArray) (hblk : blk < w.heap.size) (hsz : zs.length < 4611686018427387904) :
    Calls Tryd.prog 91 #[.slice (some ⟨blk, off, none⟩) zs.length cap] w fun e w' =>
      e = .returned (.tuple #[]) ∧ ∃ n os, w' = grow (putRow (Value.int .i64) (Sort.ahead w n) blk off (zs.mergeSort fun x y => decide (x ≤ y)).toArray) os := Any.slices_Sort_int Tryd.lays189 blk off cap zs w hH hblk hsz
open Go.RowKit Go.Sort in
theorem Tryd.slices_Sort_int_none (p : Option Addr) (cap : Nat) (w : World) :
    Calls Tryd.prog 91 #[.slice p 0 cap] w fun e w' => e = .returned (.tuple #[]) ∧ w' = w := Any.slices_Sort_int_none Tryd.lays189 p cap w
end Go.Proofs
namespace Go.Eng
open Go Go.RowKit
set_option linter.unusedVariables false
variable {X : List Nat} {w w' : World} {base T : Nat} {v : Value} {zs ys : List Int}
/-- an own row of numbers, in the heap's words -/
def RowI (w : World) (base T : Nat) (v : Value) (zs : List Int) : Prop := (v = .slice none 0 0 ∧ zs = []) ∨ ∃ g cap cur, v = .slice (some ⟨g, 0, none⟩) zs.length cap ∧ base ≤ g ∧ w.heap[g]? = some (.cells cur T (0, 0)) ∧ zs.length ≤ cap ∧ cap ≤ maxLen ∧ cur.size = cap ∧ cur.toList.take zs.length = zs.map (Value.int .i64)
theorem Row.toI (h : Row X w base T v zs) : RowI w base T v zs := by
  obtain ⟨css, hl, hr, hx, ho⟩ := h
  have hc : css = zs.map (fun x => [Value.int .i64 x]) := by
    apply List.ext_getElem (by simpa using hl)
    intro i h1 h2
    have : css[i] = [Value.int .i64 zs[i]] := hr i (by omega) h1
    simp [this]
  rcases ho with ⟨rfl, hn⟩ | ⟨g, cap, cur, rfl, hb, hg, hnc, hcm, hcs, ht⟩
  · exact .inl ⟨rfl, List.length_eq_zero_iff.1 hn⟩
  · refine .inr ⟨g, cap, cur, rfl, hb, hg, hnc, hcm, by simpa [GoRep.k, Flat.k] using hcs, ?_⟩
    have h2 : cur.toList.take (zs.length * 1) = css.flatten := ht
    rw [Nat.mul_one] at h2
    rw [h2, hc]
    clear h2 ht hx hr hl hc hnc hg hcs
    induction zs with
    | nil => rfl
    | cons a l ih => simp at ih ⊢; exact ih
theorem RowI.toRow (h : RowI w base T v zs) : Row X w base T v zs := by
  rcases h with ⟨rfl, rfl⟩ | ⟨g, cap, cur, rfl, hb, hg, hnc, hcm, hcs, ht⟩
  · exact Row.nil
  · refine ⟨zs.map (fun x => [Value.int .i64 x]), by simp, fun i h1 h2 => by simp; rfl, ?_⟩
    have hf : (zs.map (fun x => [Value.int .i64 x])).flatten = zs.map (Value.int .i64) := by
      clear ht hnc
      induction zs with
      | nil => rfl
      | cons a l ih => simp at ih ⊢; exact ih
    rw [hf]
    refine ⟨by simp [GoRep.k, Flat.k], .inr ⟨g, cap, cur, rfl, hb, hg, hnc, hcm, by simpa [GoRep.k, Flat.k] using hcs, by simpa [GoRep.k, Flat.k] using ht⟩⟩
theorem compact_spec {zs : List Int} (hs : zs.Pairwise (· ≤ ·)) : (Lib.compact zs).Pairwise (· < ·) ∧ ∀ y, y ∈ Lib.compact zs ↔ y ∈ zs := by
  have hd : ∀ i j, i ≤ j → j < zs.length → zs.toArray[i]! ≤ zs.toArray[j]! := by
    intro i j hij hj
    rcases Nat.lt_or_eq_of_le hij with h | rfl
    · have := List.pairwise_iff_getElem.1 hs i j (by omega) hj h
      simpa [getElem!_pos, hj, show i < zs.length by omega] using this
    · exact Int.le_refl _
  have key : ∀ m, m ≤ zs.length → (Lib.compactUpTo zs.toArray m).Pairwise (· < ·) ∧ ∀ y, y ∈ Lib.compactUpTo zs.toArray m ↔ ∃ i, i < m ∧ y = zs.toArray[i]! := by
    intro m
    induction m with
    | zero => intro _; refine ⟨by simp [Lib.compactUpTo], fun y => by simp [Lib.compactUpTo]⟩
    | succ m ih =>
      intro hm
      obtain ⟨i1, i2⟩ := ih (by omega)
      rw [Lib.compactUpTo_succ]
      by_cases hk : Lib.keeps zs.toArray m = true
      · rw [if_pos hk]
        refine ⟨List.pairwise_append.2 ⟨i1, List.pairwise_singleton _ _, fun a ha b hb => ?_⟩, fun y => ?_⟩
        · obtain ⟨i, hi, rfl⟩ := (i2 a).1 ha
          rw [List.mem_singleton.1 hb]
          have hk' : m = 0 ∨ zs.toArray[m]! ≠ zs.toArray[m - 1]! := by simpa [Lib.keeps] using hk
          have h1 := hd i (m - 1) (by omega) (by omega)
          have h2 := hd (m - 1) m (by omega) (by omega)
          have h3 := hk'.resolve_left (by omega)
          omega
        · rw [List.mem_append, i2, List.mem_singleton]
          constructor
          · rintro (⟨i, hi, rfl⟩ | rfl)
            · exact ⟨i, by omega, rfl⟩
            · exact ⟨m, by omega, rfl⟩
          · rintro ⟨i, hi, rfl⟩
            by_cases hi' : i < m
            · exact .inl ⟨i, hi', rfl⟩
            · exact .inr (by rw [show i = m by omega])
      · rw [if_neg hk, List.append_nil]
        have hk' : ¬ (m = 0 ∨ zs.toArray[m]! ≠ zs.toArray[m - 1]!) := by simpa [Lib.keeps] using hk
        have hm0 : m ≠ 0 := fun h => hk' (.inl h)
        have he : zs.toArray[m]! = zs.toArray[m - 1]! := Decidable.byContradiction fun h => hk' (.inr h)
        refine ⟨i1, fun y => ?_⟩
        rw [i2]
        constructor
        · rintro ⟨i, hi, rfl⟩
          exact ⟨i, by omega, rfl⟩
        · rintro ⟨i, hi, rfl⟩
          by_cases hi' : i < m
          · exact ⟨i, hi', rfl⟩
          · exact ⟨m - 1, by omega, by rw [show i = m by omega, he]⟩
  obtain ⟨h1, h2⟩ := key zs.length (Nat.le_refl _)
  refine ⟨h1, fun y => ?_⟩
  show y ∈ Lib.compactUpTo zs.toArray zs.length ↔ _
  rw [h2]
  constructor
  · rintro ⟨i, hi, rfl⟩
    simp [getElem!_pos, hi]
  · intro h
    obtain ⟨i, hi, rfl⟩ := List.getElem_of_mem h
    exact ⟨i, hi, by simp [getElem!_pos, hi]⟩
/-- two ascending lists of the same members -/
theorem asc_eq : ∀ {a b : List Int}, a.Pairwise (· < ·) → b.Pairwise (· < ·) → (∀ y, y ∈ a ↔ y ∈ b) → a = b
  | [], [], _, _, _ => rfl
  | [], y :: b, _, _, h => absurd ((h y).2 (by simp)) (by simp)
  | x :: a, [], _, _, h => absurd ((h x).1 (by simp)) (by simp)
  | x :: a, y :: b, ha, hb, h => by
    rw [List.pairwise_cons] at ha hb
    have hxy : x = y := by
      have h1 := (h x).1 (by simp)
      have h2 := (h y).2 (by simp)
      rcases List.mem_cons.1 h1 with e | h1
      · exact e
      · rcases List.mem_cons.1 h2 with e | h2
        · exact e.symm
        · have := hb.1 x h1
          have := ha.1 y h2
          omega
    subst hxy
    congr 1
    refine asc_eq ha.2 hb.2 fun z => ?_
    constructor
    · intro hz
      rcases List.mem_cons.1 ((h z).1 (List.mem_cons_of_mem _ hz)) with e | h1
      · have := ha.1 z hz; omega
      · exact h1
    · intro hz
      rcases List.mem_cons.1 ((h z).2 (List.mem_cons_of_mem _ hz)) with e | h1
      · have := hb.1 z hz; omega
      · exact h1
/-- sorted and compacted -/
def sortU (zs : List Int) : List Int := Lib.compact (zs.mergeSort fun x y => decide (x ≤ y))
theorem sortU_spec (zs : List Int) : (sortU zs).Pairwise (· < ·) ∧ ∀ y, y ∈ sortU zs ↔ y ∈ zs := by
  have hp : (zs.mergeSort fun x y => decide (x ≤ y)).Pairwise (· ≤ ·) := by
    have := List.pairwise_mergeSort (le := fun (x y : Int) => decide (x ≤ y)) (fun a b c h1 h2 => by simp at *; omega) (fun a b => by simp; omega) zs
    exact this.imp (fun h => by simpa using h)
  obtain ⟨h1, h2⟩ := compact_spec hp
  exact ⟨h1, fun y => by unfold sortU; rw [h2]; exact (List.mergeSort_perm zs _).mem_iff⟩
theorem put_heap {g q : Nat} {cur : Array Value} (os : Array Obj) (h : w.heap[g]? = some (.cells cur T (0, 0))) (hl : ys.length ≤ cur.size) :
    Stp [g] w (Go.Sort.grow (Go.Sort.putRow (Value.int .i64) (Go.Sort.ahead w q) g 0 ys.toArray) os) ∧
    ∃ cur', (Go.Sort.grow (Go.Sort.putRow (Value.int .i64) (Go.Sort.ahead w q) g 0 ys.toArray) os).heap[g]? = some (.cells cur' T (0, 0)) ∧ cur'.size = cur.size ∧ cur'.toList.take ys.length = ys.map (Value.int .i64) := by
  have hlt : g < w.heap.size := (Array.getElem?_eq_some_iff.1 h).1
  have hh : (Go.Sort.grow (Go.Sort.putRow (Value.int .i64) (Go.Sort.ahead w q) g 0 ys.toArray) os).heap = w.heap.modify g (Go.Sort.onCells (Go.Sort.putCells (Value.int .i64) 0 ys.toArray)) ++ os := rfl
  refine ⟨⟨rfl, rfl, rfl, by rw [hh]; simp, fun b hb hn => ?_⟩, Go.Sort.putCells (Value.int .i64) 0 ys.toArray cur, ?_, by simp [Go.Sort.putCells], ?_⟩
  · rw [hh, Array.getElem?_append_left (by simpa using hb), Array.getElem?_modify, if_neg (by simp at hn; exact fun e => hn e.symm)]
  · rw [hh, Array.getElem?_append_left (by simpa using hlt), Array.getElem?_modify, if_pos rfl, h]
    rfl
  · apply List.ext_getElem
    · simp [Go.Sort.putCells]; omega
    · intro i h1 h2
      have hi : i < ys.length := by simpa using h2
      simp [Go.Sort.putCells, hi]
theorem holds_row {g : Nat} {cur : Array Value} (h : w.heap[g]? = some (.cells cur T (0, 0))) (ht : cur.toList.take zs.length = zs.map (Value.int .i64)) : Go.Sort.Holds (Value.int .i64) w g 0 zs.toArray := by
  intro j hj
  have hj' : j < zs.length := by simpa using hj
  have hc : cur[j]? = some (.int .i64 zs[j]) := by
    have h1 : (cur.toList.take zs.length)[j]? = some (.int .i64 zs[j]) := by rw [ht]; simp [hj']
    rw [List.getElem?_take, if_pos hj'] at h1
    simpa using h1
  constructor
  · simp [World.cell?, h, hc, hj']
  · simp [World.frozen?, h]
end Go.Eng
namespace Go.Proofs.YtfjmlobgjdmecaaDoor
open Go Go.Eng Go.RowKit
set_option linter.unusedVariables false
theorem Sort_row {X : List Nat} {base T : Nat} {v : Value} {zs : List Int} (w : World) (h : Row X w base T v zs) (hsz : zs.length < 4611686018427387904) :
    Calls Tryd.prog 91 #[v] w (Ret fun r w' => r = .tuple #[] ∧ Row X w' base T v (zs.mergeSort fun x y => decide (x ≤ y)) ∧ Stp (ob v) w w') := by
  rcases h.toI with ⟨rfl, rfl⟩ | ⟨g, cap, cur, rfl, hb, hg, hnc, hcm, hcs, ht⟩
  · refine (Tryd.slices_Sort_int_none none 0 w).mono ?_
    rintro _ _ ⟨rfl, rfl⟩
    exact .mk ⟨rfl, by simpa using Row.nil, Stp.refl _ _⟩
  · have hlt : g < w.heap.size := (Array.getElem?_eq_some_iff.1 hg).1
    refine (Tryd.slices_Sort_int g 0 cap zs w (holds_row hg ht) hlt hsz).mono ?_
    rintro _ _ ⟨rfl, q, os, rfl⟩
    have hl : (zs.mergeSort fun x y => decide (x ≤ y)).length = zs.length := List.length_mergeSort zs
    obtain ⟨hS, cur', h1, h2, h3⟩ := put_heap (q := q) os hg (ys := zs.mergeSort fun x y => decide (x ≤ y)) (by omega)
    refine .mk ⟨rfl, RowI.toRow (.inr ⟨g, cap, cur', by rw [hl], hb, h1, by omega, hcm, by omega, h3⟩), hS⟩
theorem Compact_row {X : List Nat} {base T : Nat} {v : Value} {zs : List Int} (w : World) (h : Row X w base T v zs) (hsz : zs.length ≤ 9223372036854775807) :
    Calls Tryd.prog 92 #[v] w (Ret fun r w' => Row X w' base T r (Lib.compact zs) ∧ Stp (ob v) w w' ∧ ob r = ob v) := by
  rcases h.toI with ⟨rfl, rfl⟩ | ⟨g, cap, cur, rfl, hb, hg, hnc, hcm, hcs, ht⟩
  · refine (Tryd.slices_Compact_int_empty none 0 w).mono ?_
    rintro _ _ ⟨rfl, rfl⟩
    exact .mk ⟨by rw [show Lib.compact ([] : List Int) = [] from rfl]; exact Row.nil, Stp.refl _ _, rfl⟩
  · refine (Tryd.slices_Compact_int g 0 cap zs w (holds_row hg ht) hsz hnc).mono ?_
    rintro _ _ ⟨rfl, q, rfl⟩
    have hcl : (Lib.compact zs).length ≤ zs.length := by
      unfold Lib.compact Lib.compactUpTo
      rw [List.length_map]
      exact Nat.le_trans (List.length_filter_le _ _) (by simp)
    have e : ∀ W : World, W = Go.Sort.grow W #[] := fun W => by simp [Go.Sort.grow]
    rw [e (Go.Sort.putRow _ _ _ _ _)]
    obtain ⟨hS, cur', h1, h2, h3⟩ := put_heap (q := q) #[] hg (ys := Lib.compact zs ++ List.replicate (zs.length - (Lib.compact zs).length) 0) (by simp; omega)
    refine .mk ⟨RowI.toRow (.inr ⟨g, cap, cur', rfl, hb, h1, by omega, hcm, by omega, ?_⟩), hS, rfl⟩
    have h4 := congrArg (List.take (Lib.compact zs).length) h3
    rw [List.take_take, Nat.min_eq_left (by simp)] at h4
    rw [h4]
    simp
end Go.Proofs.YtfjmlobgjdmecaaDoor
namespace Go.Proofs.YtfjmlobgjdmecaaDoor
open Go Go.Eng Go.RowKit
set_option linter.unusedVariables false

/-! ### the fields that an expression uses -/
def ownU (k : Int) (s : Str) : List Int := if (fieldF s).2.2 = true ∧ k = 4 then [(fieldF s).1] else []
def usesF : Nd → List Int
  | .mk k n s l => sortU (ownU k s ++ (l.map usesF).flatten)
theorem usesF_eq (k n : Int) (s : Str) (l : List Nd) : usesF (.mk k n s l) = sortU (ownU k s ++ (l.map usesF).flatten) := by rw [usesF]
def usesT (nm : Str) : Nd → Bool
  | .mk k n s l => (decide (k = 4) && decide (s = nm)) || (l.map (usesT nm)).any id
theorem usesT_eq (nm : Str) (k n : Int) (s : Str) (l : List Nd) : usesT nm (.mk k n s l) = ((decide (k = 4) && decide (s = nm)) || (l.map (usesT nm)).any id) := by rw [usesT]
def usesR (x : Nd) : List Int := ((List.range 7).filter (fun i => usesT (fieldNames.getD i []) x)).map (fun (i : Nat) => (i : Int))
theorem field_spec (s : Str) (y : Int) : ((fieldF s).2.2 = true ∧ y = (fieldF s).1) ↔ ∃ i, i < 7 ∧ s = fieldNames.getD i [] ∧ y = (i : Int) := by
  by_cases h0 : s = [100, 97, 121]
  · subst h0
    have e : fieldF [100, 97, 121] = (0, 3, true) := by decide +kernel
    have u : ∀ i, i < 7 → [100, 97, 121] = fieldNames.getD i [] → i = 0 := by decide +kernel
    rw [e]
    constructor
    · rintro ⟨-, rfl⟩; exact ⟨0, by decide, by decide +kernel, rfl⟩
    · rintro ⟨i, hi, he, rfl⟩; rw [u i hi he]; exact ⟨rfl, rfl⟩
  by_cases h1 : s = [115, 101, 114, 118, 101, 100]
  · subst h1
    have e : fieldF [115, 101, 114, 118, 101, 100] = (1, 3, true) := by decide +kernel
    have u : ∀ i, i < 7 → [115, 101, 114, 118, 101, 100] = fieldNames.getD i [] → i = 1 := by decide +kernel
    rw [e]
    constructor
    · rintro ⟨-, rfl⟩; exact ⟨1, by decide, by decide +kernel, rfl⟩
    · rintro ⟨i, hi, he, rfl⟩; rw [u i hi he]; exact ⟨rfl, rfl⟩
  by_cases h2 : s = [101, 120, 116, 114, 97]
  · subst h2
    have e : fieldF [101, 120, 116, 114, 97] = (2, 1, true) := by decide +kernel
    have u : ∀ i, i < 7 → [101, 120, 116, 114, 97] = fieldNames.getD i [] → i = 2 := by decide +kernel
    rw [e]
    constructor
    · rintro ⟨-, rfl⟩; exact ⟨2, by decide, by decide +kernel, rfl⟩
    · rintro ⟨i, hi, he, rfl⟩; rw [u i hi he]; exact ⟨rfl, rfl⟩
  by_cases h3 : s = [98, 121]
  · subst h3
    have e : fieldF [98, 121] = (3, 1, true) := by decide +kernel
    have u : ∀ i, i < 7 → [98, 121] = fieldNames.getD i [] → i = 3 := by decide +kernel
    rw [e]
    constructor
    · rintro ⟨-, rfl⟩; exact ⟨3, by decide, by decide +kernel, rfl⟩
    · rintro ⟨i, hi, he, rfl⟩; rw [u i hi he]; exact ⟨rfl, rfl⟩
  by_cases h4 : s = [116, 111]
  · subst h4
    have e : fieldF [116, 111] = (4, 1, true) := by decide +kernel
    have u : ∀ i, i < 7 → [116, 111] = fieldNames.getD i [] → i = 4 := by decide +kernel
    rw [e]
    constructor
    · rintro ⟨-, rfl⟩; exact ⟨4, by decide, by decide +kernel, rfl⟩
    · rintro ⟨i, hi, he, rfl⟩; rw [u i hi he]; exact ⟨rfl, rfl⟩
  by_cases h5 : s = [99, 111, 117, 114, 116]
  · subst h5
    have e : fieldF [99, 111, 117, 114, 116] = (5, 1, true) := by decide +kernel
    have u : ∀ i, i < 7 → [99, 111, 117, 114, 116] = fieldNames.getD i [] → i = 5 := by decide +kernel
    rw [e]
    constructor
    · rintro ⟨-, rfl⟩; exact ⟨5, by decide, by decide +kernel, rfl⟩
    · rintro ⟨i, hi, he, rfl⟩; rw [u i hi he]; exact ⟨rfl, rfl⟩
  by_cases h6 : s = [97, 109, 111, 117, 110, 116]
  · subst h6
    have e : fieldF [97, 109, 111, 117, 110, 116] = (6, 1, true) := by decide +kernel
    have u : ∀ i, i < 7 → [97, 109, 111, 117, 110, 116] = fieldNames.getD i [] → i = 6 := by decide +kernel
    rw [e]
    constructor
    · rintro ⟨-, rfl⟩; exact ⟨6, by decide, by decide +kernel, rfl⟩
    · rintro ⟨i, hi, he, rfl⟩; rw [u i hi he]; exact ⟨rfl, rfl⟩
  constructor
  · rintro ⟨h, -⟩
    exfalso
    have hn : fieldNames.findIdx? (isS s) = none := List.findIdx?_eq_none_iff.2 fun x hx => by
      simp only [fieldNames, List.mem_cons, List.not_mem_nil, or_false] at hx
      rcases hx with rfl | rfl | rfl | rfl | rfl | rfl | rfl <;> simp only [isS, decide_eq_false_iff_not] <;> intro e <;> first | exact (absurd e h0) | exact (absurd e.symm h0) | exact (absurd e h1) | exact (absurd e.symm h1) | exact (absurd e h2) | exact (absurd e.symm h2) | exact (absurd e h3) | exact (absurd e.symm h3) | exact (absurd e h4) | exact (absurd e.symm h4) | exact (absurd e h5) | exact (absurd e.symm h5) | exact (absurd e h6) | exact (absurd e.symm h6) | skip
    simp [fieldF, idx, hn] at h
  · rintro ⟨i, hi, he, -⟩
    exfalso
    match i, hi with
    | 0, _ => exact h0 he
    | 1, _ => exact h1 he
    | 2, _ => exact h2 he
    | 3, _ => exact h3 he
    | 4, _ => exact h4 he
    | 5, _ => exact h5 he
    | 6, _ => exact h6 he
theorem usesR_asc (x : Nd) : (usesR x).Pairwise (· < ·) := by
  unfold usesR
  rw [List.pairwise_map]
  exact (List.pairwise_lt_range.filter _).imp (fun h => by omega)
theorem mem_usesR (x : Nd) (y : Int) : y ∈ usesR x ↔ ∃ i, i < 7 ∧ usesT (fieldNames.getD i []) x = true ∧ y = (i : Int) := by
  unfold usesR
  simp only [List.mem_map, List.mem_filter, List.mem_range]
  constructor
  · rintro ⟨i, ⟨h1, h2⟩, rfl⟩; exact ⟨i, h1, h2, rfl⟩
  · rintro ⟨i, h1, h2, rfl⟩; exact ⟨i, ⟨h1, h2⟩, rfl⟩
theorem uses_eq (x : Nd) : usesF x = usesR x := by
  induction x using Nd.ind with
  | h k n s l ih =>
  rw [usesF_eq]
  refine asc_eq (sortU_spec _).1 (usesR_asc _) fun y => ?_
  rw [(sortU_spec _).2, mem_usesR, List.mem_append]
  have h1 : y ∈ ownU k s ↔ k = 4 ∧ ∃ i, i < 7 ∧ s = fieldNames.getD i [] ∧ y = (i : Int) := by
    rw [← field_spec]
    unfold ownU
    by_cases h : (fieldF s).2.2 = true ∧ k = 4
    · rw [if_pos h, List.mem_singleton]; exact ⟨fun e => ⟨h.2, h.1, e⟩, fun e => e.2.2⟩
    · rw [if_neg h]; exact ⟨fun e => (by cases e), fun e => absurd ⟨e.2.1, e.1⟩ h⟩
  rw [h1]
  constructor
  · rintro (⟨rfl, i, hi, he, rfl⟩ | h)
    · exact ⟨i, hi, by rw [usesT_eq, ← he]; simp, rfl⟩
    · obtain ⟨z, hz, hy⟩ := List.mem_flatten.1 h
      obtain ⟨c, hc, rfl⟩ := List.mem_map.1 hz
      rw [ih c hc, mem_usesR] at hy
      obtain ⟨i, hi, hu, rfl⟩ := hy
      refine ⟨i, hi, ?_, rfl⟩
      rw [usesT_eq, Bool.or_eq_true]
      exact .inr (List.any_eq_true.2 ⟨_, List.mem_map.2 ⟨c, hc, rfl⟩, hu⟩)
  · rintro ⟨i, hi, hu, rfl⟩
    rw [usesT_eq, Bool.or_eq_true] at hu
    rcases hu with hu | hu
    · simp only [Bool.and_eq_true, decide_eq_true_eq] at hu
      exact .inl ⟨hu.1, i, hi, hu.2, rfl⟩
    · obtain ⟨z, hz, hz2⟩ := List.any_eq_true.1 hu
      obtain ⟨c, hc, rfl⟩ := List.mem_map.1 hz
      exact .inr (List.mem_flatten.2 ⟨usesF c, List.mem_map.2 ⟨c, hc, rfl⟩, by rw [ih c hc, mem_usesR]; exact ⟨i, hi, hz2, rfl⟩⟩)
theorem usesF_len (x : Nd) : (usesF x).length ≤ 7 := by
  rw [uses_eq, usesR, List.length_map]
  exact Nat.le_trans (List.length_filter_le _ _) (by simp)
theorem ownU_len (k : Int) (s : Str) : (ownU k s).length ≤ 1 := by
  unfold ownU
  split <;> simp
theorem flat_len (l : List Nd) : ((l.map usesF).flatten).length ≤ 7 * l.length := by
  induction l with
  | nil => simp
  | cons a l ih =>
    have := usesF_len a
    simp only [List.map_cons, List.flatten_cons, List.length_append, List.length_cons]
    omega
set_option maxHeartbeats 1000000 in
theorem Uses_any (x : Nd) : ∀ (v : Value) (w : World), okN x = true → NdV [] w v x → SlV [] w flds fieldNames →
    Calls Tryd.prog 50 #[v] w (Ret fun r w' => Row [] w' w.heap.size 3 r (usesF x) ∧ Stp [] w w') := by
  induction x using Nd.ind with
  | h k n s l ih =>
  intro v w hok hx hF
  obtain ⟨hk1, hk2⟩ := (okN_iff _).1 hok
  replace hk1 : l.length ≤ 1000 := hk1
  replace hk2 : ∀ y ∈ l, okN y = true := hk2
  obtain ⟨kv, rfl, hs⟩ := hx
  replace hs : SlV [] w kv l := hs
  have hmax := hs.max
  have hsW := hs
  have hol := ownU_len k s
  rw [usesF_eq]
  refine calls_of_WC1 (n := 42) Tryd.func50 rfl rfl rfl ?_
  refine W ?_
  refine WL_eff (OE_box rfl) rfl ?_
  rintro _ w1 ⟨b, rfl, hbb, hblk, hS⟩
  replace hblk : Blk w1 b _ (ndL k n s kv) := hblk
  replace hs := hs.up hS
  refine W ?_
  refine WL_eff (OE_call rfl (evs1 rfl) (Field_any s _ (hF.up hS))) rfl ?_
  rintro _ w2 ⟨rfl, hT⟩
  replace hblk := hblk.up hT
  replace hs := hs.up hT
  replace hS := hS.trans hT
  clear hT hbb
  have hwb := hS.size
  refine W ?_
  refine WL_cutQ (σ := Bool) (fun q => [(1, .pointer (some ⟨b, 0, none⟩)), (3, .slice none 0 0), (4, .int .i64 (fieldF s).1), (21, .bool q)]) (fun q w' => w' = w2 ∧ q = decide ((fieldF s).2.2 = true ∧ k = 4)) ?_ ?_
  · repeat' (first | refine W1 ?_ | (exfalso; omega) | refine WL_split rfl rfl (fun hg => ?_) (fun hg => ?_) | refine WL_splitB rfl rfl (fun hg => ?_) (fun hg => ?_) | refine WC_cond rfl (fun hc => ?_) (fun hc => ?_) | refine WC_condB rfl (fun hc => ?_) (fun hc => ?_))
    all_goals exact WQ_cut _ ⟨rfl, rfl, rfl, rfl, trivial⟩ ⟨rfl, by simp [*]⟩
  rintro q _ ⟨rfl, hq⟩
  try dsimp only at hq ⊢
  refine W ?_
  refine WC_cutQ (σ := Value) (fun u => [(1, .pointer (some ⟨b, 0, none⟩)), (3, u)]) (fun u w' => Row [] w' w.heap.size 3 u (ownU k s) ∧ Blk w' b 24 (ndL k n s kv) ∧ SlV [] w' kv l ∧ Stp [] w w') ?_ ?_
  · cases q with
    | false =>
      have hno : ownU k s = [] := by unfold ownU; rw [if_neg (by simpa using hq.symm)]
      repeat' (first | refine W1 ?_ | (exfalso; omega) | refine WL_split rfl rfl (fun hg => ?_) (fun hg => ?_) | refine WL_splitB rfl rfl (fun hg => ?_) (fun hg => ?_) | refine WC_cond rfl (fun hc => ?_) (fun hc => ?_) | refine WC_condB rfl (fun hc => ?_) (fun hc => ?_))
      exact WQ_cut (.slice none 0 0) ⟨rfl, rfl, trivial⟩ ⟨by rw [hno]; exact Row.nil, hblk, hs, hS⟩
    | true =>
      have hno : ownU k s = [(fieldF s).1] := by unfold ownU; rw [if_pos (by simpa using hq.symm)]
      repeat' (first | refine W1 ?_ | (exfalso; omega) | refine WL_split rfl rfl (fun hg => ?_) (fun hg => ?_) | refine WL_splitB rfl rfl (fun hg => ?_) (fun hg => ?_) | refine WC_cond rfl (fun hc => ?_) (fun hc => ?_) | refine WC_condB rfl (fun hc => ?_) (fun hc => ?_))
      refine WL_eff (OE_buildSlice (vs := [(0, .int .i64 (fieldF s).1)]) rfl (buildSI1 _)) rfl ?_
      rintro bv w4 hN
      have hbv : SlV (ob (.slice none 0 0) ++ []) w4 bv [(fieldF s).1] := hN.slv (fun b hb => by simp [ob] at hb) rfl rfl (by simp [maxLen])
      have hS4 := NewSl.stp hN
      clear hN
      replace hblk := hblk.up hS4
      replace hs := hs.up hS4
      replace hS := hS.trans hS4
      have hwb4 := hS.size
      refine WL_eff (OE_append (X := []) (base := w.heap.size) rfl (by decide) rfl rfl Row.nil hbv (by simp only [List.length_cons, List.length_nil]; omega) (by simp only [List.length_cons, List.length_nil, maxLen]; omega) hwb4) rfl ?_
      rintro u' w5 ⟨hrow', hS5, _⟩
      replace hS5 : Stp [] w4 w5 := hS5.mono (by simp [ob])
      refine W ?_
      exact WQ_cut u' ⟨rfl, rfl, trivial⟩ ⟨by rw [hno]; exact hrow', hblk.up hS5, hs.up hS5, hS.trans hS5⟩
  clear hq q hS hblk hs hwb
  rintro u w1 ⟨hrow, hblk, hs, hS⟩
  try dsimp only at hrow hblk hs hS ⊢
  refine W ?_
  refine WC_loop (σ := Nat × Value) (fun q => [(3, q.2), (27, kv), (28, .int .i64 (l.length : Int)), (29, .int .i64 (q.1 : Int))]) (fun q w' => q.1 ≤ l.length ∧ Row [] w' w.heap.size 3 q.2 (ownU k s ++ ((l.take q.1).map usesF).flatten) ∧ Stp [] w w') (fun q => l.length - q.1) (0, u) ⟨rfl, rfl, rfl, rfl, trivial⟩ ⟨Nat.zero_le _, by simpa using hrow, hS⟩ ?_
  clear hs hblk hrow hS
  rintro ⟨j, u⟩ w2 ⟨hj, hrow, hS⟩
  dsimp only at hj hrow ⊢
  have hs := hsW.up hS
  have hfl := flat_len (l.take j)
  rw [List.length_take, Nat.min_eq_left hj] at hfl
  by_cases hlt : j < l.length
  · obtain ⟨kv2, hs2, hc2⟩ := hs.nd hlt
    have hul := usesF_len l[j]
    repeat' (first | refine W1 ?_ | (exfalso; omega) | refine WL_split rfl rfl (fun hg => ?_) (fun hg => ?_) | refine WL_splitB rfl rfl (fun hg => ?_) (fun hg => ?_) | refine WC_cond rfl (fun hc => ?_) (fun hc => ?_) | refine WC_condB rfl (fun hc => ?_) (fun hc => ?_))
    apply WL_pure (PR_loadNd rfl rfl hs hlt hc2) rfl
    refine WL_eff OE_alloc rfl ?_
    rintro _ w4 ⟨b8, rfl, hb8, e8, hT⟩
    refine WL_eff0 (OE_storeA (us := ndC l[j] kv2) rfl rfl rfl rfl (ndC_one hs2) e8 rfl) ?_
    rintro _ w5 ⟨hT2, e8'⟩
    have hT3 := hT.own hT2 (fun b hb => .inr (by simp at hb; omega))
    clear hT hT2 e8 hb8
    replace hrow := hrow.up hT3
    replace hS := hS.trans hT3
    replace hs2 := hs2.up hT3
    clear hT3
    refine W ?_
    refine WL_eff (OE_call rfl (evs1 rfl) (ih l[j] (List.getElem_mem hlt) _ _ (hk2 _ (List.getElem_mem hlt)) ⟨kv2, rfl, hs2⟩ (hF.up hS))) rfl ?_
    rintro rv w6 ⟨hr, hS6⟩
    have hrv : SlV (ob u ++ []) w6 rv (usesF l[j]) := (RowI.toRow hr.toI).slv (fun b hb => (hrow.ob_le b (by simpa using hb)).2)
    replace hrow := hrow.up hS6
    replace hS := hS.trans hS6
    have hbase := hS.size
    clear hr hS6
    refine WL_eff (OE_append (X := []) (base := w.heap.size) rfl (by decide) rfl rfl hrow hrv (by rw [List.length_append]; omega) (by rw [List.length_append]; simp only [maxLen]; omega) hbase) rfl ?_
    rintro u' w7 ⟨hrow', hS7, _⟩
    refine W ?_
    refine WQ_loop (j + 1, u') ⟨rfl, rfl, rfl, rfl, trivial⟩ ⟨by dsimp only; omega, ?_, hS.own hS7 (fun c hc => .inr (hrow.ob_le c hc).1)⟩ (by dsimp only; omega)
    · dsimp only
      rw [List.take_succ_eq_append_getElem hlt, List.map_append, List.flatten_append, ← List.append_assoc]
      simpa using hrow'
  · have hje : j = l.length := by omega
    subst hje
    rw [List.take_length] at hrow hfl
    have hll : (ownU k s ++ (l.map usesF).flatten).length ≤ 8000 := by rw [List.length_append]; omega
    repeat' (first | refine W1 ?_ | (exfalso; omega) | refine WL_split rfl rfl (fun hg => ?_) (fun hg => ?_) | refine WL_splitB rfl rfl (fun hg => ?_) (fun hg => ?_) | refine WC_cond rfl (fun hc => ?_) (fun hc => ?_) | refine WC_condB rfl (fun hc => ?_) (fun hc => ?_))
    refine WL_eff (OE_call rfl (evs1 rfl) (Sort_row _ hrow (by omega))) rfl ?_
    rintro _ w7 ⟨rfl, hrow2, hS7⟩
    refine W ?_
    refine WL_eff (OE_call rfl (evs1 rfl) (Compact_row _ hrow2 (by rw [List.length_mergeSort]; omega))) rfl ?_
    rintro rv w8 ⟨hrow3, hS8, hob⟩
    refine W ?_
    first | refine WQ_ret1 rfl rfl ?_ | refine WQ_ret2 rfl rfl rfl ?_ | refine WQ_ret3 rfl rfl rfl rfl ?_ | refine WQ_ret0 rfl ?_ | refine WQ_end0 rfl ?_
    exact .mk ⟨hrow3, (hS.own hS7 (fun c hc => .inr (hrow.ob_le c hc).1)).own hS8 (fun c hc => .inr (hrow.ob_le c hc).1)⟩
end Go.Proofs.YtfjmlobgjdmecaaDoor
namespace Go.Proofs.YtfjmlobgjdmecaaDoor
open Go Go.Eng Go.RowKit
set_option linter.unusedVariables false

theorem fieldL_any (s : Str) (w : World) : Calls Tryd.prog 85 #[str s] w (Ret fun r w' => (∀ X, NdV X w' r (.mk 4 0 s [])) ∧ Stp [] w w') := by
  refine calls_of_WC1 (n := 5) Tryd.func85 rfl rfl rfl ?_
  refine W ?_
  refine WL_eff OE_alloc rfl ?_
  rintro _ w1 ⟨b, rfl, hb, hblk, hS⟩
  refine W ?_
  apply WL_build (vs := [(0, .int .i64 4), (2, str s)]) rfl (buildN02 _ _) rfl
  refine WL_eff0 (OE_storeA (us := ndC (.mk 4 0 s []) (.slice none 0 0)) rfl rfl rfl rfl (ndC_one (x := .mk 4 0 s []) (nilSlv (α := Nd) [] w)) hblk rfl) ?_
  rintro _ w2 ⟨hS2, hblk2⟩
  refine W ?_
  refine WQ_retc rfl rfl rfl hblk2 rfl ?_
  exact .mk ⟨fun X => ⟨_, rfl, nilSlv _ _⟩, hS.own hS2 (fun c hc => .inr (by simp at hc; omega))⟩
theorem numberL_any (n : Int) (w : World) : Calls Tryd.prog 42 #[.int .i64 n] w (Ret fun r w' => (∀ X, NdV X w' r (.mk 1 n [] [])) ∧ Stp [] w w') := by
  refine calls_of_WC1 (n := 5) Tryd.func42 rfl rfl rfl ?_
  refine W ?_
  refine WL_eff OE_alloc rfl ?_
  rintro _ w1 ⟨b, rfl, hb, hblk, hS⟩
  refine W ?_
  apply WL_build (vs := [(0, .int .i64 1), (1, .int .i64 n)]) rfl (buildN01 _ _) rfl
  refine WL_eff0 (OE_storeA (us := ndC (.mk 1 n [] []) (.slice none 0 0)) rfl rfl rfl rfl (ndC_one (x := .mk 1 n [] []) (nilSlv (α := Nd) [] w)) hblk rfl) ?_
  rintro _ w2 ⟨hS2, hblk2⟩
  refine W ?_
  refine WQ_retc rfl rfl rfl hblk2 rfl ?_
  exact .mk ⟨fun X => ⟨_, rfl, nilSlv _ _⟩, hS.own hS2 (fun c hc => .inr (by simp at hc; omega))⟩
theorem twoL_any (X : List Nat) (k : Int) (s : Str) (u0 u1 : Value) (y0 y1 : Nd) (w : World) (hX0 : ∀ b ∈ X, b < w.heap.size) (h0 : NdV X w u0 y0) (h1 : NdV X w u1 y1) :
    Calls Tryd.prog 41 #[.int .i64 k, str s, u0, u1] w (Ret fun r w' => NdV X w' r (.mk k 0 s [y0, y1]) ∧ Stp [] w w') := by
  obtain ⟨k0, rfl, s0⟩ := h0
  obtain ⟨k1, rfl, s1⟩ := h1
  obtain ⟨p0, c0, rfl, -⟩ := id s0
  obtain ⟨p1, c1, rfl, -⟩ := id s1
  refine calls_of_WC4 (n := 15) Tryd.func41 rfl rfl rfl ?_
  refine W ?_
  refine WL_eff (OE_box rfl) rfl ?_
  rintro _ w1 ⟨b1, rfl, hb1, e1, hS1⟩
  replace e1 : Blk w1 b1 _ (ndC y0 (.slice p0 y0.kids.length c0)) := e1
  refine WL_eff (OE_box rfl) rfl ?_
  rintro _ w2 ⟨b2, rfl, hb2, e2, hS2⟩
  replace e2 : Blk w2 b2 _ (ndC y1 (.slice p1 y1.kids.length c1)) := e2
  replace e1 := e1.up hS2
  have hS := hS1.trans hS2
  clear hS1 hS2
  refine WL_eff OE_alloc rfl ?_
  rintro _ w3 ⟨b, rfl, hb, hblk, hS3⟩
  replace e1 := e1.up hS3
  replace e2 := e2.up hS3
  have hz := hS.size
  replace hS := hS.trans hS3
  have hw : ∀ c ∈ b :: X, c ∈ X ∨ w.heap.size ≤ c := fun c hc => by
    rcases List.mem_cons.1 hc with rfl | h
    · right; omega
    · exact .inl h
  replace s0 := s0.ext hS (by simp) hw
  replace s1 := s1.ext hS (by simp) hw
  have hX : ∀ c ∈ b :: X, c < w3.heap.size := fun c hc => by
    rcases List.mem_cons.1 hc with rfl | h
    · exact hblk.lt
    · exact Nat.lt_of_lt_of_le (hX0 c h) hS.size
  refine W ?_
  refine WL_eff (OE_buildSlice (vs := [(0, .agg #[.int .i64 y0.kind, .int .i64 y0.num, str y0.word, .slice p0 y0.kids.length c0]), (1, .agg #[.int .i64 y1.kind, .int .i64 y1.num, str y1.word, .slice p1 y1.kids.length c1])]) rfl (buildSN2 _ _ _ _ _ _ _ _ _ _ _ _)) rfl ?_
  rintro bv w4 hN
  have hbv : SlV (b :: X) w4 bv [y0, y1] := hN.slvG (css := [ndC y0 _, ndC y1 _]) hX rfl rfl rfl (reps2 s0 s1) (by simp [maxLen])
  have hT := NewSl.stp hN
  clear hN
  replace hblk := hblk.up hT
  replace hS := hS.trans hT
  obtain ⟨p, c, rfl, -⟩ := id hbv
  apply WL_build (vs := [(0, .int .i64 k), (2, str s), (3, .slice p 2 c)]) rfl (buildN023 _ _ _ _ _) rfl
  have hlt := hblk.lt
  refine WL_eff0 (OE_storeA (us := ndC (.mk k 0 s [y0, y1]) (.slice p 2 c)) rfl rfl rfl rfl (ndC_one (x := .mk k 0 s [y0, y1]) hbv) hblk rfl) ?_
  rintro _ w5 ⟨hS5, hblk5⟩
  refine W ?_
  refine WQ_retc rfl rfl rfl hblk5 rfl ?_
  refine .mk ⟨⟨_, rfl, ?_⟩, hS.own hS5 (fun c hc => .inr (by simp at hc; omega))⟩
  exact (hbv.ext (X' := b :: X) hS5 (by simp) (fun _ h => .inl h)).wk (fun c hc => List.mem_cons_of_mem _ hc)
theorem SameIntsL_any (va vb : Value) (xs ys : List Int) (w : World) (ha : SlV [] w va xs) (hb : SlV [] w vb ys) :
    Calls Tryd.prog 49 #[va, vb] w (Ret fun r w' => r = .bool (decide (xs = ys)) ∧ Stp [] w w') := by
  have hma := ha.max
  have hmb := hb.max
  refine calls_of_WC2 (n := 26) Tryd.func49 rfl rfl rfl ?_
  refine W ?_
  by_cases hl : xs.length = ys.length
  case neg =>
    repeat' (first | refine W1 ?_ | (exfalso; omega) | refine WL_split rfl rfl (fun hg => ?_) (fun hg => ?_) | refine WL_splitB rfl rfl (fun hg => ?_) (fun hg => ?_) | refine WC_cond rfl (fun hc => ?_) (fun hc => ?_) | refine WC_condB rfl (fun hc => ?_) (fun hc => ?_))
    first | refine WQ_ret1 rfl rfl ?_ | refine WQ_ret2 rfl rfl rfl ?_ | refine WQ_ret3 rfl rfl rfl rfl ?_ | refine WQ_ret0 rfl ?_ | refine WQ_end0 rfl ?_
    exact .mk ⟨by congr 1; rw [eq_comm, decide_eq_false_iff_not]; exact fun h => hl (by rw [h]), Stp.refl _ _⟩
  repeat' (first | refine W1 ?_ | (exfalso; omega) | refine WL_split rfl rfl (fun hg => ?_) (fun hg => ?_) | refine WL_splitB rfl rfl (fun hg => ?_) (fun hg => ?_) | refine WC_cond rfl (fun hc => ?_) (fun hc => ?_) | refine WC_condB rfl (fun hc => ?_) (fun hc => ?_))
  refine WC_loop (σ := Nat) (fun j => [(0, va), (1, vb), (4, .bool false), (5, .int .i64 (j : Int))]) (fun j w' => j ≤ xs.length ∧ Stp [] w w' ∧ ∀ i (h : i < xs.length), i < j → xs[i] = ys[i]'(by omega)) (fun j => xs.length - j) 0 ⟨rfl, rfl, rfl, rfl, trivial⟩ ⟨Nat.zero_le _, Stp.refl _ _, fun i _ h => absurd h (Nat.not_lt_zero _)⟩ ?_
  rintro j w2 ⟨hj, hS, heq⟩
  try dsimp only at hj heq ⊢
  replace ha := ha.up hS
  replace hb := hb.up hS
  by_cases hlt : j < xs.length
  · have hlt' : j < ys.length := by omega
    repeat' (first | refine W1 ?_ | (exfalso; omega) | refine WL_split rfl rfl (fun hg => ?_) (fun hg => ?_) | refine WL_splitB rfl rfl (fun hg => ?_) (fun hg => ?_) | refine WC_cond rfl (fun hc => ?_) (fun hc => ?_) | refine WC_condB rfl (fun hc => ?_) (fun hc => ?_))
    refine WC_drawn 9 [] [] [(0, 0), (1, 0), (2, 0), (3, 1), (4, 0), (5, 0), (6, 0), (7, 1), (8, 0)] rfl mixed (by kernel_rfl) (by kernel_rfl) (by kernel_rfl) (fun w1 hS1 => ?_)
    replace ha := ha.up hS1
    replace hb := hb.up hS1
    replace hS := hS.trans hS1
    refine D ?_
    by_cases he : xs[j] = ys[j]
    · have hk : ∀ i (h : i < xs.length), i < j + 1 → xs[i] = ys[i]'(by omega) := fun i h hi => by
        by_cases hij : i = j
        · subst hij; exact he
        · exact heq i h (by omega)
      repeat' (first | refine W1 ?_ | (exfalso; omega) | refine WL_split rfl rfl (fun hg => ?_) (fun hg => ?_) | refine WL_splitB rfl rfl (fun hg => ?_) (fun hg => ?_) | refine WC_cond rfl (fun hc => ?_) (fun hc => ?_) | refine WC_condB rfl (fun hc => ?_) (fun hc => ?_))
      exact WQ_loop (j + 1) ⟨rfl, rfl, rfl, rfl, trivial⟩ ⟨hlt, hS, hk⟩ (Nat.sub_lt_sub_left hlt (Nat.lt_succ_self j))
    · repeat' (first | refine W1 ?_ | (exfalso; omega) | refine WL_split rfl rfl (fun hg => ?_) (fun hg => ?_) | refine WL_splitB rfl rfl (fun hg => ?_) (fun hg => ?_) | refine WC_cond rfl (fun hc => ?_) (fun hc => ?_) | refine WC_condB rfl (fun hc => ?_) (fun hc => ?_))
      first | refine WQ_ret1 rfl rfl ?_ | refine WQ_ret2 rfl rfl rfl ?_ | refine WQ_ret3 rfl rfl rfl rfl ?_ | refine WQ_ret0 rfl ?_ | refine WQ_end0 rfl ?_
      exact .mk ⟨by congr 1; rw [eq_comm, decide_eq_false_iff_not]; exact fun h => he (by simp [h]), hS⟩
  · have hje : j = xs.length := by omega
    subst hje
    repeat' (first | refine W1 ?_ | (exfalso; omega) | refine WL_split rfl rfl (fun hg => ?_) (fun hg => ?_) | refine WL_splitB rfl rfl (fun hg => ?_) (fun hg => ?_) | refine WC_cond rfl (fun hc => ?_) (fun hc => ?_) | refine WC_condB rfl (fun hc => ?_) (fun hc => ?_))
    first | refine WQ_ret1 rfl rfl ?_ | refine WQ_ret2 rfl rfl rfl ?_ | refine WQ_ret3 rfl rfl rfl rfl ?_ | refine WQ_ret0 rfl ?_ | refine WQ_end0 rfl ?_
    exact .mk ⟨by congr 1; rw [eq_comm, decide_eq_true_eq]; exact List.ext_getElem hl (fun i h h' => heq i h h), hS⟩
abbrev yA : Nd := .mk 7 0 [100, 97, 121, 115] [(.mk 4 0 [100, 97, 121] []), (.mk 1 3 [] [])]
abbrev yB : Nd := .mk 6 0 [62] [.mk 10 0 [98, 101, 116, 119, 101, 101, 110] [(.mk 4 0 [100, 97, 121] []), (.mk 4 0 [115, 101, 114, 118, 101, 100] [])], (.mk 1 14 [] [])]
abbrev yC1 : Nd := .mk 6 0 [61] [(.mk 4 0 [101, 120, 116, 114, 97] []), (.mk 1 0 [] [])]
abbrev yC : Nd := .mk 9 0 [] [yC1, (.mk 4 0 [100, 97, 121] []), (.mk 4 0 [115, 101, 114, 118, 101, 100] [])]
abbrev yD : Nd := .mk 6 0 [43] [(.mk 4 0 [97, 109, 111, 117, 110, 116] []), (.mk 4 0 [100, 97, 121] [])]
theorem ofA : nestN yA = 2 ∧ typeT yA = 3 ∧ sizeN yA = 3 := by
  refine ⟨?_, ?_, ?_⟩
  · simp only [yA, nestN_eq, Nd.kids, List.map_cons, List.map_nil]; rfl
  · simp only [yA, typeT_eq, Nd.kids, Nd.kind, Nd.num, Nd.word, List.map_cons, List.map_nil]; rfl
  · simp only [yA, sizeN_eq, Nd.kids, List.map_cons, List.map_nil]; rfl
theorem ofB : nestN yB = 3 ∧ typeT yB = 2 ∧ sizeN yB = 5 := by
  refine ⟨?_, ?_, ?_⟩
  · simp only [yB, nestN_eq, Nd.kids, List.map_cons, List.map_nil]; rfl
  · simp only [yB, typeT_eq, Nd.kids, Nd.kind, Nd.num, Nd.word, List.map_cons, List.map_nil]; rfl
  · simp only [yB, sizeN_eq, Nd.kids, List.map_cons, List.map_nil]; rfl
theorem ofC : nestN yC = 3 ∧ typeT yC = 3 ∧ sizeN yC = 6 := by
  refine ⟨?_, ?_, ?_⟩
  · simp only [yC, yC1, nestN_eq, Nd.kids, List.map_cons, List.map_nil]; rfl
  · simp only [yC, yC1, typeT_eq, Nd.kids, Nd.kind, Nd.num, Nd.word, List.map_cons, List.map_nil]; rfl
  · simp only [yC, yC1, sizeN_eq, Nd.kids, List.map_cons, List.map_nil]; rfl
theorem ofD : nestN yD = 2 ∧ typeT yD = 0 ∧ sizeN yD = 3 := by
  refine ⟨?_, ?_, ?_⟩
  · simp only [yD, nestN_eq, Nd.kids, List.map_cons, List.map_nil]; rfl
  · simp only [yD, typeT_eq, Nd.kids, Nd.kind, Nd.num, Nd.word, List.map_cons, List.map_nil]; rfl
  · simp only [yD, sizeN_eq, Nd.kids, List.map_cons, List.map_nil]; rfl
theorem usC : usesF yC = [0, 1, 2] := by
  rw [uses_eq]
  simp only [yC, yC1, usesR, usesT_eq, List.map_cons, List.map_nil, List.any_cons, List.any_nil]
  decide +kernel
abbrev rlA : Rul := ⟨[97, 110, 115, 119, 101, 114], 0, [109, 111, 116, 105, 111, 110], yB, yA, [], []⟩
abbrev rlB : Rul := ⟨[97, 110, 115, 119, 101, 114], 0, [109, 111, 116, 105, 111, 110], yB, (.mk 1 3 [] []), [], []⟩
abbrev rlD : Rul := ⟨[105, 102], 0, [109, 111, 116, 105, 111, 110], yB, yA, [], []⟩
theorem ckA : checkT rlA = 0 := by
  have h : namesT rlA = true := by decide +kernel
  have m1 : mustF yB 2 = 0 := by unfold mustF; rw [ofB.1, ofB.2.1]; decide
  have m2 : mustF yA 3 = 0 := by unfold mustF; rw [ofA.1, ofA.2.1]; decide
  unfold checkT
  rw [h, if_neg (by decide), if_neg (by decide), m1, m2]
  decide
theorem ckB : checkT rlB = 21 := by
  have h : namesT rlB = true := by decide +kernel
  have m1 : mustF yB 2 = 0 := by unfold mustF; rw [ofB.1, ofB.2.1]; decide
  have m2 : mustF (.mk 1 3 [] []) 3 = 21 := by unfold mustF; rw [show nestN (.mk 1 3 [] []) = 1 by simp only [nestN_eq, Nd.kids, List.map_nil]; rfl, show typeT (.mk 1 3 [] []) = 1 by simp only [typeT_eq, Nd.kids, Nd.kind, Nd.num, Nd.word, List.map_nil]; rfl]; decide
  unfold checkT
  rw [h, if_neg (by decide), if_neg (by decide), m1, m2]
  decide
theorem ckD : checkT rlD = 7 := by
  have h : namesT rlD = false := by decide +kernel
  unfold checkT
  rw [if_pos h]
theorem fdS : fieldF [115, 101, 114, 118, 101, 100] = (1, 3, true) := by decide +kernel
end Go.Proofs.YtfjmlobgjdmecaaDoor
namespace Go.Proofs.YtfjmlobgjdmecaaDoor
open Go Go.Eng Go.RowKit
set_option linter.unusedVariables false
theorem OfL_any (v : Value) (x : Nd) (t e : Int) (w : World) (hx : NdV [] w v x) (hF : SlV [] w flds fieldNames) (h1 : (if nestN x ≤ 12 then typeT x else 0) = t) (h2 : (if nestN x ≤ 12 then (if typeT x = 0 then 21 else 0) else 2) = e) :
    Calls Tryd.prog 36 #[v] w (Ret fun r w' => r = .tuple #[.int .i64 t, .int .i64 e] ∧ Stp [] w w') := by
  have := Of_any [] [] v x w hx hF
  rw [h1, h2] at this
  exact this
theorem CheckL_any (v : Value) (r : Rul) (c m : Int) (w : World) (hv : RulV [] w v r) (hF : SlV [] w flds fieldNames) (hm : w.cell? ⟨1, 0, none⟩ = some (.int .i64 m)) (h : checkT r = c) :
    Calls Tryd.prog 44 #[v] w (Ret fun r' w' => r' = .int .i64 c ∧ Stp [] w w') := by
  have := Check14_any v r m w hv hF hm
  rw [h] at this
  exact this
theorem buildN03 (k : Int) (p : Option Addr) (l c : Nat) (w : World) : (Instr.build 24 #[(0, .int .i64 k), (3, .slice p l c)]).run Tryd.prog w = .ok (.agg #[.int .i64 k, .int .i64 0, str [], .slice p l c]) w := by kernel_rfl
theorem buildRlL (a o : Str) (k n : Int) (s : Str) (p : Option Addr) (l c : Nat) (k' n' : Int) (s' : Str) (p' : Option Addr) (l' c' : Nat) (w : World) : (Instr.build 50 #[(0, str a), (2, str o), (3, .agg #[.int .i64 k, .int .i64 n, str s, .slice p l c]), (4, .agg #[.int .i64 k', .int .i64 n', str s', .slice p' l' c'])]).run Tryd.prog w = .ok (.agg #[str a, .int .i64 0, str o, .int .i64 k, .int .i64 n, str s, .slice p l c, .int .i64 k', .int .i64 n', str s', .slice p' l' c', str [], str []]) w := by kernel_rfl
set_option maxHeartbeats 2000000 in
theorem lives14_any (m : Int) (w : World) (hF : SlV [] w flds fieldNames) (hm : w.cell? ⟨1, 0, none⟩ = some (.int .i64 m)) : Calls Tryd.prog 38 #[] w (Ret fun r w' => r = .bool true ∧ Stp [] w w') := by
  have oA1 : (if nestN yA ≤ 12 then typeT yA else 0) = 3 := by rw [ofA.1, ofA.2.1]; decide
  have oA2 : (if nestN yA ≤ 12 then (if typeT yA = 0 then 21 else 0) else 2) = (0 : Int) := by rw [ofA.1, ofA.2.1]; decide
  have oB1 : (if nestN yB ≤ 12 then typeT yB else 0) = 2 := by rw [ofB.1, ofB.2.1]; decide
  have oB2 : (if nestN yB ≤ 12 then (if typeT yB = 0 then 21 else 0) else 2) = (0 : Int) := by rw [ofB.1, ofB.2.1]; decide
  have oC1 : (if nestN yC ≤ 12 then typeT yC else 0) = 3 := by rw [ofC.1, ofC.2.1]; decide
  have oC2 : (if nestN yC ≤ 12 then (if typeT yC = 0 then 21 else 0) else 2) = (0 : Int) := by rw [ofC.1, ofC.2.1]; decide
  have oD1 : (if nestN yD ≤ 12 then typeT yD else 0) = 0 := by rw [ofD.1, ofD.2.1]; decide
  have oD2 : (if nestN yD ≤ 12 then (if typeT yD = 0 then 21 else 0) else 2) = (21 : Int) := by rw [ofD.1, ofD.2.1]; decide
  have kC : okN yC = true := okN_of_size yC (by rw [ofC.2.2]; decide)
  have hS : Stp [] w w := Stp.refl _ _
  refine calls_of_WC0 (n := 127) Tryd.func38 rfl rfl ?_
  refine W ?_
  refine WL_eff (OE_call rfl (evs1 rfl) (fieldL_any [100, 97, 121] _)) rfl ?_
  rintro rh1 w1 ⟨h1, hT⟩
  replace hS := hS.trans hT
  clear hT
  replace h1 := h1 []
  refine W ?_
  refine WL_eff (OE_call rfl (evs1 rfl) (numberL_any 3 _)) rfl ?_
  rintro rh2 w1 ⟨h2, hT⟩
  replace h1 := h1.up hT
  replace hS := hS.trans hT
  clear hT
  replace h2 := h2 []
  refine W ?_
  refine WL_eff (OE_call rfl (evs4 rfl rfl rfl rfl) (twoL_any [] 7 [100, 97, 121, 115] _ _ _ _ _ (by simp) h1 h2)) rfl ?_
  rintro rh3 w1 ⟨h3, hT⟩
  replace hS := hS.trans hT
  clear hT
  clear h1 h2
  obtain ⟨ka, rfl, sa⟩ := h3
  refine W ?_
  refine WL_eff OE_alloc rfl ?_
  rintro _ w1 ⟨b1, rfl, hb, e0, hT⟩
  refine WL_eff0 (OE_storeA (us := ndC yA ka) rfl rfl rfl rfl (ndC_one sa) e0 rfl) ?_
  rintro _ w2 ⟨hT2, e1⟩
  replace hT := hT.own hT2 (fun b hb => .inr (by simp at hb; omega))
  clear hT2 e0 hb
  replace sa := sa.up hT
  replace hS := hS.trans hT
  clear hT
  refine W ?_
  refine WL_eff (OE_call rfl (evs1 rfl) (fieldL_any [100, 97, 121] _)) rfl ?_
  rintro rh1 w1 ⟨h1, hT⟩
  replace sa := sa.up hT
  replace e1 := e1.up hT
  replace hS := hS.trans hT
  clear hT
  replace h1 := h1 []
  refine W ?_
  refine WL_eff (OE_call rfl (evs1 rfl) (fieldL_any [115, 101, 114, 118, 101, 100] _)) rfl ?_
  rintro rh2 w1 ⟨h2, hT⟩
  replace sa := sa.up hT
  replace e1 := e1.up hT
  replace h1 := h1.up hT
  replace hS := hS.trans hT
  clear hT
  replace h2 := h2 []
  refine W ?_
  refine WL_eff (OE_call rfl (evs4 rfl rfl rfl rfl) (twoL_any [] 10 [98, 101, 116, 119, 101, 101, 110] _ _ _ _ _ (by simp) h1 h2)) rfl ?_
  rintro rh3 w1 ⟨h3, hT⟩
  replace sa := sa.up hT
  replace e1 := e1.up hT
  replace hS := hS.trans hT
  clear hT
  clear h1 h2
  refine W ?_
  refine WL_eff (OE_call rfl (evs1 rfl) (numberL_any 14 _)) rfl ?_
  rintro rh4 w1 ⟨h4, hT⟩
  replace sa := sa.up hT
  replace e1 := e1.up hT
  replace h3 := h3.up hT
  replace hS := hS.trans hT
  clear hT
  replace h4 := h4 []
  refine W ?_
  refine WL_eff (OE_call rfl (evs4 rfl rfl rfl rfl) (twoL_any [] 6 [62] _ _ _ _ _ (by simp) h3 h4)) rfl ?_
  rintro rh5 w1 ⟨h5, hT⟩
  replace sa := sa.up hT
  replace e1 := e1.up hT
  replace hS := hS.trans hT
  clear hT
  clear h3 h4
  obtain ⟨kb, rfl, sb⟩ := h5
  refine W ?_
  refine WL_eff OE_alloc rfl ?_
  rintro _ w1 ⟨b2, rfl, hb, e0, hT⟩
  refine WL_eff0 (OE_storeA (us := ndC yB kb) rfl rfl rfl rfl (ndC_one sb) e0 rfl) ?_
  rintro _ w2 ⟨hT2, e2⟩
  replace hT := hT.own hT2 (fun b hb => .inr (by simp at hb; omega))
  clear hT2 e0 hb
  replace sa := sa.up hT
  replace e1 := e1.up hT
  replace sb := sb.up hT
  replace hS := hS.trans hT
  clear hT
  refine W ?_
  refine WL_eff (OE_call rfl (evs1 rfl) (fieldL_any [101, 120, 116, 114, 97] _)) rfl ?_
  rintro rh1 w1 ⟨h1, hT⟩
  replace sa := sa.up hT
  replace e1 := e1.up hT
  replace sb := sb.up hT
  replace e2 := e2.up hT
  replace hS := hS.trans hT
  clear hT
  replace h1 := h1 []
  refine W ?_
  refine WL_eff (OE_call rfl (evs1 rfl) (numberL_any 0 _)) rfl ?_
  rintro rh2 w1 ⟨h2, hT⟩
  replace sa := sa.up hT
  replace e1 := e1.up hT
  replace sb := sb.up hT
  replace e2 := e2.up hT
  replace h1 := h1.up hT
  replace hS := hS.trans hT
  clear hT
  replace h2 := h2 []
  refine W ?_
  refine WL_eff (OE_call rfl (evs4 rfl rfl rfl rfl) (twoL_any [] 6 [61] _ _ _ _ _ (by simp) h1 h2)) rfl ?_
  rintro rh3 w1 ⟨h3, hT⟩
  replace sa := sa.up hT
  replace e1 := e1.up hT
  replace sb := sb.up hT
  replace e2 := e2.up hT
  replace hS := hS.trans hT
  clear hT
  clear h1 h2
  refine W ?_
  refine WL_eff (OE_call rfl (evs1 rfl) (fieldL_any [100, 97, 121] _)) rfl ?_
  rintro rh4 w1 ⟨h4, hT⟩
  replace sa := sa.up hT
  replace e1 := e1.up hT
  replace sb := sb.up hT
  replace e2 := e2.up hT
  replace h3 := h3.up hT
  replace hS := hS.trans hT
  clear hT
  replace h4 := h4 []
  refine W ?_
  refine WL_eff (OE_call rfl (evs1 rfl) (fieldL_any [115, 101, 114, 118, 101, 100] _)) rfl ?_
  rintro rh5 w1 ⟨h5, hT⟩
  replace sa := sa.up hT
  replace e1 := e1.up hT
  replace sb := sb.up hT
  replace e2 := e2.up hT
  replace h3 := h3.up hT
  replace h4 := h4.up hT
  replace hS := hS.trans hT
  clear hT
  replace h5 := h5 []
  obtain ⟨k0, rfl, s0⟩ := h3
  obtain ⟨k1, rfl, s1⟩ := h4
  obtain ⟨k2, rfl, s2⟩ := h5
  obtain ⟨p0, c0, rfl, -⟩ := id s0
  obtain ⟨p1, c1, rfl, -⟩ := id s1
  obtain ⟨p2, c2, rfl, -⟩ := id s2
  refine W ?_
  refine WL_eff (OE_buildSlice (vs := [(0, .agg #[.int .i64 6, .int .i64 0, str [61], .slice p0 2 c0]), (1, .agg #[.int .i64 4, .int .i64 0, str [100, 97, 121], .slice p1 0 c1]), (2, .agg #[.int .i64 4, .int .i64 0, str [115, 101, 114, 118, 101, 100], .slice p2 0 c2])]) rfl (buildSN3 _ _ _ _ _ _ _ _ _ _ _ _ _ _ _ _ _ _)) rfl ?_
  rintro bv w3 hN
  have hbv : SlV [] w3 bv yC.kids := hN.slvG (X := []) (css := [ndC yC1 _, ndC (.mk 4 0 [100, 97, 121] []) _, ndC (.mk 4 0 [115, 101, 114, 118, 101, 100] []) _]) (by simp) rfl rfl rfl (reps3 (y0 := yC1) (y1 := .mk 4 0 [100, 97, 121] []) (y2 := .mk 4 0 [115, 101, 114, 118, 101, 100] []) s0 s1 s2) (show 3 ≤ maxLen by decide)
  have hT := NewSl.stp hN
  clear hN s0 s1 s2
  replace sa := sa.up hT
  replace e1 := e1.up hT
  replace sb := sb.up hT
  replace e2 := e2.up hT
  replace hS := hS.trans hT
  clear hT
  obtain ⟨p, c, rfl, -⟩ := id hbv
  apply WL_build (vs := [(0, .int .i64 9), (3, .slice p 3 c)]) rfl (buildN03 _ _ _ _) rfl
  refine W ?_
  refine WL_eff OE_alloc rfl ?_
  rintro _ w1 ⟨b3, rfl, hb, e0, hT⟩
  refine WL_eff0 (OE_storeA (us := ndC yC (.slice p 3 c)) rfl rfl rfl rfl (ndC_one (x := yC) hbv) e0 rfl) ?_
  rintro _ w2 ⟨hT2, e3⟩
  replace hT := hT.own hT2 (fun b hb => .inr (by simp at hb; omega))
  clear hT2 e0 hb
  replace sa := sa.up hT
  replace e1 := e1.up hT
  replace sb := sb.up hT
  replace e2 := e2.up hT
  replace hbv := hbv.up hT
  replace hS := hS.trans hT
  clear hT
  refine W ?_
  refine WL_eff (OE_call rfl (evs1 rfl) (OfL_any _ yA _ _ _ ⟨ka, rfl, sa⟩ (hF.up hS) oA1 oA2)) rfl ?_
  rintro _ w1 ⟨rfl, hT⟩
  replace sa := sa.up hT
  replace e1 := e1.up hT
  replace sb := sb.up hT
  replace e2 := e2.up hT
  replace hbv := hbv.up hT
  replace e3 := e3.up hT
  replace hS := hS.trans hT
  clear hT
  refine W ?_
  refine WL_eff (OE_call rfl (evs1 rfl) (OfL_any _ yB _ _ _ ⟨kb, rfl, sb⟩ (hF.up hS) oB1 oB2)) rfl ?_
  rintro _ w1 ⟨rfl, hT⟩
  replace sa := sa.up hT
  replace e1 := e1.up hT
  replace sb := sb.up hT
  replace e2 := e2.up hT
  replace hbv := hbv.up hT
  replace e3 := e3.up hT
  replace hS := hS.trans hT
  clear hT
  refine W ?_
  refine WL_eff (OE_call rfl (evs1 rfl) (fieldL_any [97, 109, 111, 117, 110, 116] _)) rfl ?_
  rintro rh1 w1 ⟨h1, hT⟩
  replace sa := sa.up hT
  replace e1 := e1.up hT
  replace sb := sb.up hT
  replace e2 := e2.up hT
  replace hbv := hbv.up hT
  replace e3 := e3.up hT
  replace hS := hS.trans hT
  clear hT
  replace h1 := h1 []
  refine W ?_
  refine WL_eff (OE_call rfl (evs1 rfl) (fieldL_any [100, 97, 121] _)) rfl ?_
  rintro rh2 w1 ⟨h2, hT⟩
  replace sa := sa.up hT
  replace e1 := e1.up hT
  replace sb := sb.up hT
  replace e2 := e2.up hT
  replace hbv := hbv.up hT
  replace e3 := e3.up hT
  replace h1 := h1.up hT
  replace hS := hS.trans hT
  clear hT
  replace h2 := h2 []
  refine W ?_
  refine WL_eff (OE_call rfl (evs4 rfl rfl rfl rfl) (twoL_any [] 6 [43] _ _ _ _ _ (by simp) h1 h2)) rfl ?_
  rintro rh3 w1 ⟨h3, hT⟩
  replace sa := sa.up hT
  replace e1 := e1.up hT
  replace sb := sb.up hT
  replace e2 := e2.up hT
  replace hbv := hbv.up hT
  replace e3 := e3.up hT
  replace hS := hS.trans hT
  clear hT
  clear h1 h2
  refine W ?_
  refine WL_eff (OE_call rfl (evs1 rfl) (OfL_any _ yD _ _ _ h3 (hF.up hS) oD1 oD2)) rfl ?_
  rintro _ w1 ⟨rfl, hT⟩
  replace sa := sa.up hT
  replace e1 := e1.up hT
  replace sb := sb.up hT
  replace e2 := e2.up hT
  replace hbv := hbv.up hT
  replace e3 := e3.up hT
  replace hS := hS.trans hT
  clear hT
  clear h3
  refine W ?_
  refine WL_eff (OE_call rfl (evs1 rfl) (OfL_any _ yC _ _ _ ⟨_, rfl, hbv⟩ (hF.up hS) oC1 oC2)) rfl ?_
  rintro _ w1 ⟨rfl, hT⟩
  replace sa := sa.up hT
  replace e1 := e1.up hT
  replace sb := sb.up hT
  replace e2 := e2.up hT
  replace hbv := hbv.up hT
  replace e3 := e3.up hT
  replace hS := hS.trans hT
  clear hT
  obtain ⟨p0, c0, rfl, -⟩ := id sb
  obtain ⟨p1, c1, rfl, -⟩ := id sa
  refine W ?_
  apply WL_build (vs := [(0, str [97, 110, 115, 119, 101, 114]), (2, str [109, 111, 116, 105, 111, 110]), (3, .agg (ndC yB (.slice p0 2 c0)).toArray), (4, .agg (ndC yA (.slice p1 2 c1)).toArray)]) rfl (buildRlL _ _ _ _ _ _ _ _ _ _ _ _ _ _) rfl
  refine W ?_
  refine WL_eff OE_alloc rfl ?_
  rintro _ w1 ⟨b12, rfl, hb, e0, hT⟩
  refine WL_eff0 (OE_storeA (us := rlC rlA (.slice p0 2 c0) (.slice p1 2 c1)) rfl rfl rfl rfl (rlC_one rlA sb sa) e0 rfl) ?_
  rintro _ w2 ⟨hT2, e12⟩
  replace hT := hT.own hT2 (fun b hb => .inr (by simp at hb; omega))
  clear hT2 e0 hb
  replace sa := sa.up hT
  replace e1 := e1.up hT
  replace sb := sb.up hT
  replace e2 := e2.up hT
  replace hbv := hbv.up hT
  replace e3 := e3.up hT
  replace hS := hS.trans hT
  clear hT
  refine W ?_
  refine WL_eff OE_alloc rfl ?_
  rintro _ w1 ⟨b13, rfl, hb, e0, hT⟩
  refine WL_eff0 (OE_storeA (us := rlC rlA (.slice p0 2 c0) (.slice p1 2 c1)) rfl rfl rfl rfl (rlC_one rlA sb sa) e0 rfl) ?_
  rintro _ w2 ⟨hT2, e13⟩
  have hbw : w.heap.size ≤ b13 := Nat.le_trans hS.size hb
  replace sa := (sa.ext (X' := [b13]) hT (by simp) (fun b h => by simp at h; subst h; exact .inr hb)).ext hT2 (by simp) (fun _ h => .inl h)
  have n1 : b1 ≠ b13 := by have := e1.lt; omega
  replace sb := (sb.ext (X' := [b13]) hT (by simp) (fun b h => by simp at h; subst h; exact .inr hb)).ext hT2 (by simp) (fun _ h => .inl h)
  have n2 : b2 ≠ b13 := by have := e2.lt; omega
  replace hbv := (hbv.ext (X' := [b13]) hT (by simp) (fun b h => by simp at h; subst h; exact .inr hb)).ext hT2 (by simp) (fun _ h => .inl h)
  have n3 : b3 ≠ b13 := by have := e3.lt; omega
  have n12 : b12 ≠ b13 := by have := e12.lt; omega
  replace hT := hT.own hT2 (fun b hb => .inr (by simp at hb; omega))
  replace e1 := e1.up hT
  replace e2 := e2.up hT
  replace e3 := e3.up hT
  replace e12 := e12.up hT
  replace hS := hS.trans hT
  clear hT hT2 e0 hb
  refine W ?_
  refine WL_eff (OE_call rfl (evs1 rfl) (numberL_any 3 _)) rfl ?_
  rintro _ w1 ⟨h1, hT⟩
  obtain ⟨k3, rfl, s3⟩ := h1 [b13]
  clear h1
  replace sa := sa.up hT
  replace e1 := e1.up hT
  replace sb := sb.up hT
  replace e2 := e2.up hT
  replace hbv := hbv.up hT
  replace e3 := e3.up hT
  replace e12 := e12.up hT
  replace e13 := e13.up hT
  replace hS := hS.trans hT
  clear hT
  refine W ?_
  refine WL_eff0 (OE_store (us := ndC (.mk 1 3 [] []) k3) rfl rfl rfl rfl (ndC_one (x := .mk 1 3 [] []) s3) e13 (by simp)) ?_
  rintro _ w2 ⟨hT, e13⟩
  replace e13 : Blk w2 b13 50 (rlC rlB (.slice p0 2 c0) k3) := e13
  replace sa := (sa.ext hT (by simp) (fun _ h => .inl h)).wk (X' := []) (by simp)
  replace e1 := e1.ext hT (by simp; exact n1)
  replace sb := (sb.ext hT (by simp) (fun _ h => .inl h)).wk (X' := []) (by simp)
  replace e2 := e2.ext hT (by simp; exact n2)
  replace hbv := (hbv.ext hT (by simp) (fun _ h => .inl h)).wk (X' := []) (by simp)
  replace e3 := e3.ext hT (by simp; exact n3)
  replace e12 := e12.ext hT (by simp; exact n12)
  replace s3 := (s3.ext hT (by simp) (fun _ h => .inl h)).wk (X' := []) (by simp)
  replace hS := hS.own hT (fun b hb => .inr (by simp at hb; omega))
  clear hT hbw
  refine W ?_
  refine WL_eff OE_alloc rfl ?_
  rintro _ w1 ⟨b14, rfl, hb, e0, hT⟩
  refine WL_eff0 (OE_storeA (us := rlC rlA (.slice p0 2 c0) (.slice p1 2 c1)) rfl rfl rfl rfl (rlC_one rlA sb sa) e0 rfl) ?_
  rintro _ w2 ⟨hT2, e14⟩
  have hbw : w.heap.size ≤ b14 := Nat.le_trans hS.size hb
  replace sa := (sa.ext (X' := [b14]) hT (by simp) (fun b h => by simp at h; subst h; exact .inr hb)).ext hT2 (by simp) (fun _ h => .inl h)
  have n1 : b1 ≠ b14 := by have := e1.lt; omega
  replace sb := (sb.ext (X' := [b14]) hT (by simp) (fun b h => by simp at h; subst h; exact .inr hb)).ext hT2 (by simp) (fun _ h => .inl h)
  have n2 : b2 ≠ b14 := by have := e2.lt; omega
  replace hbv := (hbv.ext (X' := [b14]) hT (by simp) (fun b h => by simp at h; subst h; exact .inr hb)).ext hT2 (by simp) (fun _ h => .inl h)
  have n3 : b3 ≠ b14 := by have := e3.lt; omega
  have n12 : b12 ≠ b14 := by have := e12.lt; omega
  have n13 : b13 ≠ b14 := by have := e13.lt; omega
  replace s3 := (s3.ext (X' := [b14]) hT (by simp) (fun b h => by simp at h; subst h; exact .inr hb)).ext hT2 (by simp) (fun _ h => .inl h)
  replace hT := hT.own hT2 (fun b hb => .inr (by simp at hb; omega))
  replace e1 := e1.up hT
  replace e2 := e2.up hT
  replace e3 := e3.up hT
  replace e12 := e12.up hT
  replace e13 := e13.up hT
  replace hS := hS.trans hT
  clear hT hT2 e0 hb
  refine W ?_
  refine WL_eff0 (OE_store1 (o := 0) (u := str [105, 102]) rfl rfl rfl rfl e14 (by simp)) ?_
  rintro _ w2 ⟨hT, e14⟩
  replace e14 : Blk w2 b14 50 (rlC rlD (.slice p0 2 c0) (.slice p1 2 c1)) := e14
  replace sa := (sa.ext hT (by simp) (fun _ h => .inl h)).wk (X' := []) (by simp)
  replace e1 := e1.ext hT (by simp; exact n1)
  replace sb := (sb.ext hT (by simp) (fun _ h => .inl h)).wk (X' := []) (by simp)
  replace e2 := e2.ext hT (by simp; exact n2)
  replace hbv := (hbv.ext hT (by simp) (fun _ h => .inl h)).wk (X' := []) (by simp)
  replace e3 := e3.ext hT (by simp; exact n3)
  replace e12 := e12.ext hT (by simp; exact n12)
  replace e13 := e13.ext hT (by simp; exact n13)
  replace s3 := (s3.ext hT (by simp) (fun _ h => .inl h)).wk (X' := []) (by simp)
  replace hS := hS.own hT (fun b hb => .inr (by simp at hb; omega))
  clear hT hbw
  refine W ?_
  refine WL_eff (OE_call rfl (evs1 rfl) (Field_any [115, 101, 114, 118, 101, 100] _ (hF.up hS))) rfl ?_
  rintro _ w1 ⟨rfl, hT⟩
  rw [fdS]
  replace sa := sa.up hT
  replace e1 := e1.up hT
  replace sb := sb.up hT
  replace e2 := e2.up hT
  replace hbv := hbv.up hT
  replace e3 := e3.up hT
  replace e12 := e12.up hT
  replace e13 := e13.up hT
  replace s3 := s3.up hT
  replace e14 := e14.up hT
  replace hS := hS.trans hT
  clear hT
  repeat' (first | refine W1 ?_ | (exfalso; omega) | refine WL_split rfl rfl (fun hg => ?_) (fun hg => ?_) | refine WL_splitB rfl rfl (fun hg => ?_) (fun hg => ?_) | refine WC_cond rfl (fun hc => ?_) (fun hc => ?_) | refine WC_condB rfl (fun hc => ?_) (fun hc => ?_))
  all_goals try (exfalso; first | (apply absurd rfl; assumption) | (simp at hc; done) | (simp at hg; done))
  repeat' (first | refine W1 ?_ | (exfalso; omega) | refine WL_split rfl rfl (fun hg => ?_) (fun hg => ?_) | refine WL_splitB rfl rfl (fun hg => ?_) (fun hg => ?_) | refine WC_cond rfl (fun hc => ?_) (fun hc => ?_) | refine WC_condB rfl (fun hc => ?_) (fun hc => ?_))
  all_goals try (exact absurd rfl (by assumption))
  refine WL_eff (OE_call rfl (evs1 rfl) (Uses_any yC _ _ kC ⟨_, rfl, hbv⟩ (hF.up hS))) rfl ?_
  rintro ru w1 ⟨hr, hT⟩
  rw [usC] at hr
  have hru := hr.slv0
  clear hr
  replace sa := sa.up hT
  replace e1 := e1.up hT
  replace sb := sb.up hT
  replace e2 := e2.up hT
  replace hbv := hbv.up hT
  replace e3 := e3.up hT
  replace e12 := e12.up hT
  replace e13 := e13.up hT
  replace s3 := s3.up hT
  replace e14 := e14.up hT
  replace hS := hS.trans hT
  clear hT
  refine W ?_
  refine WL_eff (OE_buildSlice (vs := [(0, .int .i64 0), (1, .int .i64 1), (2, .int .i64 2)]) rfl (buildSI3 _ _ _)) rfl ?_
  rintro rv w1 hN
  have hrv := hN.slv (X := []) (ys := [(0 : Int), 1, 2]) (by simp) rfl rfl (by simp [maxLen])
  have hT := NewSl.stp hN
  clear hN
  replace sa := sa.up hT
  replace e1 := e1.up hT
  replace sb := sb.up hT
  replace e2 := e2.up hT
  replace hbv := hbv.up hT
  replace e3 := e3.up hT
  replace e12 := e12.up hT
  replace e13 := e13.up hT
  replace s3 := s3.up hT
  replace e14 := e14.up hT
  replace hru := hru.up hT
  replace hS := hS.trans hT
  clear hT
  refine W ?_
  refine WL_eff (OE_call rfl (evs2 rfl rfl) (SameIntsL_any _ _ _ _ _ hru hrv)) rfl ?_
  rintro _ w1 ⟨rfl, hT⟩
  clear hru hrv
  replace sa := sa.up hT
  replace e1 := e1.up hT
  replace sb := sb.up hT
  replace e2 := e2.up hT
  replace hbv := hbv.up hT
  replace e3 := e3.up hT
  replace e12 := e12.up hT
  replace e13 := e13.up hT
  replace s3 := s3.up hT
  replace e14 := e14.up hT
  replace hS := hS.trans hT
  clear hT
  rw [decide_eq_true (rfl : [(0 : Int), 1, 2] = [0, 1, 2])]
  repeat' (first | refine W1 ?_ | (exfalso; omega) | refine WL_split rfl rfl (fun hg => ?_) (fun hg => ?_) | refine WL_splitB rfl rfl (fun hg => ?_) (fun hg => ?_) | refine WC_cond rfl (fun hc => ?_) (fun hc => ?_) | refine WC_condB rfl (fun hc => ?_) (fun hc => ?_))
  all_goals try (exact absurd rfl (by assumption))
  refine WL_eff (OE_call rfl (evs1 rfl) (CheckL_any _ rlA 0 m _ ⟨_, _, rfl, sb, sa⟩ (hF.up hS) (hS.cell (by simp) hm) ckA)) rfl ?_
  rintro _ w1 ⟨rfl, hT⟩
  replace sa := sa.up hT
  replace e1 := e1.up hT
  replace sb := sb.up hT
  replace e2 := e2.up hT
  replace hbv := hbv.up hT
  replace e3 := e3.up hT
  replace e12 := e12.up hT
  replace e13 := e13.up hT
  replace s3 := s3.up hT
  replace e14 := e14.up hT
  replace hS := hS.trans hT
  clear hT
  repeat' (first | refine W1 ?_ | (exfalso; omega) | refine WL_split rfl rfl (fun hg => ?_) (fun hg => ?_) | refine WL_splitB rfl rfl (fun hg => ?_) (fun hg => ?_) | refine WC_cond rfl (fun hc => ?_) (fun hc => ?_) | refine WC_condB rfl (fun hc => ?_) (fun hc => ?_))
  all_goals try (exact absurd rfl (by assumption))
  refine WL_eff (OE_call rfl (evs1 rfl) (CheckL_any _ rlB 21 m _ ⟨_, _, rfl, sb, s3⟩ (hF.up hS) (hS.cell (by simp) hm) ckB)) rfl ?_
  rintro _ w1 ⟨rfl, hT⟩
  replace sa := sa.up hT
  replace e1 := e1.up hT
  replace sb := sb.up hT
  replace e2 := e2.up hT
  replace hbv := hbv.up hT
  replace e3 := e3.up hT
  replace e12 := e12.up hT
  replace e13 := e13.up hT
  replace s3 := s3.up hT
  replace e14 := e14.up hT
  replace hS := hS.trans hT
  clear hT
  repeat' (first | refine W1 ?_ | (exfalso; omega) | refine WL_split rfl rfl (fun hg => ?_) (fun hg => ?_) | refine WL_splitB rfl rfl (fun hg => ?_) (fun hg => ?_) | refine WC_cond rfl (fun hc => ?_) (fun hc => ?_) | refine WC_condB rfl (fun hc => ?_) (fun hc => ?_))
  all_goals try (exact absurd rfl (by assumption))
  refine WL_eff (OE_call rfl (evs1 rfl) (CheckL_any _ rlD 7 m _ ⟨_, _, rfl, sb, sa⟩ (hF.up hS) (hS.cell (by simp) hm) ckD)) rfl ?_
  rintro _ w1 ⟨rfl, hT⟩
  replace sa := sa.up hT
  replace e1 := e1.up hT
  replace sb := sb.up hT
  replace e2 := e2.up hT
  replace hbv := hbv.up hT
  replace e3 := e3.up hT
  replace e12 := e12.up hT
  replace e13 := e13.up hT
  replace s3 := s3.up hT
  replace e14 := e14.up hT
  replace hS := hS.trans hT
  clear hT
  repeat' (first | refine W1 ?_ | (exfalso; omega) | refine WL_split rfl rfl (fun hg => ?_) (fun hg => ?_) | refine WL_splitB rfl rfl (fun hg => ?_) (fun hg => ?_) | refine WC_cond rfl (fun hc => ?_) (fun hc => ?_) | refine WC_condB rfl (fun hc => ?_) (fun hc => ?_))
  all_goals try (exact absurd rfl (by assumption))
  first | refine WQ_ret1 rfl rfl ?_ | refine WQ_ret2 rfl rfl rfl ?_ | refine WQ_ret3 rfl rfl rfl rfl ?_ | refine WQ_ret0 rfl ?_ | refine WQ_end0 rfl ?_
  exact .mk ⟨rfl, hS⟩
end Go.Proofs.YtfjmlobgjdmecaaDoor
namespace Go.Proofs.YtfjmlobgjdmecaaDoor
open Go Go.Eng Go.RowKit
set_option linter.unusedVariables false
theorem type_next (y : Nd) (h : typeT y = 3) : typeT (.mk 10 0 [110, 101, 120, 116] [y]) = 3 := by
  rw [typeT_eq]
  simp only [Nd.kids, Nd.kind, Nd.num, Nd.word, List.map_cons, List.map_nil, h]
  decide +kernel
theorem type_days (y : Nd) (h : typeT y = 3) : typeT (.mk 7 0 [100, 97, 121, 115] [y, .mk 1 1 [] []]) = 3 := by
  have h1 : typeT (.mk 1 1 [] []) = 1 := by simp only [typeT_eq, Nd.kids, Nd.kind, Nd.num, Nd.word, List.map_nil]; rfl
  rw [typeT_eq]
  simp only [Nd.kids, Nd.kind, Nd.num, Nd.word, List.map_cons, List.map_nil, h, h1]
  decide +kernel
theorem size_next (y : Nd) : sizeN (.mk 10 0 [110, 101, 120, 116] [y]) = 1 + sizeN y := by
  rw [sizeN_eq]
  simp [Nd.kids]
theorem size_days (y : Nd) : sizeN (.mk 7 0 [100, 97, 121, 115] [y, .mk 1 1 [] []]) = 2 + sizeN y := by
  have h1 : sizeN (.mk 1 1 [] []) = 1 := by rw [sizeN_eq]; rfl
  rw [sizeN_eq]
  simp [Nd.kids, h1]
  omega
theorem nestsLaw (lv : Value) (l : List Int) (n z m : Int) (w : World) (hF : SlV [] w flds fieldNames) (hm : w.cell? ⟨1, 0, none⟩ = some (.int .i64 m)) (hs : SlV [] w lv l) (hl : ∀ a ∈ l, I64 a) (hn : I64 n) (hz : I64 z) :
    Calls Tryd.prog 11 #[lv, .int .i64 n, .int .i64 z] w (Ret fun r w' => r = .bool true ∧ Stp [] w w') := by
  refine calls_of_WC3 (n := 54) Tryd.func11 rfl rfl rfl ?_
  refine W ?_
  refine WL_eff (OE_call rfl (evs3 rfl rfl rfl) (Expr_any [] lv l 0 3 3 _ (by decide) (by decide) rfl (by unfold I64; omega) hs hl (by simp))) rfl ?_
  rintro _ w1 ⟨y, ⟨ky, rfl, hy⟩, hsz, ⟨hty, -⟩, hS⟩
  replace hty : typeT y = 3 := hty
  refine WL_eff OE_alloc rfl ?_
  rintro _ w2 ⟨b7, rfl, hb, e0, hT⟩
  refine WL_eff0 (OE_storeA (us := ndC y ky) rfl rfl rfl rfl (ndC_one hy) e0 rfl) ?_
  rintro _ w3 ⟨hT2, e7⟩
  have h7w : w.heap.size ≤ b7 := Nat.le_trans hS.size hb
  replace hy := (hy.ext (X' := [b7]) hT (by simp) (fun b h => by simp at h; subst h; exact .inr hb)).ext hT2 (by simp) (fun _ h => .inl h)
  replace hS := hS.trans (hT.own hT2 (fun b hb => .inr (by simp at hb; omega)))
  clear hT hT2 hb e0
  refine W ?_
  refine WC_loop (σ := Nat × Nd × Value) (fun q => [(1, .int .i64 n), (2, .int .i64 z), (7, .pointer (some ⟨b7, 0, none⟩)), (8, .int .i64 (q.1 : Int))]) (fun q w' => q.1 ≤ 14 ∧ sizeN q.2.1 ≤ 400 + 3 * q.1 ∧ typeT q.2.1 = 3 ∧ SlV [b7] w' q.2.2 q.2.1.kids ∧ Blk w' b7 24 (ndC q.2.1 q.2.2) ∧ Stp [] w w') (fun q => 14 - q.1) (0, y, ky) ⟨rfl, rfl, rfl, rfl, trivial⟩ ⟨Nat.zero_le _, by simpa using hsz, hty, hy, e7, hS⟩ ?_
  clear hy e7 hS hsz hty y ky
  rintro ⟨j, y, ky⟩ w2 ⟨hj, hsz, hty, hy, e7, hS⟩
  dsimp only at hj hsz hty hy e7 ⊢
  refine W ?_
  refine WL_eff (OE_call rfl (evs2 rfl rfl) (Around01_any n 15 _ (by decide) hn)) rfl ?_
  rintro _ w4 ⟨rfl, hT⟩
  have hr := around_range (if n < 0 then -(n + 1) else n) 15 (by decide)
  generalize (if n < 0 then -(n + 1) else n) % 15 = k at *
  replace hy := hy.ext hT (by simp) (fun _ h => .inl h)
  replace e7 := e7.up hT
  replace hS := hS.trans hT
  clear hT
  by_cases hlt : (j : Int) < k
  · repeat' (first | refine W1 ?_ | (exfalso; omega) | refine WL_split rfl rfl (fun hg => ?_) (fun hg => ?_) | refine WL_splitB rfl rfl (fun hg => ?_) (fun hg => ?_) | refine WC_cond rfl (fun hc => ?_) (fun hc => ?_) | refine WC_condB rfl (fun hc => ?_) (fun hc => ?_))
    refine WL_eff (OE_call rfl (evs2 rfl rfl) (Around01_any z 2 _ (by decide) hz)) rfl ?_
    rintro _ w5 ⟨rfl, hT⟩
    generalize (if z < 0 then -(z + 1) else z) % 2 = c at *
    replace hy := hy.ext hT (by simp) (fun _ h => .inl h)
    replace e7 := e7.up hT
    replace hS := hS.trans hT
    clear hT
    obtain ⟨p0, c0, rfl, -⟩ := id hy
    have hX : ∀ b ∈ [b7], b < w5.heap.size := fun b hb => by simp at hb; subst hb; exact e7.lt
    · repeat' (first | refine W1 ?_ | (exfalso; omega) | refine WL_split rfl rfl (fun hg => ?_) (fun hg => ?_) | refine WL_splitB rfl rfl (fun hg => ?_) (fun hg => ?_) | refine WC_cond rfl (fun hc => ?_) (fun hc => ?_) | refine WC_condB rfl (fun hc => ?_) (fun hc => ?_))
      · refine WL_eff (OE_buildSlice (vs := [(0, .agg (ndC y (.slice p0 y.kids.length c0)).toArray)]) rfl (buildSN1 _ _ _ _ _ _)) rfl ?_
        rintro bv w6 hN
        have hbv : SlV [b7] w6 bv [y] := hN.slvG (X := [b7]) (css := [ndC y _]) hX rfl rfl rfl (reps1 hy) (by simp [maxLen])
        have hT := NewSl.stp hN
        clear hN
        replace e7 := e7.up hT
        replace hS := hS.trans hT
        clear hT
        obtain ⟨p, c1, rfl, -⟩ := id hbv
        refine W ?_
        apply WL_build (vs := [(0, .int .i64 10), (2, str [110, 101, 120, 116]), (3, .slice p 1 c1)]) rfl (buildN023 _ _ _ _ _) rfl
        refine WL_eff0 (OE_storeA (us := ndC (.mk 10 0 [110, 101, 120, 116] [y]) (.slice p 1 c1)) rfl rfl rfl rfl (ndC_one (x := .mk 10 0 [110, 101, 120, 116] [y]) hbv) e7 rfl) ?_
        rintro _ w7 ⟨hT, e7⟩
        refine W ?_
        exact WQ_loop (j + 1, .mk 10 0 [110, 101, 120, 116] [y], .slice p 1 c1) ⟨rfl, rfl, rfl, rfl, trivial⟩ ⟨by dsimp only; omega, by dsimp only; rw [size_next]; omega, type_next y hty, hbv.ext hT (by simp) (fun _ h => .inl h), e7, hS.own hT (fun b hb => .inr (by simp at hb; omega))⟩ (by dsimp only; omega)
      · refine WC_drawn 4 ([]) [3] [(0, 1), (1, 2), (2, 2), (3, 2)] rfl mixed (by kernel_rfl) (by kernel_rfl) (by kernel_rfl) (fun w1 hS1 => ?_)
        replace e7 := e7.up hS1
        replace hy := hy.ext hS1 (by simp) (fun _ h => .inl h)
        replace hS := hS.trans hS1
        clear hS1
        refine D ?_
        refine WD_eff rfl trivial (OE_call rfl (evs1 rfl) (numberL_any 1 _)) (fun _ _ h => h.2) rfl ?_
        rintro r1 wq ⟨h1, hT⟩
        replace e7 := e7.up hT
        replace hy := hy.ext hT (by simp) (fun _ h => .inl h)
        replace hS := hS.trans hT
        clear hT
        refine D ?_
        refine WD_eff rfl trivial (OE_call rfl (evs4 rfl rfl rfl rfl) (twoL_any [b7] 7 [100, 97, 121, 115] _ _ y (.mk 1 1 [] []) _ (fun b hb => by simp at hb; subst hb; exact e7.lt) ⟨_, rfl, hy⟩ (h1 _))) (fun _ _ h => h.2) rfl ?_
        rintro _ wq ⟨⟨k2, rfl, h2⟩, hT⟩
        replace e7 := e7.up hT
        replace hS := hS.trans hT
        clear hT
        refine D ?_
        refine WD_late0 rfl trivial (OE_storeA (us := ndC (.mk 7 0 [100, 97, 121, 115] [y, .mk 1 1 [] []]) k2) rfl rfl rfl rfl (ndC_one h2) e7 rfl) rfl ?_
        rintro _ wz ⟨hT, e7⟩
        refine D ?_
        refine W ?_
        exact WQ_loop (j + 1, .mk 7 0 [100, 97, 121, 115] [y, .mk 1 1 [] []], k2) ⟨rfl, rfl, rfl, rfl, trivial⟩ ⟨by dsimp only; omega, by dsimp only; rw [size_days]; omega, type_days y hty, h2.ext hT (by simp) (fun _ h => .inl h), e7, hS.own hT (fun b hb => .inr (by simp at hb; omega))⟩ (by dsimp only; omega)
  · have hnl := nest_le_size y
    repeat' (first | refine W1 ?_ | (exfalso; omega) | refine WL_split rfl rfl (fun hg => ?_) (fun hg => ?_) | refine WL_splitB rfl rfl (fun hg => ?_) (fun hg => ?_) | refine WC_cond rfl (fun hc => ?_) (fun hc => ?_) | refine WC_condB rfl (fun hc => ?_) (fun hc => ?_))
    refine WL_eff (OE_call rfl (evs1 rfl) (Of_any [] [] _ y _ ⟨_, rfl, hy.wk (by simp)⟩ (hF.up hS))) rfl ?_
    rintro _ w5 ⟨rfl, hT⟩
    replace hy := hy.ext hT (by simp) (fun _ h => .inl h)
    replace e7 := e7.up hT
    replace hS := hS.trans hT
    clear hT
    refine W ?_
    refine WL_eff (OE_call rfl (evs1 rfl) (Nesting_any y [] _ _ (by omega) ⟨_, rfl, hy.wk (by simp)⟩)) rfl ?_
    rintro _ w6 ⟨rfl, hT⟩
    replace hS := hS.trans hT
    clear hT
    by_cases hn12 : nestN y ≤ 12
    · simp only [if_pos hn12, hty]
      repeat' (first | refine W1 ?_ | (exfalso; omega) | refine WL_split rfl rfl (fun hg => ?_) (fun hg => ?_) | refine WL_splitB rfl rfl (fun hg => ?_) (fun hg => ?_) | refine WC_cond rfl (fun hc => ?_) (fun hc => ?_) | refine WC_condB rfl (fun hc => ?_) (fun hc => ?_))
      all_goals try (exact absurd rfl (by assumption))
      refine WL_eff (OE_call rfl evs0 (lives14_any m _ (hF.up hS) (hS.cell (by simp) hm))) rfl ?_
      rintro _ w7 ⟨rfl, hT⟩
      refine W ?_
      first | refine WQ_ret1 rfl rfl ?_ | refine WQ_ret2 rfl rfl rfl ?_ | refine WQ_ret3 rfl rfl rfl rfl ?_ | refine WQ_ret0 rfl ?_ | refine WQ_end0 rfl ?_
      exact .mk ⟨rfl, hS.trans hT⟩
    · simp only [if_neg hn12]
      repeat' (first | refine W1 ?_ | (exfalso; omega) | refine WL_split rfl rfl (fun hg => ?_) (fun hg => ?_) | refine WL_splitB rfl rfl (fun hg => ?_) (fun hg => ?_) | refine WC_cond rfl (fun hc => ?_) (fun hc => ?_) | refine WC_condB rfl (fun hc => ?_) (fun hc => ?_))
      all_goals try (exact absurd rfl (by assumption))
      refine WL_eff (OE_call rfl evs0 (lives14_any m _ (hF.up hS) (hS.cell (by simp) hm))) rfl ?_
      rintro _ w7 ⟨rfl, hT⟩
      refine W ?_
      first | refine WQ_ret1 rfl rfl ?_ | refine WQ_ret2 rfl rfl rfl ?_ | refine WQ_ret3 rfl rfl rfl rfl ?_ | refine WQ_ret0 rfl ?_ | refine WQ_end0 rfl ?_
      exact .mk ⟨rfl, hS.trans hT⟩
end Go.Proofs.YtfjmlobgjdmecaaDoor
