/-
Merged by program out of own texts: Gen3, Gen4, Gen5, Gen6, Gen7, Ver1, Eng12, Ver2, Ver3, Ver4, Liv1, Ver5, Eng13, Eng14, Ver6, Ver7a, Ver7b, Ver7c, Eng15, Ver8, Ver9, Ver10, Ver11, Liv2, Eng16, Arg15, Arg16, Wlk1, Prt2, Eng17, Shl, Nam1, Nam2, Nam3, Nam4.
-/
import Derived.Test.YtgpibcgebpgmiaaDoorM2
import Derived.Lib.AppendZeros
import Derived.Laws.OwnMore
import Derived.HandedShaped
import Derived.LaidMore
import Derived.OpenShut
import Derived.ProofKit
import Derived.Stop.Joined
import Derived.SevenTiedAt
import Derived.MakeChecks
import Derived.Test.YtgpibcgebpgmiaaDoorRows
import Derived.Test.YtgpibcgebpgmiaaDoorTie
import Derived.Test.YtgpibcgebpgmiaaDoorCards
import Derived.Lib.ConvBytes
import Derived.Laws.AppendOwn
import Derived.Shelf.Small.Bits
import Derived.Shelf.Strconv.Itoa0
import Derived.Shelf.Strings.Search1
import Derived.Shelf.Strings.Search2
import Derived.Shelf.Strings.Search3
import Derived.Shelf.LaysM
import Derived.Shelf.Strings.Shaped
import Derived.Shelf.Sort.Plain
import Derived.Ground.Names2Prog
import Derived.Shelf.Slices.CompactI
import Derived.Shelf.Slices.SearchI
import Derived.Shelf.Slices.Cells
import Derived.Shelf.Slices.In.SortNone
import Derived.Ground.SlbCloneProg
import Derived.Shelf.Bytes.SlClone
import Derived.Test.YtgpibcgebpgmiaaDoorProg

namespace Go.Proofs.YtgpibcgebpgmiaaDoor
open Go Go.Eng Go.RowKit
set_option linter.unusedVariables false

def szD : Nat → Nat
  | 0 => 0
  | d + 1 => 1 + 3 * szD d
theorem szD_eq {d : Nat} (h : 1 ≤ d) : szD d = 1 + 3 * szD (d - 1) := by
  cases d with
  | zero => omega
  | succ d => rfl
/-- the type of what a maker's method gives -/
def tyG (f : Nat) : Int := if f = 31 then 1 else if f = 30 then 2 else 3
/-- a maker's method gives a node -/
def GenP (f : Nat) (d : Nat) : Prop := ∀ (X : List Nat) (w : World) (bm : Nat) (lv : Value) (l : List Int) (i : Nat) (z : Int), z = (d : Int) → Mk w bm lv i → SlV [bm] w lv l → (∀ a ∈ l, I64 a) → i + 2 * szD d ≤ 100000 → (∀ b ∈ X, b < w.heap.size) →
  Calls Tryd.prog f #[.pointer (some ⟨bm, 0, none⟩), .int .i64 z] w (Ret fun r w' => ∃ y i', NdV X w' r y ∧ sizeN y ≤ szD d ∧ (typeT y = tyG f ∧ nestN y ≤ d) ∧ Mk w' bm lv i' ∧ i' ≤ i + 2 * szD d ∧ Stp [bm] w w')
/-- a maker at work, the cell of the result beside it -/
structure G (X : List Nat) (w0 w : World) (bm b4 : Nat) (lv : Value) (l : List Int) (i : Nat) : Prop where
  mkr : Mk w bm lv i
  sl : SlV [bm] w lv l
  stp : Stp [bm] w0 w
  blk : ∃ cs : List Value, cs.length = 4 ∧ Blk w b4 25 cs
  ne : b4 ≠ bm
  hX : ∀ b ∈ X, b < w.heap.size
theorem G.nxt {X : List Nat} {w0 w w' : World} {bm b4 : Nat} {lv : Value} {l : List Int} {i i' : Nat} (h : G X w0 w bm b4 lv l i) (hm : Mk w' bm lv i') (hS : Stp [bm] w w') : G X w0 w' bm b4 lv l i' :=
  ⟨hm, h.sl.ext hS (fun _ h => h) (fun _ h => .inl h), h.stp.trans hS, h.blk.imp (fun cs hc => ⟨hc.1, hc.2.ext hS (by simpa using h.ne)⟩), h.ne, fun b hb => Nat.lt_of_lt_of_le (h.hX b hb) hS.size⟩
theorem G.up {X : List Nat} {w0 w w' : World} {bm b4 : Nat} {lv : Value} {l : List Int} {i : Nat} (h : G X w0 w bm b4 lv l i) (hS : Stp [] w w') : G X w0 w' bm b4 lv l i :=
  h.nxt (h.mkr.up hS) (hS.mono (by simp))
theorem G.fin {X : List Nat} {w0 w1 w w' : World} {bm b4 : Nat} {lv : Value} {l : List Int} {i : Nat} {y : Nd} {ky : Value} (h : G (b4 :: bm :: X) w1 w bm b4 lv l i) (hw : Stp [] w0 w1) (hb : w0.heap.size ≤ b4) (hy : SlV (b4 :: bm :: X) w ky y.kids) (hS : Stp [b4] w w') :
    NdV X w' (.agg (ndC y ky).toArray) y ∧ Mk w' bm lv i ∧ Stp [bm] w0 w' :=
  ⟨⟨ky, rfl, (hy.ext (X' := b4 :: bm :: X) hS (by simp) (fun _ h => .inl h)).wk (fun c hc => by simp [hc])⟩, h.mkr.ext hS (by simpa using h.ne.symm), ((hw.mono (by simp)).trans h.stp).own hS (fun c hc => .inr (by simp at hc; omega))⟩
theorem reps1 {X : List Nat} {w : World} {y0 : Nd} {k0 : Value} (s0 : SlV X w k0 y0.kids) : ∀ i (hi : i < [y0].length) (hi' : i < [ndC y0 k0].length), GoRep.rep X w [y0][i] [ndC y0 k0][i]
  | 0, _, _ => (show NRep X w y0 (ndC y0 k0) by rw [y0.eta]; exact slv_nrep s0)
theorem reps2 {X : List Nat} {w : World} {y0 y1 : Nd} {k0 k1 : Value} (s0 : SlV X w k0 y0.kids) (s1 : SlV X w k1 y1.kids) : ∀ i (hi : i < [y0, y1].length) (hi' : i < [ndC y0 k0, ndC y1 k1].length), GoRep.rep X w [y0, y1][i] [ndC y0 k0, ndC y1 k1][i]
  | 0, _, _ => (show NRep X w y0 (ndC y0 k0) by rw [y0.eta]; exact slv_nrep s0)
  | 1, _, _ => (show NRep X w y1 (ndC y1 k1) by rw [y1.eta]; exact slv_nrep s1)
theorem reps3 {X : List Nat} {w : World} {y0 y1 y2 : Nd} {k0 k1 k2 : Value} (s0 : SlV X w k0 y0.kids) (s1 : SlV X w k1 y1.kids) (s2 : SlV X w k2 y2.kids) : ∀ i (hi : i < [y0, y1, y2].length) (hi' : i < [ndC y0 k0, ndC y1 k1, ndC y2 k2].length), GoRep.rep X w [y0, y1, y2][i] [ndC y0 k0, ndC y1 k1, ndC y2 k2][i]
  | 0, _, _ => (show NRep X w y0 (ndC y0 k0) by rw [y0.eta]; exact slv_nrep s0)
  | 1, _, _ => (show NRep X w y1 (ndC y1 k1) by rw [y1.eta]; exact slv_nrep s1)
  | 2, _, _ => (show NRep X w y2 (ndC y2 k2) by rw [y2.eta]; exact slv_nrep s2)
theorem buildN01 (k n : Int) (w : World) : (Instr.build 25 #[(0, .int .i64 k), (1, .int .i64 n)]).run Tryd.prog w = .ok (.agg #[.int .i64 k, .int .i64 n, str [], .slice none 0 0]) w := by kernel_rfl
theorem buildN02 (k : Int) (s : Str) (w : World) : (Instr.build 25 #[(0, .int .i64 k), (2, str s)]).run Tryd.prog w = .ok (.agg #[.int .i64 k, .int .i64 0, str s, .slice none 0 0]) w := by kernel_rfl
theorem buildSN2 (k n : Int) (s : Str) (p : Option Addr) (l c : Nat) (k' n' : Int) (s' : Str) (p' : Option Addr) (l' c' : Nat) (w : World) : (Instr.buildSlice 23 2 #[(0, .agg #[.int .i64 k, .int .i64 n, str s, .slice p l c]), (1, .agg #[.int .i64 k', .int .i64 n', str s', .slice p' l' c'])]).run Tryd.prog w = .ok (.slice (some ⟨w.heap.size, 0, none⟩) 2 2) (w.alloc (.cells #[.int .i64 k, .int .i64 n, str s, .slice p l c, .int .i64 k', .int .i64 n', str s', .slice p' l' c'] 25)) := by kernel_rfl
theorem buildSN3 (k n : Int) (s : Str) (p : Option Addr) (l c : Nat) (k' n' : Int) (s' : Str) (p' : Option Addr) (l' c' : Nat) (k'' n'' : Int) (s'' : Str) (p'' : Option Addr) (l'' c'' : Nat) (w : World) : (Instr.buildSlice 23 3 #[(0, .agg #[.int .i64 k, .int .i64 n, str s, .slice p l c]), (1, .agg #[.int .i64 k', .int .i64 n', str s', .slice p' l' c']), (2, .agg #[.int .i64 k'', .int .i64 n'', str s'', .slice p'' l'' c''])]).run Tryd.prog w = .ok (.slice (some ⟨w.heap.size, 0, none⟩) 3 3) (w.alloc (.cells #[.int .i64 k, .int .i64 n, str s, .slice p l c, .int .i64 k', .int .i64 n', str s', .slice p' l' c', .int .i64 k'', .int .i64 n'', str s'', .slice p'' l'' c''] 25)) := by kernel_rfl
theorem buildSI8 (a b c d e f g h : Int) (w : World) : (Instr.buildSlice 22 8 #[(0, .int .i64 a), (1, .int .i64 b), (2, .int .i64 c), (3, .int .i64 d), (4, .int .i64 e), (5, .int .i64 f), (6, .int .i64 g), (7, .int .i64 h)]).run Tryd.prog w = .ok (.slice (some ⟨w.heap.size, 0, none⟩) 8 8) (w.alloc (.cells #[.int .i64 a, .int .i64 b, .int .i64 c, .int .i64 d, .int .i64 e, .int .i64 f, .int .i64 g, .int .i64 h] 3)) := by kernel_rfl
theorem size1 (k n : Int) (s : Str) (y0 : Nd) : sizeN (.mk k n s [y0]) = 1 + sizeN y0 := by rw [sizeN_eq]; simp [Nd.kids]
theorem size2 (k n : Int) (s : Str) (y0 y1 : Nd) : sizeN (.mk k n s [y0, y1]) = 1 + sizeN y0 + sizeN y1 := by rw [sizeN_eq]; simp [Nd.kids]; omega
theorem size3 (k n : Int) (s : Str) (y0 y1 y2 : Nd) : sizeN (.mk k n s [y0, y1, y2]) = 1 + sizeN y0 + sizeN y1 + sizeN y2 := by rw [sizeN_eq]; simp [Nd.kids]; omega
theorem size0 (k n : Int) (s : Str) : sizeN (.mk k n s []) = 1 := by rw [sizeN_eq]; simp [Nd.kids]
theorem nest0 (k n : Int) (s : Str) : nestN (.mk k n s []) = 1 := by rw [nestN_eq]; simp [Nd.kids]
theorem nest1 (k n : Int) (s : Str) (y0 : Nd) : nestN (.mk k n s [y0]) = 1 + nestN y0 := by rw [nestN_eq]; simp [Nd.kids]
theorem nest2 (k n : Int) (s : Str) (y0 y1 : Nd) : nestN (.mk k n s [y0, y1]) = 1 + max (nestN y0) (nestN y1) := by rw [nestN_eq]; simp [Nd.kids]
theorem nest3 (k n : Int) (s : Str) (y0 y1 y2 : Nd) : nestN (.mk k n s [y0, y1, y2]) = 1 + max (max (nestN y0) (nestN y1)) (nestN y2) := by rw [nestN_eq]; simp [Nd.kids]
theorem ty0 {k n τ : Int} {s : Str} (h : leafN k n s = τ) : typeT (.mk k n s []) = τ := by rw [typeT_eq]; exact h
theorem ty1 {k τ a : Int} {s : Str} {y0 : Nd} (h0 : typeT y0 = a) (h : combT k 0 s [a] = τ) : typeT (.mk k 0 s [y0]) = τ := by rw [typeT_eq]; simp only [Nd.kind, Nd.num, Nd.word, Nd.kids, List.map_cons, List.map_nil, h0]; exact h
theorem ty2 {k τ a b : Int} {s : Str} {y0 y1 : Nd} (h0 : typeT y0 = a) (h1 : typeT y1 = b) (h : combT k 0 s [a, b] = τ) : typeT (.mk k 0 s [y0, y1]) = τ := by rw [typeT_eq]; simp only [Nd.kind, Nd.num, Nd.word, Nd.kids, List.map_cons, List.map_nil, h0, h1]; exact h
theorem ty3 {k τ a b c : Int} {s : Str} {y0 y1 y2 : Nd} (h0 : typeT y0 = a) (h1 : typeT y1 = b) (h2 : typeT y2 = c) (h : combT k 0 s [a, b, c] = τ) : typeT (.mk k 0 s [y0, y1, y2]) = τ := by rw [typeT_eq]; simp only [Nd.kind, Nd.num, Nd.word, Nd.kids, List.map_cons, List.map_nil, h0, h1, h2]; exact h
theorem tA : ∀ q (h : q < opsA.length), combT 6 0 opsA[q] [1, 1] = 1 := by
  intro q h
  match q, h with
  | 0, _ => rfl
  | 1, _ => rfl
  | 2, _ => rfl
theorem tL : ∀ q (h : q < opsL.length), combT 6 0 opsL[q] [2, 2] = 2 := by
  intro q h
  match q, h with
  | 0, _ => rfl
  | 1, _ => rfl
theorem tCd : ∀ q (h : q < opsC.length), combT 6 0 opsC[q] [3, 3] = 2 := by
  intro q h
  match q, h with
  | 0, _ => rfl
  | 1, _ => rfl
  | 2, _ => rfl
  | 3, _ => rfl
  | 4, _ => rfl
  | 5, _ => rfl
theorem tCn : ∀ q (h : q < opsC.length), combT 6 0 opsC[q] [1, 1] = 2 := by
  intro q h
  match q, h with
  | 0, _ => rfl
  | 1, _ => rfl
  | 2, _ => rfl
  | 3, _ => rfl
  | 4, _ => rfl
  | 5, _ => rfl
theorem tN : ∀ q (h : q < opsN.length), combT 10 0 opsN[q] [3] = 3 := by
  intro q h
  match q, h with
  | 0, _ => rfl
  | 1, _ => rfl
theorem tE : ∀ q (h : q < opsE.length), combT 10 0 opsE[q] [3, 3] = 3 := by
  intro q h
  match q, h with
  | 0, _ => rfl
  | 1, _ => rfl
theorem tU8 : ∀ q (h : q < units.length), combT 8 0 units[q] [3, 1] = 3 := by
  intro q h
  match q, h with
  | 0, _ => rfl
  | 1, _ => rfl
  | 2, _ => rfl
  | 3, _ => rfl
theorem tU7 : ∀ q (h : q < units.length), combT 7 0 units[q] [3, 1] = 3 := by
  intro q h
  match q, h with
  | 0, _ => rfl
  | 1, _ => rfl
  | 2, _ => rfl
  | 3, _ => rfl
theorem lN1 : ∀ q (h : q < [(1 : Int), 2, 7, 14, 30, 0, 60, 365].length), leafN 1 [(1 : Int), 2, 7, 14, 30, 0, 60, 365][q] [] = 1 := by
  intro q h
  match q, h with
  | 0, _ => rfl
  | 1, _ => rfl
  | 2, _ => rfl
  | 3, _ => rfl
  | 4, _ => rfl
  | 5, _ => rfl
  | 6, _ => rfl
  | 7, _ => rfl
theorem lF1 : ∀ q, q < 5 → ∀ (h : 2 + q < fieldNames.length), leafN 4 0 fieldNames[2 + q] = 1 := by
  intro q hq h
  match q, hq, h with
  | 0, _, _ => rfl
  | 1, _, _ => rfl
  | 2, _, _ => rfl
  | 3, _, _ => rfl
  | 4, _, _ => rfl
theorem lF3 : ∀ q, q < 3 → ∀ (h : q / 2 < fieldNames.length), leafN 4 0 (fieldNames[q / 2]) = 3 := by
  intro q hq h
  match q, hq, h with
  | 0, _, _ => rfl
  | 1, _, _ => rfl
  | 2, _, _ => rfl
theorem lB2 : ∀ q : Nat, q < 2 → leafN 2 (q : Int) [] = 2 := by
  intro q hq
  match q, hq with
  | 0, _ => rfl
  | 1, _ => rfl
theorem lD3 : ∀ q : Nat, q < 200 → leafN 3 (739600 + (q : Int)) [] = 3 := by
  intro q hq
  unfold leafN
  rw [if_neg (by decide), if_neg (by simp), if_neg (by decide), if_neg (by decide), if_pos rfl, if_pos (by omega)]
end Go.Proofs.YtgpibcgebpgmiaaDoor


namespace Go.Proofs.YtgpibcgebpgmiaaDoor
open Go Go.Eng Go.RowKit
set_option linter.unusedVariables false

theorem number_step (d : Nat) (hd1 : 1 ≤ d) (hd2 : d ≤ 6) (ih : 2 ≤ d → GenP 31 (d - 1) ∧ GenP 30 (d - 1) ∧ GenP 29 (d - 1)) : GenP 31 d := by
  intro X w bm lv l i z hz hmk hsl hl hi hX
  subst hz
  have hsz := szD_eq hd1
  have hsp : 2 ≤ d → 1 ≤ szD (d - 1) := fun h => by have := szD_eq (d := d - 1) (by omega); omega
  refine calls_of_WC2 (n := 82) Tryd.func31 rfl rfl rfl ?_
  refine W ?_
  refine WL_eff OE_alloc rfl ?_
  rintro _ w1 ⟨b4, rfl, hb4, hblk4, hS0⟩
  have gm : G (b4 :: bm :: X) w1 w1 bm b4 lv l i := ⟨hmk.up hS0, hsl.up hS0, Stp.refl _ _, ⟨_, rfl, hblk4⟩, fun h => by have := hmk.lt; omega, fun c hc => by
    simp only [List.mem_cons] at hc
    have h1 := hblk4.lt
    have h2 := hmk.lt
    have h3 := hS0.size
    rcases hc with rfl | rfl | hc
    · exact h1
    · omega
    · have := hX c hc; omega⟩
  clear hblk4
  refine W ?_
  refine WL_eff (OE_call rfl (evs2 rfl rfl) (Next_any bm lv l _ 8 _ (by decide) (by omega) gm.mkr gm.sl hl)) rfl ?_
  rintro _ w2 ⟨q, rfl, hq, hm, hS⟩
  replace gm := gm.nxt hm hS
  clear hm hS
  refine W ?_
  refine WC_cutQ (σ := Nat) (fun k => [(0, .pointer (some ⟨bm, 0, none⟩)), (1, .int .i64 (d : Int)), (4, .pointer (some ⟨b4, 0, none⟩)), (5, .int .i64 (k : Int))]) (fun k w' => w' = w2 ∧ k < 8 ∧ (d = 1 → k < 3)) ?_ ?_
  · by_cases h1 : d = 1
    · repeat' (first | refine W1 ?_ | (exfalso; omega) | refine WL_split rfl rfl (fun hg => ?_) (fun hg => ?_) | refine WL_splitB rfl rfl (fun hg => ?_) (fun hg => ?_) | refine WC_cond rfl (fun hc => ?_) (fun hc => ?_) | refine WC_condB rfl (fun hc => ?_) (fun hc => ?_))
      exact WQ_cut (q % 3) ⟨rfl, rfl, rfl, rfl, trivial⟩ ⟨rfl, by omega, fun _ => by omega⟩
    · repeat' (first | refine W1 ?_ | (exfalso; omega) | refine WL_split rfl rfl (fun hg => ?_) (fun hg => ?_) | refine WL_splitB rfl rfl (fun hg => ?_) (fun hg => ?_) | refine WC_cond rfl (fun hc => ?_) (fun hc => ?_) | refine WC_condB rfl (fun hc => ?_) (fun hc => ?_))
      exact WQ_cut q ⟨rfl, rfl, rfl, rfl, trivial⟩ ⟨rfl, by omega, fun h => absurd h h1⟩
  rintro k w3 ⟨rfl, hkn, hk1⟩
  clear hq
  by_cases k0 : k ≤ 1
  · repeat' (first | refine W1 ?_ | (exfalso; omega) | refine WL_split rfl rfl (fun hg => ?_) (fun hg => ?_) | refine WL_splitB rfl rfl (fun hg => ?_) (fun hg => ?_) | refine WC_cond rfl (fun hc => ?_) (fun hc => ?_) | refine WC_condB rfl (fun hc => ?_) (fun hc => ?_))
    all_goals
      refine WL_eff (OE_buildSlice (vs := [(0, .int .i64 1), (1, .int .i64 2), (2, .int .i64 7), (3, .int .i64 14), (4, .int .i64 30), (5, .int .i64 0), (6, .int .i64 60), (7, .int .i64 365)]) rfl (buildSI8 _ _ _ _ _ _ _ _)) rfl ?_
      rintro iv wq hN
      have hws : SlV [bm] wq iv [(1 : Int), 2, 7, 14, 30, 0, 60, 365] := hN.slv (fun c hc => gm.hX c (by simp at hc; subst hc; simp)) rfl rfl (by decide)
      have hT := NewSl.stp hN
      clear hN
      replace gm := gm.up hT
      clear hT
      refine W ?_
      refine WL_eff (OE_call rfl (evs2 rfl rfl) (Next_any bm lv l _ 8 _ (by decide) (by omega) gm.mkr gm.sl hl)) rfl ?_
      rintro _ wq ⟨q', rfl, hq', hm, hS⟩
      replace gm := gm.nxt hm hS
      replace hws := hws.ext hS (by simp) (fun _ h => .inl h)
      clear hm hS
      have hqn : q' < [(1 : Int), 2, 7, 14, 30, 0, 60, 365].length := by show q' < 8; omega
      refine W ?_
      apply WL_build (vs := [(0, .int .i64 1), (1, .int .i64 _)]) rfl (buildN01 _ _) rfl
      have hy : SlV (α := Nd) (b4 :: bm :: X) wq (.slice none 0 0) [] := nilSlv _ _
      obtain ⟨cs, hcl, hcb⟩ := gm.blk
      refine WL_eff0 (OE_storeA (us := ndC (.mk 1 [(1 : Int), 2, 7, 14, 30, 0, 60, 365][q'] [] []) _) rfl rfl rfl rfl (ndC_one (x := (.mk 1 [(1 : Int), 2, 7, 14, 30, 0, 60, 365][q'] [] [])) hy) hcb hcl.symm) ?_
      rintro _ wz ⟨hz, hbz⟩
      refine W ?_
      refine WQ_retc rfl rfl rfl hbz rfl ?_
      have hf := gm.fin (y := (.mk 1 [(1 : Int), 2, 7, 14, 30, 0, 60, 365][q'] [] [])) hS0 hb4 hy hz
      exact .mk ⟨_, _, hf.1, by rw [size0]; omega, ⟨ty0 (lN1 _ hqn), by rw [nest0]; omega⟩, hf.2.1, by omega, hf.2.2⟩
  by_cases k2 : k = 2
  · repeat' (first | refine W1 ?_ | (exfalso; omega) | refine WL_split rfl rfl (fun hg => ?_) (fun hg => ?_) | refine WL_splitB rfl rfl (fun hg => ?_) (fun hg => ?_) | refine WC_cond rfl (fun hc => ?_) (fun hc => ?_) | refine WC_condB rfl (fun hc => ?_) (fun hc => ?_))
    refine WL_eff (OE_call rfl evs0 (Fields_any [bm] _ (fun c hc => gm.hX c (by simp at hc; subst hc; simp)))) rfl ?_
    rintro fv wq ⟨hr, hT⟩
    have hws := hr.slv (fun c hc => gm.hX c (by simp at hc; subst hc; simp))
    replace gm := gm.up hT
    clear hr hT
    refine W ?_
    refine WL_eff (OE_call rfl (evs2 rfl rfl) (Next_any bm lv l _ 5 _ (by decide) (by omega) gm.mkr gm.sl hl)) rfl ?_
    rintro _ wq ⟨q', rfl, hq', hm, hS⟩
    replace gm := gm.nxt hm hS
    replace hws := hws.ext hS (by simp) (fun _ h => .inl h)
    clear hm hS
    have hqn : 2 + q' < fieldNames.length := by show 2 + q' < 7; omega
    refine W ?_
    apply WL_build (vs := [(0, .int .i64 4), (2, str _)]) rfl (buildN02 _ _) rfl
    have hy : SlV (α := Nd) (b4 :: bm :: X) wq (.slice none 0 0) [] := nilSlv _ _
    obtain ⟨cs, hcl, hcb⟩ := gm.blk
    refine WL_eff0 (OE_storeA (us := ndC (.mk 4 0 fieldNames[2 + q'] []) _) rfl rfl rfl rfl (ndC_one (x := (.mk 4 0 fieldNames[2 + q'] [])) hy) hcb hcl.symm) ?_
    rintro _ wz ⟨hz, hbz⟩
    refine W ?_
    refine WQ_retc rfl rfl rfl hbz rfl ?_
    have hf := gm.fin (y := (.mk 4 0 fieldNames[2 + q'] [])) hS0 hb4 hy hz
    exact .mk ⟨_, _, hf.1, by rw [size0]; omega, ⟨ty0 (lF1 _ (by omega) hqn), by rw [nest0]; omega⟩, hf.2.1, by omega, hf.2.2⟩
  by_cases k3 : k = 3
  · have h2 : 2 ≤ d := by omega
    replace ih := ih h2
    replace hsp := hsp h2
    repeat' (first | refine W1 ?_ | (exfalso; omega) | refine WL_split rfl rfl (fun hg => ?_) (fun hg => ?_) | refine WL_splitB rfl rfl (fun hg => ?_) (fun hg => ?_) | refine WC_cond rfl (fun hc => ?_) (fun hc => ?_) | refine WC_condB rfl (fun hc => ?_) (fun hc => ?_))
    refine W ?_
    refine WL_eff (OE_call rfl (evs2 rfl rfl) ((ih.1) (b4 :: bm :: X) _ bm lv l _ _ (by omega) gm.mkr gm.sl hl (by omega) gm.hX)) rfl ?_
    rintro _ wq ⟨y0, i0, ⟨k0, rfl, s0⟩, z0, ⟨ty0, ne0⟩, hm, hi0, hS⟩
    obtain ⟨p0, c0, rfl, -⟩ := id s0
    replace gm := gm.nxt hm hS
    clear hm hS
    refine W ?_
    refine WL_eff (OE_buildSlice (vs := [(0, .agg #[.int .i64 y0.kind, .int .i64 y0.num, str y0.word, .slice p0 y0.kids.length c0])]) rfl (buildSN1 _ _ _ _ _ _)) rfl ?_
    rintro bv wq hN
    have hbv : SlV (b4 :: bm :: X) wq bv [y0] := hN.slvG (css := [ndC y0 _]) gm.hX rfl rfl rfl (reps1 s0) (by simp [maxLen])
    have hT := NewSl.stp hN
    clear hN
    replace gm := gm.up hT
    clear hT
    refine W ?_
    refine WL_eff (OE_call rfl (evs3 rfl rfl rfl) (node14_any (b4 :: bm :: X) 5 [45] bv [y0] _ gm.hX hbv)) rfl ?_
    rintro _ wq ⟨⟨ky, rfl, hy⟩, hT⟩
    replace gm := gm.up hT
    clear hT hbv
    refine W ?_
    obtain ⟨cs, hcl, hcb⟩ := gm.blk
    refine WL_eff0 (OE_storeA (us := ndC (.mk 5 0 [45] [y0]) _) rfl rfl rfl rfl (ndC_one (x := (.mk 5 0 [45] [y0])) hy) hcb hcl.symm) ?_
    rintro _ wz ⟨hz, hbz⟩
    refine W ?_
    refine WQ_retc rfl rfl rfl hbz rfl ?_
    have hf := gm.fin (y := (.mk 5 0 [45] [y0])) hS0 hb4 hy hz
    exact .mk ⟨_, _, hf.1, by rw [size1]; omega, ⟨ty1 ty0 (rfl), by rw [nest1]; omega⟩, hf.2.1, by omega, hf.2.2⟩
  by_cases k4 : k = 4
  · have h2 : 2 ≤ d := by omega
    replace ih := ih h2
    replace hsp := hsp h2
    repeat' (first | refine W1 ?_ | (exfalso; omega) | refine WL_split rfl rfl (fun hg => ?_) (fun hg => ?_) | refine WL_splitB rfl rfl (fun hg => ?_) (fun hg => ?_) | refine WC_cond rfl (fun hc => ?_) (fun hc => ?_) | refine WC_condB rfl (fun hc => ?_) (fun hc => ?_))
    refine W ?_
    refine WL_eff (OE_call rfl (evs2 rfl rfl) ((ih.2.2) (b4 :: bm :: X) _ bm lv l _ _ (by omega) gm.mkr gm.sl hl (by omega) gm.hX)) rfl ?_
    rintro _ wq ⟨y0, i0, ⟨k0, rfl, s0⟩, z0, ⟨ty0, ne0⟩, hm, hi0, hS⟩
    obtain ⟨p0, c0, rfl, -⟩ := id s0
    replace gm := gm.nxt hm hS
    clear hm hS
    refine W ?_
    refine WL_eff (OE_call rfl (evs2 rfl rfl) ((ih.2.2) (b4 :: bm :: X) _ bm lv l _ _ (by omega) gm.mkr gm.sl hl (by omega) gm.hX)) rfl ?_
    rintro _ wq ⟨y1, i1, ⟨k1, rfl, s1⟩, z1, ⟨ty1, ne1⟩, hm, hi1, hS⟩
    obtain ⟨p1, c1, rfl, -⟩ := id s1
    replace gm := gm.nxt hm hS
    replace s0 := s0.ext hS (by simp) (fun _ h => .inl h)
    clear hm hS
    refine W ?_
    refine WL_eff (OE_buildSlice (vs := [(0, .agg #[.int .i64 y0.kind, .int .i64 y0.num, str y0.word, .slice p0 y0.kids.length c0]), (1, .agg #[.int .i64 y1.kind, .int .i64 y1.num, str y1.word, .slice p1 y1.kids.length c1])]) rfl (buildSN2 _ _ _ _ _ _ _ _ _ _ _ _)) rfl ?_
    rintro bv wq hN
    have hbv : SlV (b4 :: bm :: X) wq bv [y0, y1] := hN.slvG (css := [ndC y0 _, ndC y1 _]) gm.hX rfl rfl rfl (reps2 s0 s1) (by simp [maxLen])
    have hT := NewSl.stp hN
    clear hN
    replace gm := gm.up hT
    clear hT
    refine W ?_
    refine WL_eff (OE_call rfl (evs3 rfl rfl rfl) (node14_any (b4 :: bm :: X) 10 [98, 101, 116, 119, 101, 101, 110] bv [y0, y1] _ gm.hX hbv)) rfl ?_
    rintro _ wq ⟨⟨ky, rfl, hy⟩, hT⟩
    replace gm := gm.up hT
    clear hT hbv
    refine W ?_
    obtain ⟨cs, hcl, hcb⟩ := gm.blk
    refine WL_eff0 (OE_storeA (us := ndC (.mk 10 0 [98, 101, 116, 119, 101, 101, 110] [y0, y1]) _) rfl rfl rfl rfl (ndC_one (x := (.mk 10 0 [98, 101, 116, 119, 101, 101, 110] [y0, y1])) hy) hcb hcl.symm) ?_
    rintro _ wz ⟨hz, hbz⟩
    refine W ?_
    refine WQ_retc rfl rfl rfl hbz rfl ?_
    have hf := gm.fin (y := (.mk 10 0 [98, 101, 116, 119, 101, 101, 110] [y0, y1])) hS0 hb4 hy hz
    exact .mk ⟨_, _, hf.1, by rw [size2]; omega, ⟨ty2 ty0 ty1 (rfl), by rw [nest2]; omega⟩, hf.2.1, by omega, hf.2.2⟩
  by_cases k5 : k = 5
  · have h2 : 2 ≤ d := by omega
    replace ih := ih h2
    replace hsp := hsp h2
    repeat' (first | refine W1 ?_ | (exfalso; omega) | refine WL_split rfl rfl (fun hg => ?_) (fun hg => ?_) | refine WL_splitB rfl rfl (fun hg => ?_) (fun hg => ?_) | refine WC_cond rfl (fun hc => ?_) (fun hc => ?_) | refine WC_condB rfl (fun hc => ?_) (fun hc => ?_))
    refine W ?_
    refine WL_eff (OE_call rfl (evs2 rfl rfl) ((ih.2.1) (b4 :: bm :: X) _ bm lv l _ _ (by omega) gm.mkr gm.sl hl (by omega) gm.hX)) rfl ?_
    rintro _ wq ⟨y0, i0, ⟨k0, rfl, s0⟩, z0, ⟨ty0, ne0⟩, hm, hi0, hS⟩
    obtain ⟨p0, c0, rfl, -⟩ := id s0
    replace gm := gm.nxt hm hS
    clear hm hS
    refine W ?_
    refine WL_eff (OE_call rfl (evs2 rfl rfl) ((ih.1) (b4 :: bm :: X) _ bm lv l _ _ (by omega) gm.mkr gm.sl hl (by omega) gm.hX)) rfl ?_
    rintro _ wq ⟨y1, i1, ⟨k1, rfl, s1⟩, z1, ⟨ty1, ne1⟩, hm, hi1, hS⟩
    obtain ⟨p1, c1, rfl, -⟩ := id s1
    replace gm := gm.nxt hm hS
    replace s0 := s0.ext hS (by simp) (fun _ h => .inl h)
    clear hm hS
    refine W ?_
    refine WL_eff (OE_call rfl (evs2 rfl rfl) ((ih.1) (b4 :: bm :: X) _ bm lv l _ _ (by omega) gm.mkr gm.sl hl (by omega) gm.hX)) rfl ?_
    rintro _ wq ⟨y2, i2, ⟨k2, rfl, s2⟩, z2, ⟨ty2, ne2⟩, hm, hi2, hS⟩
    obtain ⟨p2, c2, rfl, -⟩ := id s2
    replace gm := gm.nxt hm hS
    replace s0 := s0.ext hS (by simp) (fun _ h => .inl h)
    replace s1 := s1.ext hS (by simp) (fun _ h => .inl h)
    clear hm hS
    refine W ?_
    refine WL_eff (OE_buildSlice (vs := [(0, .agg #[.int .i64 y0.kind, .int .i64 y0.num, str y0.word, .slice p0 y0.kids.length c0]), (1, .agg #[.int .i64 y1.kind, .int .i64 y1.num, str y1.word, .slice p1 y1.kids.length c1]), (2, .agg #[.int .i64 y2.kind, .int .i64 y2.num, str y2.word, .slice p2 y2.kids.length c2])]) rfl (buildSN3 _ _ _ _ _ _ _ _ _ _ _ _ _ _ _ _ _ _)) rfl ?_
    rintro bv wq hN
    have hbv : SlV (b4 :: bm :: X) wq bv [y0, y1, y2] := hN.slvG (css := [ndC y0 _, ndC y1 _, ndC y2 _]) gm.hX rfl rfl rfl (reps3 s0 s1 s2) (by simp [maxLen])
    have hT := NewSl.stp hN
    clear hN
    replace gm := gm.up hT
    clear hT
    refine W ?_
    refine WL_eff (OE_call rfl (evs3 rfl rfl rfl) (node14_any (b4 :: bm :: X) 9 [] bv [y0, y1, y2] _ gm.hX hbv)) rfl ?_
    rintro _ wq ⟨⟨ky, rfl, hy⟩, hT⟩
    replace gm := gm.up hT
    clear hT hbv
    refine W ?_
    obtain ⟨cs, hcl, hcb⟩ := gm.blk
    refine WL_eff0 (OE_storeA (us := ndC (.mk 9 0 [] [y0, y1, y2]) _) rfl rfl rfl rfl (ndC_one (x := (.mk 9 0 [] [y0, y1, y2])) hy) hcb hcl.symm) ?_
    rintro _ wz ⟨hz, hbz⟩
    refine W ?_
    refine WQ_retc rfl rfl rfl hbz rfl ?_
    have hf := gm.fin (y := (.mk 9 0 [] [y0, y1, y2])) hS0 hb4 hy hz
    exact .mk ⟨_, _, hf.1, by rw [size3]; omega, ⟨ty3 ty0 ty1 ty2 (rfl), by rw [nest3]; omega⟩, hf.2.1, by omega, hf.2.2⟩
  have h2 : 2 ≤ d := by omega
  replace ih := ih h2
  replace hsp := hsp h2
  repeat' (first | refine W1 ?_ | (exfalso; omega) | refine WL_split rfl rfl (fun hg => ?_) (fun hg => ?_) | refine WL_splitB rfl rfl (fun hg => ?_) (fun hg => ?_) | refine WC_cond rfl (fun hc => ?_) (fun hc => ?_) | refine WC_condB rfl (fun hc => ?_) (fun hc => ?_))
  refine WC_drawn 16 ([b4, bm]) [] [(1, 0), (5, 0), (6, 0), (7, 0), (9, 0), (10, 0), (11, 0), (0, 2), (2, 2), (3, 0), (4, 1), (8, 2), (12, 2), (13, 2), (14, 2), (15, 2)] rfl mixed (by kernel_rfl) (by kernel_rfl) (by kernel_rfl) (fun w1 hS1 => ?_)
  replace gm := gm.up hS1
  refine D ?_
  refine WD_eff rfl trivial (OE_call rfl (evs1 rfl) (words_any [b4, bm] [43, 32, 45, 32, 42] _ (fun c hc => gm.hX c (by simp at hc; rcases hc with rfl | rfl <;> simp)) (by decide))) (fun _ _ h => h.2.mono (by simp)) rfl ?_
  rintro wv wq ⟨hr, hT⟩
  rw [show wordsOf [43, 32, 45, 32, 42] = opsA by decide] at hr
  have hws := hr.slv (fun c hc => gm.hX c (by simp at hc; rcases hc with rfl | rfl <;> simp))
  replace gm := gm.up hT
  clear hr hT
  refine D ?_
  refine WD_eff rfl trivial (OE_call rfl (evs2 rfl rfl) (Next_any bm lv l _ 3 _ (by decide) (by omega) gm.mkr gm.sl hl)) (fun _ _ h => h.choose_spec.2.2.2.mono (by simp)) rfl ?_
  rintro _ wq ⟨q, rfl, hq, hm, hS⟩
  replace gm := gm.nxt hm hS
  replace hws := hws.ext hS (by simp) (fun _ h => .inl h)
  clear hm hS
  have hqn : q < opsA.length := by show q < 3; omega
  refine D ?_
  refine WD_eff rfl trivial (OE_call rfl (evs2 rfl rfl) ((ih.1) (b4 :: bm :: X) _ bm lv l _ _ (by omega) gm.mkr gm.sl hl (by omega) gm.hX)) (fun _ _ h => by obtain ⟨_, _, _, _, _, _, _, h⟩ := h; exact h.mono (by simp)) rfl ?_
  rintro _ wq ⟨y0, i0, ⟨k0, rfl, s0⟩, z0, ⟨ty0, ne0⟩, hm, hi0, hS⟩
  obtain ⟨p0, c0, rfl, -⟩ := id s0
  replace gm := gm.nxt hm hS
  replace hws := hws.ext hS (by simp) (fun _ h => .inl h)
  clear hm hS
  refine D ?_
  refine WD_eff rfl trivial (OE_call rfl (evs2 rfl rfl) ((ih.1) (b4 :: bm :: X) _ bm lv l _ _ (by omega) gm.mkr gm.sl hl (by omega) gm.hX)) (fun _ _ h => by obtain ⟨_, _, _, _, _, _, _, h⟩ := h; exact h.mono (by simp)) rfl ?_
  rintro _ wq ⟨y1, i1, ⟨k1, rfl, s1⟩, z1, ⟨ty1, ne1⟩, hm, hi1, hS⟩
  obtain ⟨p1, c1, rfl, -⟩ := id s1
  replace gm := gm.nxt hm hS
  replace hws := hws.ext hS (by simp) (fun _ h => .inl h)
  replace s0 := s0.ext hS (by simp) (fun _ h => .inl h)
  clear hm hS
  refine D ?_
  refine WD_eff rfl trivial (OE_buildSlice (vs := [(0, .agg #[.int .i64 y0.kind, .int .i64 y0.num, str y0.word, .slice p0 y0.kids.length c0]), (1, .agg #[.int .i64 y1.kind, .int .i64 y1.num, str y1.word, .slice p1 y1.kids.length c1])]) rfl (buildSN2 _ _ _ _ _ _ _ _ _ _ _ _)) (fun _ _ h => (NewSl.stp h).mono (by simp)) rfl ?_
  rintro bv wq hN
  have hbv : SlV (b4 :: bm :: X) wq bv [y0, y1] := hN.slvG (css := [ndC y0 _, ndC y1 _]) gm.hX rfl rfl rfl (reps2 s0 s1) (by simp [maxLen])
  have hT := NewSl.stp hN
  clear hN
  replace gm := gm.up hT
  replace hws := hws.up hT
  clear hT
  refine D ?_
  refine WD_eff rfl trivial (OE_call rfl (evs3 rfl rfl rfl) (node14_any (b4 :: bm :: X) 6 opsA[q] bv [y0, y1] _ gm.hX hbv)) (fun _ _ h => h.2.mono (by simp)) rfl ?_
  rintro _ wq ⟨⟨ky, rfl, hy⟩, hT⟩
  replace gm := gm.up hT
  clear hT hbv
  refine D ?_
  obtain ⟨cs, hcl, hcb⟩ := gm.blk
  refine WD_eff0 rfl trivial (OE_storeA (us := ndC (.mk 6 0 opsA[q] [y0, y1]) _) rfl rfl rfl rfl (ndC_one (x := (.mk 6 0 opsA[q] [y0, y1])) hy) hcb hcl.symm) (fun _ _ h => h.1.mono (by simp)) ?_
  rintro _ wz ⟨hz, hbz⟩
  refine D ?_
  refine W ?_
  refine WQ_retc rfl rfl rfl hbz rfl ?_
  have hf := gm.fin (y := (.mk 6 0 opsA[q] [y0, y1])) hS0 hb4 hy hz
  exact .mk ⟨_, _, hf.1, by rw [size2]; omega, ⟨ty2 ty0 ty1 (tA _ hqn), by rw [nest2]; omega⟩, hf.2.1, by omega, hf.2.2⟩
end Go.Proofs.YtgpibcgebpgmiaaDoor


namespace Go.Proofs.YtgpibcgebpgmiaaDoor
open Go Go.Eng Go.RowKit
set_option linter.unusedVariables false

theorem boolean_step (d : Nat) (hd1 : 1 ≤ d) (hd2 : d ≤ 6) (ih : 2 ≤ d → GenP 31 (d - 1) ∧ GenP 30 (d - 1) ∧ GenP 29 (d - 1)) : GenP 30 d := by
  intro X w bm lv l i z hz hmk hsl hl hi hX
  subst hz
  have hsz := szD_eq hd1
  have hsp : 2 ≤ d → 1 ≤ szD (d - 1) := fun h => by have := szD_eq (d := d - 1) (by omega); omega
  refine calls_of_WC2 (n := 89) Tryd.func30 rfl rfl rfl ?_
  refine W ?_
  refine WL_eff OE_alloc rfl ?_
  rintro _ w1 ⟨b4, rfl, hb4, hblk4, hS0⟩
  have gm : G (b4 :: bm :: X) w1 w1 bm b4 lv l i := ⟨hmk.up hS0, hsl.up hS0, Stp.refl _ _, ⟨_, rfl, hblk4⟩, fun h => by have := hmk.lt; omega, fun c hc => by
    simp only [List.mem_cons] at hc
    have h1 := hblk4.lt
    have h2 := hmk.lt
    have h3 := hS0.size
    rcases hc with rfl | rfl | hc
    · exact h1
    · omega
    · have := hX c hc; omega⟩
  clear hblk4
  refine W ?_
  refine WL_eff (OE_call rfl (evs2 rfl rfl) (Next_any bm lv l _ 7 _ (by decide) (by omega) gm.mkr gm.sl hl)) rfl ?_
  rintro _ w2 ⟨q, rfl, hq, hm, hS⟩
  replace gm := gm.nxt hm hS
  clear hm hS
  refine W ?_
  refine WC_cutQ (σ := Nat) (fun k => [(0, .pointer (some ⟨bm, 0, none⟩)), (1, .int .i64 (d : Int)), (4, .pointer (some ⟨b4, 0, none⟩)), (5, .int .i64 (k : Int))]) (fun k w' => w' = w2 ∧ k < 7 ∧ (d = 1 → k = 0)) ?_ ?_
  · by_cases h1 : d = 1
    · repeat' (first | refine W1 ?_ | (exfalso; omega) | refine WL_split rfl rfl (fun hg => ?_) (fun hg => ?_) | refine WL_splitB rfl rfl (fun hg => ?_) (fun hg => ?_) | refine WC_cond rfl (fun hc => ?_) (fun hc => ?_) | refine WC_condB rfl (fun hc => ?_) (fun hc => ?_))
      exact WQ_cut 0 ⟨rfl, rfl, rfl, rfl, trivial⟩ ⟨rfl, by omega, fun _ => by omega⟩
    · repeat' (first | refine W1 ?_ | (exfalso; omega) | refine WL_split rfl rfl (fun hg => ?_) (fun hg => ?_) | refine WL_splitB rfl rfl (fun hg => ?_) (fun hg => ?_) | refine WC_cond rfl (fun hc => ?_) (fun hc => ?_) | refine WC_condB rfl (fun hc => ?_) (fun hc => ?_))
      exact WQ_cut q ⟨rfl, rfl, rfl, rfl, trivial⟩ ⟨rfl, by omega, fun h => absurd h h1⟩
  rintro k w3 ⟨rfl, hkn, hk1⟩
  clear hq
  by_cases k0 : k = 0
  · repeat' (first | refine W1 ?_ | (exfalso; omega) | refine WL_split rfl rfl (fun hg => ?_) (fun hg => ?_) | refine WL_splitB rfl rfl (fun hg => ?_) (fun hg => ?_) | refine WC_cond rfl (fun hc => ?_) (fun hc => ?_) | refine WC_condB rfl (fun hc => ?_) (fun hc => ?_))
    refine W ?_
    refine WL_eff (OE_call rfl (evs2 rfl rfl) (Next_any bm lv l _ 2 _ (by decide) (by omega) gm.mkr gm.sl hl)) rfl ?_
    rintro _ wq ⟨q', rfl, hq', hm, hS⟩
    replace gm := gm.nxt hm hS
    clear hm hS
    refine W ?_
    apply WL_build (vs := [(0, .int .i64 2), (1, .int .i64 _)]) rfl (buildN01 _ _) rfl
    have hy : SlV (α := Nd) (b4 :: bm :: X) wq (.slice none 0 0) [] := nilSlv _ _
    obtain ⟨cs, hcl, hcb⟩ := gm.blk
    refine WL_eff0 (OE_storeA (us := ndC (.mk 2 (q' : Int) [] []) _) rfl rfl rfl rfl (ndC_one (x := (.mk 2 (q' : Int) [] [])) hy) hcb hcl.symm) ?_
    rintro _ wz ⟨hz, hbz⟩
    refine W ?_
    refine WQ_retc rfl rfl rfl hbz rfl ?_
    have hf := gm.fin (y := (.mk 2 (q' : Int) [] [])) hS0 hb4 hy hz
    exact .mk ⟨_, _, hf.1, by rw [size0]; omega, ⟨ty0 (lB2 _ (by omega)), by rw [nest0]; omega⟩, hf.2.1, by omega, hf.2.2⟩
  by_cases k1 : k = 1
  · have h2 : 2 ≤ d := by omega
    replace ih := ih h2
    replace hsp := hsp h2
    repeat' (first | refine W1 ?_ | (exfalso; omega) | refine WL_split rfl rfl (fun hg => ?_) (fun hg => ?_) | refine WL_splitB rfl rfl (fun hg => ?_) (fun hg => ?_) | refine WC_cond rfl (fun hc => ?_) (fun hc => ?_) | refine WC_condB rfl (fun hc => ?_) (fun hc => ?_))
    refine W ?_
    refine WL_eff (OE_call rfl (evs2 rfl rfl) ((ih.2.1) (b4 :: bm :: X) _ bm lv l _ _ (by omega) gm.mkr gm.sl hl (by omega) gm.hX)) rfl ?_
    rintro _ wq ⟨y0, i0, ⟨k0, rfl, s0⟩, z0, ⟨ty0, ne0⟩, hm, hi0, hS⟩
    obtain ⟨p0, c0, rfl, -⟩ := id s0
    replace gm := gm.nxt hm hS
    clear hm hS
    refine W ?_
    refine WL_eff (OE_buildSlice (vs := [(0, .agg #[.int .i64 y0.kind, .int .i64 y0.num, str y0.word, .slice p0 y0.kids.length c0])]) rfl (buildSN1 _ _ _ _ _ _)) rfl ?_
    rintro bv wq hN
    have hbv : SlV (b4 :: bm :: X) wq bv [y0] := hN.slvG (css := [ndC y0 _]) gm.hX rfl rfl rfl (reps1 s0) (by simp [maxLen])
    have hT := NewSl.stp hN
    clear hN
    replace gm := gm.up hT
    clear hT
    refine W ?_
    refine WL_eff (OE_call rfl (evs3 rfl rfl rfl) (node14_any (b4 :: bm :: X) 5 [110, 111, 116] bv [y0] _ gm.hX hbv)) rfl ?_
    rintro _ wq ⟨⟨ky, rfl, hy⟩, hT⟩
    replace gm := gm.up hT
    clear hT hbv
    refine W ?_
    obtain ⟨cs, hcl, hcb⟩ := gm.blk
    refine WL_eff0 (OE_storeA (us := ndC (.mk 5 0 [110, 111, 116] [y0]) _) rfl rfl rfl rfl (ndC_one (x := (.mk 5 0 [110, 111, 116] [y0])) hy) hcb hcl.symm) ?_
    rintro _ wz ⟨hz, hbz⟩
    refine W ?_
    refine WQ_retc rfl rfl rfl hbz rfl ?_
    have hf := gm.fin (y := (.mk 5 0 [110, 111, 116] [y0])) hS0 hb4 hy hz
    exact .mk ⟨_, _, hf.1, by rw [size1]; omega, ⟨ty1 ty0 (rfl), by rw [nest1]; omega⟩, hf.2.1, by omega, hf.2.2⟩
  by_cases k2 : k = 2
  · have h2 : 2 ≤ d := by omega
    replace ih := ih h2
    replace hsp := hsp h2
    repeat' (first | refine W1 ?_ | (exfalso; omega) | refine WL_split rfl rfl (fun hg => ?_) (fun hg => ?_) | refine WL_splitB rfl rfl (fun hg => ?_) (fun hg => ?_) | refine WC_cond rfl (fun hc => ?_) (fun hc => ?_) | refine WC_condB rfl (fun hc => ?_) (fun hc => ?_))
    refine WC_drawn 16 ([b4, bm]) [] [(1, 0), (5, 0), (6, 0), (7, 0), (9, 0), (10, 0), (11, 0), (0, 2), (2, 2), (3, 0), (4, 1), (8, 2), (12, 2), (13, 2), (14, 2), (15, 2)] rfl mixed (by kernel_rfl) (by kernel_rfl) (by kernel_rfl) (fun w1 hS1 => ?_)
    replace gm := gm.up hS1
    refine D ?_
    refine WD_eff rfl trivial (OE_call rfl (evs1 rfl) (words_any [b4, bm] [97, 110, 100, 32, 111, 114] _ (fun c hc => gm.hX c (by simp at hc; rcases hc with rfl | rfl <;> simp)) (by decide))) (fun _ _ h => h.2.mono (by simp)) rfl ?_
    rintro wv wq ⟨hr, hT⟩
    rw [show wordsOf [97, 110, 100, 32, 111, 114] = opsL by decide] at hr
    have hws := hr.slv (fun c hc => gm.hX c (by simp at hc; rcases hc with rfl | rfl <;> simp))
    replace gm := gm.up hT
    clear hr hT
    refine D ?_
    refine WD_eff rfl trivial (OE_call rfl (evs2 rfl rfl) (Next_any bm lv l _ 2 _ (by decide) (by omega) gm.mkr gm.sl hl)) (fun _ _ h => h.choose_spec.2.2.2.mono (by simp)) rfl ?_
    rintro _ wq ⟨q, rfl, hq, hm, hS⟩
    replace gm := gm.nxt hm hS
    replace hws := hws.ext hS (by simp) (fun _ h => .inl h)
    clear hm hS
    have hqn : q < opsL.length := by show q < 2; omega
    refine D ?_
    refine WD_eff rfl trivial (OE_call rfl (evs2 rfl rfl) ((ih.2.1) (b4 :: bm :: X) _ bm lv l _ _ (by omega) gm.mkr gm.sl hl (by omega) gm.hX)) (fun _ _ h => by obtain ⟨_, _, _, _, _, _, _, h⟩ := h; exact h.mono (by simp)) rfl ?_
    rintro _ wq ⟨y0, i0, ⟨k0, rfl, s0⟩, z0, ⟨ty0, ne0⟩, hm, hi0, hS⟩
    obtain ⟨p0, c0, rfl, -⟩ := id s0
    replace gm := gm.nxt hm hS
    replace hws := hws.ext hS (by simp) (fun _ h => .inl h)
    clear hm hS
    refine D ?_
    refine WD_eff rfl trivial (OE_call rfl (evs2 rfl rfl) ((ih.2.1) (b4 :: bm :: X) _ bm lv l _ _ (by omega) gm.mkr gm.sl hl (by omega) gm.hX)) (fun _ _ h => by obtain ⟨_, _, _, _, _, _, _, h⟩ := h; exact h.mono (by simp)) rfl ?_
    rintro _ wq ⟨y1, i1, ⟨k1, rfl, s1⟩, z1, ⟨ty1, ne1⟩, hm, hi1, hS⟩
    obtain ⟨p1, c1, rfl, -⟩ := id s1
    replace gm := gm.nxt hm hS
    replace hws := hws.ext hS (by simp) (fun _ h => .inl h)
    replace s0 := s0.ext hS (by simp) (fun _ h => .inl h)
    clear hm hS
    refine D ?_
    refine WD_eff rfl trivial (OE_buildSlice (vs := [(0, .agg #[.int .i64 y0.kind, .int .i64 y0.num, str y0.word, .slice p0 y0.kids.length c0]), (1, .agg #[.int .i64 y1.kind, .int .i64 y1.num, str y1.word, .slice p1 y1.kids.length c1])]) rfl (buildSN2 _ _ _ _ _ _ _ _ _ _ _ _)) (fun _ _ h => (NewSl.stp h).mono (by simp)) rfl ?_
    rintro bv wq hN
    have hbv : SlV (b4 :: bm :: X) wq bv [y0, y1] := hN.slvG (css := [ndC y0 _, ndC y1 _]) gm.hX rfl rfl rfl (reps2 s0 s1) (by simp [maxLen])
    have hT := NewSl.stp hN
    clear hN
    replace gm := gm.up hT
    replace hws := hws.up hT
    clear hT
    refine D ?_
    refine WD_eff rfl trivial (OE_call rfl (evs3 rfl rfl rfl) (node14_any (b4 :: bm :: X) 6 opsL[q] bv [y0, y1] _ gm.hX hbv)) (fun _ _ h => h.2.mono (by simp)) rfl ?_
    rintro _ wq ⟨⟨ky, rfl, hy⟩, hT⟩
    replace gm := gm.up hT
    clear hT hbv
    refine D ?_
    obtain ⟨cs, hcl, hcb⟩ := gm.blk
    refine WD_eff0 rfl trivial (OE_storeA (us := ndC (.mk 6 0 opsL[q] [y0, y1]) _) rfl rfl rfl rfl (ndC_one (x := (.mk 6 0 opsL[q] [y0, y1])) hy) hcb hcl.symm) (fun _ _ h => h.1.mono (by simp)) ?_
    rintro _ wz ⟨hz, hbz⟩
    refine D ?_
    refine W ?_
    refine WQ_retc rfl rfl rfl hbz rfl ?_
    have hf := gm.fin (y := (.mk 6 0 opsL[q] [y0, y1])) hS0 hb4 hy hz
    exact .mk ⟨_, _, hf.1, by rw [size2]; omega, ⟨ty2 ty0 ty1 (tL _ hqn), by rw [nest2]; omega⟩, hf.2.1, by omega, hf.2.2⟩
  by_cases k3 : k = 3
  · have h2 : 2 ≤ d := by omega
    replace ih := ih h2
    replace hsp := hsp h2
    repeat' (first | refine W1 ?_ | (exfalso; omega) | refine WL_split rfl rfl (fun hg => ?_) (fun hg => ?_) | refine WL_splitB rfl rfl (fun hg => ?_) (fun hg => ?_) | refine WC_cond rfl (fun hc => ?_) (fun hc => ?_) | refine WC_condB rfl (fun hc => ?_) (fun hc => ?_))
    refine W ?_
    refine WL_eff (OE_call rfl (evs2 rfl rfl) ((ih.2.1) (b4 :: bm :: X) _ bm lv l _ _ (by omega) gm.mkr gm.sl hl (by omega) gm.hX)) rfl ?_
    rintro _ wq ⟨y0, i0, ⟨k0, rfl, s0⟩, z0, ⟨ty0, ne0⟩, hm, hi0, hS⟩
    obtain ⟨p0, c0, rfl, -⟩ := id s0
    replace gm := gm.nxt hm hS
    clear hm hS
    refine W ?_
    refine WL_eff (OE_call rfl (evs2 rfl rfl) ((ih.2.1) (b4 :: bm :: X) _ bm lv l _ _ (by omega) gm.mkr gm.sl hl (by omega) gm.hX)) rfl ?_
    rintro _ wq ⟨y1, i1, ⟨k1, rfl, s1⟩, z1, ⟨ty1, ne1⟩, hm, hi1, hS⟩
    obtain ⟨p1, c1, rfl, -⟩ := id s1
    replace gm := gm.nxt hm hS
    replace s0 := s0.ext hS (by simp) (fun _ h => .inl h)
    clear hm hS
    refine W ?_
    refine WL_eff (OE_call rfl (evs2 rfl rfl) ((ih.2.1) (b4 :: bm :: X) _ bm lv l _ _ (by omega) gm.mkr gm.sl hl (by omega) gm.hX)) rfl ?_
    rintro _ wq ⟨y2, i2, ⟨k2, rfl, s2⟩, z2, ⟨ty2, ne2⟩, hm, hi2, hS⟩
    obtain ⟨p2, c2, rfl, -⟩ := id s2
    replace gm := gm.nxt hm hS
    replace s0 := s0.ext hS (by simp) (fun _ h => .inl h)
    replace s1 := s1.ext hS (by simp) (fun _ h => .inl h)
    clear hm hS
    refine W ?_
    refine WL_eff (OE_buildSlice (vs := [(0, .agg #[.int .i64 y0.kind, .int .i64 y0.num, str y0.word, .slice p0 y0.kids.length c0]), (1, .agg #[.int .i64 y1.kind, .int .i64 y1.num, str y1.word, .slice p1 y1.kids.length c1]), (2, .agg #[.int .i64 y2.kind, .int .i64 y2.num, str y2.word, .slice p2 y2.kids.length c2])]) rfl (buildSN3 _ _ _ _ _ _ _ _ _ _ _ _ _ _ _ _ _ _)) rfl ?_
    rintro bv wq hN
    have hbv : SlV (b4 :: bm :: X) wq bv [y0, y1, y2] := hN.slvG (css := [ndC y0 _, ndC y1 _, ndC y2 _]) gm.hX rfl rfl rfl (reps3 s0 s1 s2) (by simp [maxLen])
    have hT := NewSl.stp hN
    clear hN
    replace gm := gm.up hT
    clear hT
    refine W ?_
    refine WL_eff (OE_call rfl (evs3 rfl rfl rfl) (node14_any (b4 :: bm :: X) 9 [] bv [y0, y1, y2] _ gm.hX hbv)) rfl ?_
    rintro _ wq ⟨⟨ky, rfl, hy⟩, hT⟩
    replace gm := gm.up hT
    clear hT hbv
    refine W ?_
    obtain ⟨cs, hcl, hcb⟩ := gm.blk
    refine WL_eff0 (OE_storeA (us := ndC (.mk 9 0 [] [y0, y1, y2]) _) rfl rfl rfl rfl (ndC_one (x := (.mk 9 0 [] [y0, y1, y2])) hy) hcb hcl.symm) ?_
    rintro _ wz ⟨hz, hbz⟩
    refine W ?_
    refine WQ_retc rfl rfl rfl hbz rfl ?_
    have hf := gm.fin (y := (.mk 9 0 [] [y0, y1, y2])) hS0 hb4 hy hz
    exact .mk ⟨_, _, hf.1, by rw [size3]; omega, ⟨ty3 ty0 ty1 ty2 (rfl), by rw [nest3]; omega⟩, hf.2.1, by omega, hf.2.2⟩
  by_cases k4 : k = 4
  · have h2 : 2 ≤ d := by omega
    replace ih := ih h2
    replace hsp := hsp h2
    repeat' (first | refine W1 ?_ | (exfalso; omega) | refine WL_split rfl rfl (fun hg => ?_) (fun hg => ?_) | refine WL_splitB rfl rfl (fun hg => ?_) (fun hg => ?_) | refine WC_cond rfl (fun hc => ?_) (fun hc => ?_) | refine WC_condB rfl (fun hc => ?_) (fun hc => ?_))
    refine WC_drawn 16 ([b4, bm]) [] [(1, 0), (5, 0), (6, 0), (7, 0), (9, 0), (10, 0), (11, 0), (0, 2), (2, 2), (3, 0), (4, 1), (8, 2), (12, 2), (13, 2), (14, 2), (15, 2)] rfl mixed (by kernel_rfl) (by kernel_rfl) (by kernel_rfl) (fun w1 hS1 => ?_)
    replace gm := gm.up hS1
    refine D ?_
    refine WD_eff rfl trivial (OE_call rfl (evs1 rfl) (words_any [b4, bm] [60, 32, 60, 61, 32, 61, 32, 33, 61, 32, 62, 32, 62, 61] _ (fun c hc => gm.hX c (by simp at hc; rcases hc with rfl | rfl <;> simp)) (by decide))) (fun _ _ h => h.2.mono (by simp)) rfl ?_
    rintro wv wq ⟨hr, hT⟩
    rw [show wordsOf [60, 32, 60, 61, 32, 61, 32, 33, 61, 32, 62, 32, 62, 61] = opsC by decide] at hr
    have hws := hr.slv (fun c hc => gm.hX c (by simp at hc; rcases hc with rfl | rfl <;> simp))
    replace gm := gm.up hT
    clear hr hT
    refine D ?_
    refine WD_eff rfl trivial (OE_call rfl (evs2 rfl rfl) (Next_any bm lv l _ 6 _ (by decide) (by omega) gm.mkr gm.sl hl)) (fun _ _ h => h.choose_spec.2.2.2.mono (by simp)) rfl ?_
    rintro _ wq ⟨q, rfl, hq, hm, hS⟩
    replace gm := gm.nxt hm hS
    replace hws := hws.ext hS (by simp) (fun _ h => .inl h)
    clear hm hS
    have hqn : q < opsC.length := by show q < 6; omega
    refine D ?_
    refine WD_eff rfl trivial (OE_call rfl (evs2 rfl rfl) ((ih.2.2) (b4 :: bm :: X) _ bm lv l _ _ (by omega) gm.mkr gm.sl hl (by omega) gm.hX)) (fun _ _ h => by obtain ⟨_, _, _, _, _, _, _, h⟩ := h; exact h.mono (by simp)) rfl ?_
    rintro _ wq ⟨y0, i0, ⟨k0, rfl, s0⟩, z0, ⟨ty0, ne0⟩, hm, hi0, hS⟩
    obtain ⟨p0, c0, rfl, -⟩ := id s0
    replace gm := gm.nxt hm hS
    replace hws := hws.ext hS (by simp) (fun _ h => .inl h)
    clear hm hS
    refine D ?_
    refine WD_eff rfl trivial (OE_call rfl (evs2 rfl rfl) ((ih.2.2) (b4 :: bm :: X) _ bm lv l _ _ (by omega) gm.mkr gm.sl hl (by omega) gm.hX)) (fun _ _ h => by obtain ⟨_, _, _, _, _, _, _, h⟩ := h; exact h.mono (by simp)) rfl ?_
    rintro _ wq ⟨y1, i1, ⟨k1, rfl, s1⟩, z1, ⟨ty1, ne1⟩, hm, hi1, hS⟩
    obtain ⟨p1, c1, rfl, -⟩ := id s1
    replace gm := gm.nxt hm hS
    replace hws := hws.ext hS (by simp) (fun _ h => .inl h)
    replace s0 := s0.ext hS (by simp) (fun _ h => .inl h)
    clear hm hS
    refine D ?_
    refine WD_eff rfl trivial (OE_buildSlice (vs := [(0, .agg #[.int .i64 y0.kind, .int .i64 y0.num, str y0.word, .slice p0 y0.kids.length c0]), (1, .agg #[.int .i64 y1.kind, .int .i64 y1.num, str y1.word, .slice p1 y1.kids.length c1])]) rfl (buildSN2 _ _ _ _ _ _ _ _ _ _ _ _)) (fun _ _ h => (NewSl.stp h).mono (by simp)) rfl ?_
    rintro bv wq hN
    have hbv : SlV (b4 :: bm :: X) wq bv [y0, y1] := hN.slvG (css := [ndC y0 _, ndC y1 _]) gm.hX rfl rfl rfl (reps2 s0 s1) (by simp [maxLen])
    have hT := NewSl.stp hN
    clear hN
    replace gm := gm.up hT
    replace hws := hws.up hT
    clear hT
    refine D ?_
    refine WD_eff rfl trivial (OE_call rfl (evs3 rfl rfl rfl) (node14_any (b4 :: bm :: X) 6 opsC[q] bv [y0, y1] _ gm.hX hbv)) (fun _ _ h => h.2.mono (by simp)) rfl ?_
    rintro _ wq ⟨⟨ky, rfl, hy⟩, hT⟩
    replace gm := gm.up hT
    clear hT hbv
    refine D ?_
    obtain ⟨cs, hcl, hcb⟩ := gm.blk
    refine WD_eff0 rfl trivial (OE_storeA (us := ndC (.mk 6 0 opsC[q] [y0, y1]) _) rfl rfl rfl rfl (ndC_one (x := (.mk 6 0 opsC[q] [y0, y1])) hy) hcb hcl.symm) (fun _ _ h => h.1.mono (by simp)) ?_
    rintro _ wz ⟨hz, hbz⟩
    refine D ?_
    refine W ?_
    refine WQ_retc rfl rfl rfl hbz rfl ?_
    have hf := gm.fin (y := (.mk 6 0 opsC[q] [y0, y1])) hS0 hb4 hy hz
    exact .mk ⟨_, _, hf.1, by rw [size2]; omega, ⟨ty2 ty0 ty1 (tCd _ hqn), by rw [nest2]; omega⟩, hf.2.1, by omega, hf.2.2⟩
  have h2 : 2 ≤ d := by omega
  replace ih := ih h2
  replace hsp := hsp h2
  repeat' (first | refine W1 ?_ | (exfalso; omega) | refine WL_split rfl rfl (fun hg => ?_) (fun hg => ?_) | refine WL_splitB rfl rfl (fun hg => ?_) (fun hg => ?_) | refine WC_cond rfl (fun hc => ?_) (fun hc => ?_) | refine WC_condB rfl (fun hc => ?_) (fun hc => ?_))
  refine WC_drawn 16 ([b4, bm]) [] [(1, 0), (5, 0), (6, 0), (7, 0), (9, 0), (10, 0), (11, 0), (0, 2), (2, 2), (3, 0), (4, 1), (8, 2), (12, 2), (13, 2), (14, 2), (15, 2)] rfl mixed (by kernel_rfl) (by kernel_rfl) (by kernel_rfl) (fun w1 hS1 => ?_)
  replace gm := gm.up hS1
  refine D ?_
  refine WD_eff rfl trivial (OE_call rfl (evs1 rfl) (words_any [b4, bm] [60, 32, 60, 61, 32, 61, 32, 33, 61, 32, 62, 32, 62, 61] _ (fun c hc => gm.hX c (by simp at hc; rcases hc with rfl | rfl <;> simp)) (by decide))) (fun _ _ h => h.2.mono (by simp)) rfl ?_
  rintro wv wq ⟨hr, hT⟩
  rw [show wordsOf [60, 32, 60, 61, 32, 61, 32, 33, 61, 32, 62, 32, 62, 61] = opsC by decide] at hr
  have hws := hr.slv (fun c hc => gm.hX c (by simp at hc; rcases hc with rfl | rfl <;> simp))
  replace gm := gm.up hT
  clear hr hT
  refine D ?_
  refine WD_eff rfl trivial (OE_call rfl (evs2 rfl rfl) (Next_any bm lv l _ 6 _ (by decide) (by omega) gm.mkr gm.sl hl)) (fun _ _ h => h.choose_spec.2.2.2.mono (by simp)) rfl ?_
  rintro _ wq ⟨q, rfl, hq, hm, hS⟩
  replace gm := gm.nxt hm hS
  replace hws := hws.ext hS (by simp) (fun _ h => .inl h)
  clear hm hS
  have hqn : q < opsC.length := by show q < 6; omega
  refine D ?_
  refine WD_eff rfl trivial (OE_call rfl (evs2 rfl rfl) ((ih.1) (b4 :: bm :: X) _ bm lv l _ _ (by omega) gm.mkr gm.sl hl (by omega) gm.hX)) (fun _ _ h => by obtain ⟨_, _, _, _, _, _, _, h⟩ := h; exact h.mono (by simp)) rfl ?_
  rintro _ wq ⟨y0, i0, ⟨k0, rfl, s0⟩, z0, ⟨ty0, ne0⟩, hm, hi0, hS⟩
  obtain ⟨p0, c0, rfl, -⟩ := id s0
  replace gm := gm.nxt hm hS
  replace hws := hws.ext hS (by simp) (fun _ h => .inl h)
  clear hm hS
  refine D ?_
  refine WD_eff rfl trivial (OE_call rfl (evs2 rfl rfl) ((ih.1) (b4 :: bm :: X) _ bm lv l _ _ (by omega) gm.mkr gm.sl hl (by omega) gm.hX)) (fun _ _ h => by obtain ⟨_, _, _, _, _, _, _, h⟩ := h; exact h.mono (by simp)) rfl ?_
  rintro _ wq ⟨y1, i1, ⟨k1, rfl, s1⟩, z1, ⟨ty1, ne1⟩, hm, hi1, hS⟩
  obtain ⟨p1, c1, rfl, -⟩ := id s1
  replace gm := gm.nxt hm hS
  replace hws := hws.ext hS (by simp) (fun _ h => .inl h)
  replace s0 := s0.ext hS (by simp) (fun _ h => .inl h)
  clear hm hS
  refine D ?_
  refine WD_eff rfl trivial (OE_buildSlice (vs := [(0, .agg #[.int .i64 y0.kind, .int .i64 y0.num, str y0.word, .slice p0 y0.kids.length c0]), (1, .agg #[.int .i64 y1.kind, .int .i64 y1.num, str y1.word, .slice p1 y1.kids.length c1])]) rfl (buildSN2 _ _ _ _ _ _ _ _ _ _ _ _)) (fun _ _ h => (NewSl.stp h).mono (by simp)) rfl ?_
  rintro bv wq hN
  have hbv : SlV (b4 :: bm :: X) wq bv [y0, y1] := hN.slvG (css := [ndC y0 _, ndC y1 _]) gm.hX rfl rfl rfl (reps2 s0 s1) (by simp [maxLen])
  have hT := NewSl.stp hN
  clear hN
  replace gm := gm.up hT
  replace hws := hws.up hT
  clear hT
  refine D ?_
  refine WD_eff rfl trivial (OE_call rfl (evs3 rfl rfl rfl) (node14_any (b4 :: bm :: X) 6 opsC[q] bv [y0, y1] _ gm.hX hbv)) (fun _ _ h => h.2.mono (by simp)) rfl ?_
  rintro _ wq ⟨⟨ky, rfl, hy⟩, hT⟩
  replace gm := gm.up hT
  clear hT hbv
  refine D ?_
  obtain ⟨cs, hcl, hcb⟩ := gm.blk
  refine WD_eff0 rfl trivial (OE_storeA (us := ndC (.mk 6 0 opsC[q] [y0, y1]) _) rfl rfl rfl rfl (ndC_one (x := (.mk 6 0 opsC[q] [y0, y1])) hy) hcb hcl.symm) (fun _ _ h => h.1.mono (by simp)) ?_
  rintro _ wz ⟨hz, hbz⟩
  refine D ?_
  refine W ?_
  refine WQ_retc rfl rfl rfl hbz rfl ?_
  have hf := gm.fin (y := (.mk 6 0 opsC[q] [y0, y1])) hS0 hb4 hy hz
  exact .mk ⟨_, _, hf.1, by rw [size2]; omega, ⟨ty2 ty0 ty1 (tCn _ hqn), by rw [nest2]; omega⟩, hf.2.1, by omega, hf.2.2⟩
end Go.Proofs.YtgpibcgebpgmiaaDoor


namespace Go.Proofs.YtgpibcgebpgmiaaDoor
open Go Go.Eng Go.RowKit
set_option linter.unusedVariables false

theorem date_step (d : Nat) (hd1 : 1 ≤ d) (hd2 : d ≤ 6) (ih : 2 ≤ d → GenP 31 (d - 1) ∧ GenP 30 (d - 1) ∧ GenP 29 (d - 1)) : GenP 29 d := by
  intro X w bm lv l i z hz hmk hsl hl hi hX
  subst hz
  have hsz := szD_eq hd1
  have hsp : 2 ≤ d → 1 ≤ szD (d - 1) := fun h => by have := szD_eq (d := d - 1) (by omega); omega
  refine calls_of_WC2 (n := 94) Tryd.func29 rfl rfl rfl ?_
  refine W ?_
  refine WL_eff OE_alloc rfl ?_
  rintro _ w1 ⟨b4, rfl, hb4, hblk4, hS0⟩
  have gm : G (b4 :: bm :: X) w1 w1 bm b4 lv l i := ⟨hmk.up hS0, hsl.up hS0, Stp.refl _ _, ⟨_, rfl, hblk4⟩, fun h => by have := hmk.lt; omega, fun c hc => by
    simp only [List.mem_cons] at hc
    have h1 := hblk4.lt
    have h2 := hmk.lt
    have h3 := hS0.size
    rcases hc with rfl | rfl | hc
    · exact h1
    · omega
    · have := hX c hc; omega⟩
  clear hblk4
  refine W ?_
  refine WL_eff (OE_call rfl (evs2 rfl rfl) (Next_any bm lv l _ 9 _ (by decide) (by omega) gm.mkr gm.sl hl)) rfl ?_
  rintro _ w2 ⟨q, rfl, hq, hm, hS⟩
  replace gm := gm.nxt hm hS
  clear hm hS
  refine W ?_
  refine WC_cutQ (σ := Nat) (fun k => [(0, .pointer (some ⟨bm, 0, none⟩)), (1, .int .i64 (d : Int)), (4, .pointer (some ⟨b4, 0, none⟩)), (5, .int .i64 (k : Int))]) (fun k w' => w' = w2 ∧ k < 9 ∧ (d = 1 → k < 3)) ?_ ?_
  · by_cases h1 : d = 1
    · repeat' (first | refine W1 ?_ | (exfalso; omega) | refine WL_split rfl rfl (fun hg => ?_) (fun hg => ?_) | refine WL_splitB rfl rfl (fun hg => ?_) (fun hg => ?_) | refine WC_cond rfl (fun hc => ?_) (fun hc => ?_) | refine WC_condB rfl (fun hc => ?_) (fun hc => ?_))
      exact WQ_cut (q % 3) ⟨rfl, rfl, rfl, rfl, trivial⟩ ⟨rfl, by omega, fun _ => by omega⟩
    · repeat' (first | refine W1 ?_ | (exfalso; omega) | refine WL_split rfl rfl (fun hg => ?_) (fun hg => ?_) | refine WL_splitB rfl rfl (fun hg => ?_) (fun hg => ?_) | refine WC_cond rfl (fun hc => ?_) (fun hc => ?_) | refine WC_condB rfl (fun hc => ?_) (fun hc => ?_))
      exact WQ_cut q ⟨rfl, rfl, rfl, rfl, trivial⟩ ⟨rfl, by omega, fun h => absurd h h1⟩
  rintro k w3 ⟨rfl, hkn, hk1⟩
  clear hq
  by_cases k0 : k ≤ 1
  · repeat' (first | refine W1 ?_ | (exfalso; omega) | refine WL_split rfl rfl (fun hg => ?_) (fun hg => ?_) | refine WL_splitB rfl rfl (fun hg => ?_) (fun hg => ?_) | refine WC_cond rfl (fun hc => ?_) (fun hc => ?_) | refine WC_condB rfl (fun hc => ?_) (fun hc => ?_))
    all_goals
      refine WL_eff (OE_call rfl evs0 (Fields_any [bm] _ (fun c hc => gm.hX c (by simp at hc; subst hc; simp)))) rfl ?_
      rintro fv wq ⟨hr, hT⟩
      have hws := hr.slv (fun c hc => gm.hX c (by simp at hc; subst hc; simp))
      replace gm := gm.up hT
      clear hr hT
      refine W ?_
      refine WL_eff (OE_call rfl (evs2 rfl rfl) (Next_any bm lv l _ 3 _ (by decide) (by omega) gm.mkr gm.sl hl)) rfl ?_
      rintro _ wq ⟨q', rfl, hq', hm, hS⟩
      replace gm := gm.nxt hm hS
      replace hws := hws.ext hS (by simp) (fun _ h => .inl h)
      clear hm hS
      have hqn : q' / 2 < fieldNames.length := by show q' / 2 < 7; omega
      refine W ?_
      apply WL_build (vs := [(0, .int .i64 4), (2, str _)]) rfl (buildN02 _ _) rfl
      have hy : SlV (α := Nd) (b4 :: bm :: X) wq (.slice none 0 0) [] := nilSlv _ _
      obtain ⟨cs, hcl, hcb⟩ := gm.blk
      refine WL_eff0 (OE_storeA (us := ndC (.mk 4 0 fieldNames[q' / 2] []) _) rfl rfl rfl rfl (ndC_one (x := (.mk 4 0 fieldNames[q' / 2] [])) hy) hcb hcl.symm) ?_
      rintro _ wz ⟨hz, hbz⟩
      refine W ?_
      refine WQ_retc rfl rfl rfl hbz rfl ?_
      have hf := gm.fin (y := (.mk 4 0 fieldNames[q' / 2] [])) hS0 hb4 hy hz
      exact .mk ⟨_, _, hf.1, by rw [size0]; omega, ⟨ty0 (lF3 _ (by omega) hqn), by rw [nest0]; omega⟩, hf.2.1, by omega, hf.2.2⟩
  by_cases k2 : k = 2
  · repeat' (first | refine W1 ?_ | (exfalso; omega) | refine WL_split rfl rfl (fun hg => ?_) (fun hg => ?_) | refine WL_splitB rfl rfl (fun hg => ?_) (fun hg => ?_) | refine WC_cond rfl (fun hc => ?_) (fun hc => ?_) | refine WC_condB rfl (fun hc => ?_) (fun hc => ?_))
    refine W ?_
    refine WL_eff (OE_call rfl (evs2 rfl rfl) (Next_any bm lv l _ 200 _ (by decide) (by omega) gm.mkr gm.sl hl)) rfl ?_
    rintro _ wq ⟨q', rfl, hq', hm, hS⟩
    replace gm := gm.nxt hm hS
    clear hm hS
    refine W ?_
    apply WL_build (vs := [(0, .int .i64 3), (1, .int .i64 _)]) rfl (buildN01 _ _) rfl
    have hy : SlV (α := Nd) (b4 :: bm :: X) wq (.slice none 0 0) [] := nilSlv _ _
    obtain ⟨cs, hcl, hcb⟩ := gm.blk
    refine WL_eff0 (OE_storeA (us := ndC (.mk 3 (739600 + (q' : Int)) [] []) _) rfl rfl rfl rfl (ndC_one (x := (.mk 3 (739600 + (q' : Int)) [] [])) hy) hcb hcl.symm) ?_
    rintro _ wz ⟨hz, hbz⟩
    refine W ?_
    refine WQ_retc rfl rfl rfl hbz rfl ?_
    have hf := gm.fin (y := (.mk 3 (739600 + (q' : Int)) [] [])) hS0 hb4 hy hz
    exact .mk ⟨_, _, hf.1, by rw [size0]; omega, ⟨ty0 (lD3 _ (by omega)), by rw [nest0]; omega⟩, hf.2.1, by omega, hf.2.2⟩
  by_cases k3 : k = 3
  · have h2 : 2 ≤ d := by omega
    replace ih := ih h2
    replace hsp := hsp h2
    repeat' (first | refine W1 ?_ | (exfalso; omega) | refine WL_split rfl rfl (fun hg => ?_) (fun hg => ?_) | refine WL_splitB rfl rfl (fun hg => ?_) (fun hg => ?_) | refine WC_cond rfl (fun hc => ?_) (fun hc => ?_) | refine WC_condB rfl (fun hc => ?_) (fun hc => ?_))
    refine WC_drawn 12 ([b4, bm]) [] [(1, 0), (5, 0), (6, 0), (7, 0), (0, 2), (2, 2), (3, 0), (4, 1), (8, 2), (9, 2), (10, 2), (11, 2)] rfl mixed (by kernel_rfl) (by kernel_rfl) (by kernel_rfl) (fun w1 hS1 => ?_)
    replace gm := gm.up hS1
    refine D ?_
    refine WD_eff rfl trivial (OE_call rfl (evs1 rfl) (words_any [b4, bm] [110, 101, 120, 116, 32, 112, 114, 101, 118] _ (fun c hc => gm.hX c (by simp at hc; rcases hc with rfl | rfl <;> simp)) (by decide))) (fun _ _ h => h.2.mono (by simp)) rfl ?_
    rintro wv wq ⟨hr, hT⟩
    rw [show wordsOf [110, 101, 120, 116, 32, 112, 114, 101, 118] = opsN by decide] at hr
    have hws := hr.slv (fun c hc => gm.hX c (by simp at hc; rcases hc with rfl | rfl <;> simp))
    replace gm := gm.up hT
    clear hr hT
    refine D ?_
    refine WD_eff rfl trivial (OE_call rfl (evs2 rfl rfl) (Next_any bm lv l _ 2 _ (by decide) (by omega) gm.mkr gm.sl hl)) (fun _ _ h => h.choose_spec.2.2.2.mono (by simp)) rfl ?_
    rintro _ wq ⟨q, rfl, hq, hm, hS⟩
    replace gm := gm.nxt hm hS
    replace hws := hws.ext hS (by simp) (fun _ h => .inl h)
    clear hm hS
    have hqn : q < opsN.length := by show q < 2; omega
    refine D ?_
    refine WD_eff rfl trivial (OE_call rfl (evs2 rfl rfl) ((ih.2.2) (b4 :: bm :: X) _ bm lv l _ _ (by omega) gm.mkr gm.sl hl (by omega) gm.hX)) (fun _ _ h => by obtain ⟨_, _, _, _, _, _, _, h⟩ := h; exact h.mono (by simp)) rfl ?_
    rintro _ wq ⟨y0, i0, ⟨k0, rfl, s0⟩, z0, ⟨ty0, ne0⟩, hm, hi0, hS⟩
    obtain ⟨p0, c0, rfl, -⟩ := id s0
    replace gm := gm.nxt hm hS
    replace hws := hws.ext hS (by simp) (fun _ h => .inl h)
    clear hm hS
    refine D ?_
    refine WD_eff rfl trivial (OE_buildSlice (vs := [(0, .agg #[.int .i64 y0.kind, .int .i64 y0.num, str y0.word, .slice p0 y0.kids.length c0])]) rfl (buildSN1 _ _ _ _ _ _)) (fun _ _ h => (NewSl.stp h).mono (by simp)) rfl ?_
    rintro bv wq hN
    have hbv : SlV (b4 :: bm :: X) wq bv [y0] := hN.slvG (css := [ndC y0 _]) gm.hX rfl rfl rfl (reps1 s0) (by simp [maxLen])
    have hT := NewSl.stp hN
    clear hN
    replace gm := gm.up hT
    replace hws := hws.up hT
    clear hT
    refine D ?_
    refine WD_eff rfl trivial (OE_call rfl (evs3 rfl rfl rfl) (node14_any (b4 :: bm :: X) 10 opsN[q] bv [y0] _ gm.hX hbv)) (fun _ _ h => h.2.mono (by simp)) rfl ?_
    rintro _ wq ⟨⟨ky, rfl, hy⟩, hT⟩
    replace gm := gm.up hT
    clear hT hbv
    refine D ?_
    obtain ⟨cs, hcl, hcb⟩ := gm.blk
    refine WD_eff0 rfl trivial (OE_storeA (us := ndC (.mk 10 0 opsN[q] [y0]) _) rfl rfl rfl rfl (ndC_one (x := (.mk 10 0 opsN[q] [y0])) hy) hcb hcl.symm) (fun _ _ h => h.1.mono (by simp)) ?_
    rintro _ wz ⟨hz, hbz⟩
    refine D ?_
    refine W ?_
    refine WQ_retc rfl rfl rfl hbz rfl ?_
    have hf := gm.fin (y := (.mk 10 0 opsN[q] [y0])) hS0 hb4 hy hz
    exact .mk ⟨_, _, hf.1, by rw [size1]; omega, ⟨ty1 ty0 (tN _ hqn), by rw [nest1]; omega⟩, hf.2.1, by omega, hf.2.2⟩
  by_cases k4 : k = 4
  · have h2 : 2 ≤ d := by omega
    replace ih := ih h2
    replace hsp := hsp h2
    repeat' (first | refine W1 ?_ | (exfalso; omega) | refine WL_split rfl rfl (fun hg => ?_) (fun hg => ?_) | refine WL_splitB rfl rfl (fun hg => ?_) (fun hg => ?_) | refine WC_cond rfl (fun hc => ?_) (fun hc => ?_) | refine WC_condB rfl (fun hc => ?_) (fun hc => ?_))
    refine WC_drawn 16 ([b4, bm]) [] [(1, 0), (5, 0), (6, 0), (7, 0), (9, 0), (10, 0), (11, 0), (0, 2), (2, 2), (3, 0), (4, 1), (8, 2), (12, 2), (13, 2), (14, 2), (15, 2)] rfl mixed (by kernel_rfl) (by kernel_rfl) (by kernel_rfl) (fun w1 hS1 => ?_)
    replace gm := gm.up hS1
    refine D ?_
    refine WD_eff rfl trivial (OE_call rfl (evs1 rfl) (words_any [b4, bm] [108, 97, 116, 101, 114, 32, 101, 97, 114, 108, 105, 101, 114] _ (fun c hc => gm.hX c (by simp at hc; rcases hc with rfl | rfl <;> simp)) (by decide))) (fun _ _ h => h.2.mono (by simp)) rfl ?_
    rintro wv wq ⟨hr, hT⟩
    rw [show wordsOf [108, 97, 116, 101, 114, 32, 101, 97, 114, 108, 105, 101, 114] = opsE by decide] at hr
    have hws := hr.slv (fun c hc => gm.hX c (by simp at hc; rcases hc with rfl | rfl <;> simp))
    replace gm := gm.up hT
    clear hr hT
    refine D ?_
    refine WD_eff rfl trivial (OE_call rfl (evs2 rfl rfl) (Next_any bm lv l _ 2 _ (by decide) (by omega) gm.mkr gm.sl hl)) (fun _ _ h => h.choose_spec.2.2.2.mono (by simp)) rfl ?_
    rintro _ wq ⟨q, rfl, hq, hm, hS⟩
    replace gm := gm.nxt hm hS
    replace hws := hws.ext hS (by simp) (fun _ h => .inl h)
    clear hm hS
    have hqn : q < opsE.length := by show q < 2; omega
    refine D ?_
    refine WD_eff rfl trivial (OE_call rfl (evs2 rfl rfl) ((ih.2.2) (b4 :: bm :: X) _ bm lv l _ _ (by omega) gm.mkr gm.sl hl (by omega) gm.hX)) (fun _ _ h => by obtain ⟨_, _, _, _, _, _, _, h⟩ := h; exact h.mono (by simp)) rfl ?_
    rintro _ wq ⟨y0, i0, ⟨k0, rfl, s0⟩, z0, ⟨ty0, ne0⟩, hm, hi0, hS⟩
    obtain ⟨p0, c0, rfl, -⟩ := id s0
    replace gm := gm.nxt hm hS
    replace hws := hws.ext hS (by simp) (fun _ h => .inl h)
    clear hm hS
    refine D ?_
    refine WD_eff rfl trivial (OE_call rfl (evs2 rfl rfl) ((ih.2.2) (b4 :: bm :: X) _ bm lv l _ _ (by omega) gm.mkr gm.sl hl (by omega) gm.hX)) (fun _ _ h => by obtain ⟨_, _, _, _, _, _, _, h⟩ := h; exact h.mono (by simp)) rfl ?_
    rintro _ wq ⟨y1, i1, ⟨k1, rfl, s1⟩, z1, ⟨ty1, ne1⟩, hm, hi1, hS⟩
    obtain ⟨p1, c1, rfl, -⟩ := id s1
    replace gm := gm.nxt hm hS
    replace hws := hws.ext hS (by simp) (fun _ h => .inl h)
    replace s0 := s0.ext hS (by simp) (fun _ h => .inl h)
    clear hm hS
    refine D ?_
    refine WD_eff rfl trivial (OE_buildSlice (vs := [(0, .agg #[.int .i64 y0.kind, .int .i64 y0.num, str y0.word, .slice p0 y0.kids.length c0]), (1, .agg #[.int .i64 y1.kind, .int .i64 y1.num, str y1.word, .slice p1 y1.kids.length c1])]) rfl (buildSN2 _ _ _ _ _ _ _ _ _ _ _ _)) (fun _ _ h => (NewSl.stp h).mono (by simp)) rfl ?_
    rintro bv wq hN
    have hbv : SlV (b4 :: bm :: X) wq bv [y0, y1] := hN.slvG (css := [ndC y0 _, ndC y1 _]) gm.hX rfl rfl rfl (reps2 s0 s1) (by simp [maxLen])
    have hT := NewSl.stp hN
    clear hN
    replace gm := gm.up hT
    replace hws := hws.up hT
    clear hT
    refine D ?_
    refine WD_eff rfl trivial (OE_call rfl (evs3 rfl rfl rfl) (node14_any (b4 :: bm :: X) 10 opsE[q] bv [y0, y1] _ gm.hX hbv)) (fun _ _ h => h.2.mono (by simp)) rfl ?_
    rintro _ wq ⟨⟨ky, rfl, hy⟩, hT⟩
    replace gm := gm.up hT
    clear hT hbv
    refine D ?_
    obtain ⟨cs, hcl, hcb⟩ := gm.blk
    refine WD_eff0 rfl trivial (OE_storeA (us := ndC (.mk 10 0 opsE[q] [y0, y1]) _) rfl rfl rfl rfl (ndC_one (x := (.mk 10 0 opsE[q] [y0, y1])) hy) hcb hcl.symm) (fun _ _ h => h.1.mono (by simp)) ?_
    rintro _ wz ⟨hz, hbz⟩
    refine D ?_
    refine W ?_
    refine WQ_retc rfl rfl rfl hbz rfl ?_
    have hf := gm.fin (y := (.mk 10 0 opsE[q] [y0, y1])) hS0 hb4 hy hz
    exact .mk ⟨_, _, hf.1, by rw [size2]; omega, ⟨ty2 ty0 ty1 (tE _ hqn), by rw [nest2]; omega⟩, hf.2.1, by omega, hf.2.2⟩
  by_cases k5 : k = 5
  · have h2 : 2 ≤ d := by omega
    replace ih := ih h2
    replace hsp := hsp h2
    repeat' (first | refine W1 ?_ | (exfalso; omega) | refine WL_split rfl rfl (fun hg => ?_) (fun hg => ?_) | refine WL_splitB rfl rfl (fun hg => ?_) (fun hg => ?_) | refine WC_cond rfl (fun hc => ?_) (fun hc => ?_) | refine WC_condB rfl (fun hc => ?_) (fun hc => ?_))
    refine W ?_
    refine WL_eff (OE_call rfl (evs2 rfl rfl) ((ih.2.1) (b4 :: bm :: X) _ bm lv l _ _ (by omega) gm.mkr gm.sl hl (by omega) gm.hX)) rfl ?_
    rintro _ wq ⟨y0, i0, ⟨k0, rfl, s0⟩, z0, ⟨ty0, ne0⟩, hm, hi0, hS⟩
    obtain ⟨p0, c0, rfl, -⟩ := id s0
    replace gm := gm.nxt hm hS
    clear hm hS
    refine W ?_
    refine WL_eff (OE_call rfl (evs2 rfl rfl) ((ih.2.2) (b4 :: bm :: X) _ bm lv l _ _ (by omega) gm.mkr gm.sl hl (by omega) gm.hX)) rfl ?_
    rintro _ wq ⟨y1, i1, ⟨k1, rfl, s1⟩, z1, ⟨ty1, ne1⟩, hm, hi1, hS⟩
    obtain ⟨p1, c1, rfl, -⟩ := id s1
    replace gm := gm.nxt hm hS
    replace s0 := s0.ext hS (by simp) (fun _ h => .inl h)
    clear hm hS
    refine W ?_
    refine WL_eff (OE_call rfl (evs2 rfl rfl) ((ih.2.2) (b4 :: bm :: X) _ bm lv l _ _ (by omega) gm.mkr gm.sl hl (by omega) gm.hX)) rfl ?_
    rintro _ wq ⟨y2, i2, ⟨k2, rfl, s2⟩, z2, ⟨ty2, ne2⟩, hm, hi2, hS⟩
    obtain ⟨p2, c2, rfl, -⟩ := id s2
    replace gm := gm.nxt hm hS
    replace s0 := s0.ext hS (by simp) (fun _ h => .inl h)
    replace s1 := s1.ext hS (by simp) (fun _ h => .inl h)
    clear hm hS
    refine W ?_
    refine WL_eff (OE_buildSlice (vs := [(0, .agg #[.int .i64 y0.kind, .int .i64 y0.num, str y0.word, .slice p0 y0.kids.length c0]), (1, .agg #[.int .i64 y1.kind, .int .i64 y1.num, str y1.word, .slice p1 y1.kids.length c1]), (2, .agg #[.int .i64 y2.kind, .int .i64 y2.num, str y2.word, .slice p2 y2.kids.length c2])]) rfl (buildSN3 _ _ _ _ _ _ _ _ _ _ _ _ _ _ _ _ _ _)) rfl ?_
    rintro bv wq hN
    have hbv : SlV (b4 :: bm :: X) wq bv [y0, y1, y2] := hN.slvG (css := [ndC y0 _, ndC y1 _, ndC y2 _]) gm.hX rfl rfl rfl (reps3 s0 s1 s2) (by simp [maxLen])
    have hT := NewSl.stp hN
    clear hN
    replace gm := gm.up hT
    clear hT
    refine W ?_
    refine WL_eff (OE_call rfl (evs3 rfl rfl rfl) (node14_any (b4 :: bm :: X) 9 [] bv [y0, y1, y2] _ gm.hX hbv)) rfl ?_
    rintro _ wq ⟨⟨ky, rfl, hy⟩, hT⟩
    replace gm := gm.up hT
    clear hT hbv
    refine W ?_
    obtain ⟨cs, hcl, hcb⟩ := gm.blk
    refine WL_eff0 (OE_storeA (us := ndC (.mk 9 0 [] [y0, y1, y2]) _) rfl rfl rfl rfl (ndC_one (x := (.mk 9 0 [] [y0, y1, y2])) hy) hcb hcl.symm) ?_
    rintro _ wz ⟨hz, hbz⟩
    refine W ?_
    refine WQ_retc rfl rfl rfl hbz rfl ?_
    have hf := gm.fin (y := (.mk 9 0 [] [y0, y1, y2])) hS0 hb4 hy hz
    exact .mk ⟨_, _, hf.1, by rw [size3]; omega, ⟨ty3 ty0 ty1 ty2 (rfl), by rw [nest3]; omega⟩, hf.2.1, by omega, hf.2.2⟩
  by_cases k6 : k = 6
  · have h2 : 2 ≤ d := by omega
    replace ih := ih h2
    replace hsp := hsp h2
    repeat' (first | refine W1 ?_ | (exfalso; omega) | refine WL_split rfl rfl (fun hg => ?_) (fun hg => ?_) | refine WL_splitB rfl rfl (fun hg => ?_) (fun hg => ?_) | refine WC_cond rfl (fun hc => ?_) (fun hc => ?_) | refine WC_condB rfl (fun hc => ?_) (fun hc => ?_))
    refine WC_drawn 17 ([b4, bm]) [] [(0, 0), (2, 0), (6, 0), (7, 0), (8, 0), (10, 0), (11, 0), (12, 0), (1, 2), (3, 2), (4, 0), (5, 1), (9, 2), (13, 2), (14, 2), (15, 2), (16, 2)] rfl mixed (by kernel_rfl) (by kernel_rfl) (by kernel_rfl) (fun w1 hS1 => ?_)
    replace gm := gm.up hS1
    refine D ?_
    refine WD_eff rfl trivial (OE_call rfl (evs1 rfl) (words_any [b4, bm] [100, 97, 121, 115, 32, 119, 101, 101, 107, 115, 32, 109, 111, 110, 116, 104, 115, 32, 99, 111, 117, 114, 116, 100, 97, 121, 115] _ (fun c hc => gm.hX c (by simp at hc; rcases hc with rfl | rfl <;> simp)) (by decide))) (fun _ _ h => h.2.mono (by simp)) rfl ?_
    rintro wv wq ⟨hr, hT⟩
    rw [show wordsOf [100, 97, 121, 115, 32, 119, 101, 101, 107, 115, 32, 109, 111, 110, 116, 104, 115, 32, 99, 111, 117, 114, 116, 100, 97, 121, 115] = units by decide] at hr
    have hws := hr.slv (fun c hc => gm.hX c (by simp at hc; rcases hc with rfl | rfl <;> simp))
    replace gm := gm.up hT
    clear hr hT
    refine D ?_
    refine WD_eff rfl trivial (OE_call rfl (evs2 rfl rfl) (Next_any bm lv l _ 4 _ (by decide) (by omega) gm.mkr gm.sl hl)) (fun _ _ h => h.choose_spec.2.2.2.mono (by simp)) rfl ?_
    rintro _ wq ⟨q, rfl, hq, hm, hS⟩
    replace gm := gm.nxt hm hS
    replace hws := hws.ext hS (by simp) (fun _ h => .inl h)
    clear hm hS
    have hqn : q < units.length := by show q < 4; omega
    refine D ?_
    refine WD_eff rfl trivial (OE_call rfl (evs2 rfl rfl) ((ih.2.2) (b4 :: bm :: X) _ bm lv l _ _ (by omega) gm.mkr gm.sl hl (by omega) gm.hX)) (fun _ _ h => by obtain ⟨_, _, _, _, _, _, _, h⟩ := h; exact h.mono (by simp)) rfl ?_
    rintro _ wq ⟨y0, i0, ⟨k0, rfl, s0⟩, z0, ⟨ty0, ne0⟩, hm, hi0, hS⟩
    obtain ⟨p0, c0, rfl, -⟩ := id s0
    replace gm := gm.nxt hm hS
    replace hws := hws.ext hS (by simp) (fun _ h => .inl h)
    clear hm hS
    refine D ?_
    refine WD_eff rfl trivial (OE_call rfl (evs2 rfl rfl) ((ih.1) (b4 :: bm :: X) _ bm lv l _ _ (by omega) gm.mkr gm.sl hl (by omega) gm.hX)) (fun _ _ h => by obtain ⟨_, _, _, _, _, _, _, h⟩ := h; exact h.mono (by simp)) rfl ?_
    rintro _ wq ⟨y1, i1, ⟨k1, rfl, s1⟩, z1, ⟨ty1, ne1⟩, hm, hi1, hS⟩
    obtain ⟨p1, c1, rfl, -⟩ := id s1
    replace gm := gm.nxt hm hS
    replace hws := hws.ext hS (by simp) (fun _ h => .inl h)
    replace s0 := s0.ext hS (by simp) (fun _ h => .inl h)
    clear hm hS
    refine D ?_
    refine WD_eff rfl trivial (OE_buildSlice (vs := [(0, .agg #[.int .i64 y0.kind, .int .i64 y0.num, str y0.word, .slice p0 y0.kids.length c0]), (1, .agg #[.int .i64 y1.kind, .int .i64 y1.num, str y1.word, .slice p1 y1.kids.length c1])]) rfl (buildSN2 _ _ _ _ _ _ _ _ _ _ _ _)) (fun _ _ h => (NewSl.stp h).mono (by simp)) rfl ?_
    rintro bv wq hN
    have hbv : SlV (b4 :: bm :: X) wq bv [y0, y1] := hN.slvG (css := [ndC y0 _, ndC y1 _]) gm.hX rfl rfl rfl (reps2 s0 s1) (by simp [maxLen])
    have hT := NewSl.stp hN
    clear hN
    replace gm := gm.up hT
    replace hws := hws.up hT
    clear hT
    refine D ?_
    refine WD_eff rfl trivial (OE_call rfl (evs3 rfl rfl rfl) (node14_any (b4 :: bm :: X) 8 units[q] bv [y0, y1] _ gm.hX hbv)) (fun _ _ h => h.2.mono (by simp)) rfl ?_
    rintro _ wq ⟨⟨ky, rfl, hy⟩, hT⟩
    replace gm := gm.up hT
    clear hT hbv
    refine D ?_
    obtain ⟨cs, hcl, hcb⟩ := gm.blk
    refine WD_eff0 rfl trivial (OE_storeA (us := ndC (.mk 8 0 units[q] [y0, y1]) _) rfl rfl rfl rfl (ndC_one (x := (.mk 8 0 units[q] [y0, y1])) hy) hcb hcl.symm) (fun _ _ h => h.1.mono (by simp)) ?_
    rintro _ wz ⟨hz, hbz⟩
    refine D ?_
    refine W ?_
    refine WQ_retc rfl rfl rfl hbz rfl ?_
    have hf := gm.fin (y := (.mk 8 0 units[q] [y0, y1])) hS0 hb4 hy hz
    exact .mk ⟨_, _, hf.1, by rw [size2]; omega, ⟨ty2 ty0 ty1 (tU8 _ hqn), by rw [nest2]; omega⟩, hf.2.1, by omega, hf.2.2⟩
  have h2 : 2 ≤ d := by omega
  replace ih := ih h2
  replace hsp := hsp h2
  repeat' (first | refine W1 ?_ | (exfalso; omega) | refine WL_split rfl rfl (fun hg => ?_) (fun hg => ?_) | refine WL_splitB rfl rfl (fun hg => ?_) (fun hg => ?_) | refine WC_cond rfl (fun hc => ?_) (fun hc => ?_) | refine WC_condB rfl (fun hc => ?_) (fun hc => ?_))
  refine WC_drawn 17 ([b4, bm]) [] [(0, 0), (2, 0), (6, 0), (7, 0), (8, 0), (10, 0), (11, 0), (12, 0), (1, 2), (3, 2), (4, 0), (5, 1), (9, 2), (13, 2), (14, 2), (15, 2), (16, 2)] rfl mixed (by kernel_rfl) (by kernel_rfl) (by kernel_rfl) (fun w1 hS1 => ?_)
  replace gm := gm.up hS1
  refine D ?_
  refine WD_eff rfl trivial (OE_call rfl (evs1 rfl) (words_any [b4, bm] [100, 97, 121, 115, 32, 119, 101, 101, 107, 115, 32, 109, 111, 110, 116, 104, 115, 32, 99, 111, 117, 114, 116, 100, 97, 121, 115] _ (fun c hc => gm.hX c (by simp at hc; rcases hc with rfl | rfl <;> simp)) (by decide))) (fun _ _ h => h.2.mono (by simp)) rfl ?_
  rintro wv wq ⟨hr, hT⟩
  rw [show wordsOf [100, 97, 121, 115, 32, 119, 101, 101, 107, 115, 32, 109, 111, 110, 116, 104, 115, 32, 99, 111, 117, 114, 116, 100, 97, 121, 115] = units by decide] at hr
  have hws := hr.slv (fun c hc => gm.hX c (by simp at hc; rcases hc with rfl | rfl <;> simp))
  replace gm := gm.up hT
  clear hr hT
  refine D ?_
  refine WD_eff rfl trivial (OE_call rfl (evs2 rfl rfl) (Next_any bm lv l _ 4 _ (by decide) (by omega) gm.mkr gm.sl hl)) (fun _ _ h => h.choose_spec.2.2.2.mono (by simp)) rfl ?_
  rintro _ wq ⟨q, rfl, hq, hm, hS⟩
  replace gm := gm.nxt hm hS
  replace hws := hws.ext hS (by simp) (fun _ h => .inl h)
  clear hm hS
  have hqn : q < units.length := by show q < 4; omega
  refine D ?_
  refine WD_eff rfl trivial (OE_call rfl (evs2 rfl rfl) ((ih.2.2) (b4 :: bm :: X) _ bm lv l _ _ (by omega) gm.mkr gm.sl hl (by omega) gm.hX)) (fun _ _ h => by obtain ⟨_, _, _, _, _, _, _, h⟩ := h; exact h.mono (by simp)) rfl ?_
  rintro _ wq ⟨y0, i0, ⟨k0, rfl, s0⟩, z0, ⟨ty0, ne0⟩, hm, hi0, hS⟩
  obtain ⟨p0, c0, rfl, -⟩ := id s0
  replace gm := gm.nxt hm hS
  replace hws := hws.ext hS (by simp) (fun _ h => .inl h)
  clear hm hS
  refine D ?_
  refine WD_eff rfl trivial (OE_call rfl (evs2 rfl rfl) ((ih.1) (b4 :: bm :: X) _ bm lv l _ _ (by omega) gm.mkr gm.sl hl (by omega) gm.hX)) (fun _ _ h => by obtain ⟨_, _, _, _, _, _, _, h⟩ := h; exact h.mono (by simp)) rfl ?_
  rintro _ wq ⟨y1, i1, ⟨k1, rfl, s1⟩, z1, ⟨ty1, ne1⟩, hm, hi1, hS⟩
  obtain ⟨p1, c1, rfl, -⟩ := id s1
  replace gm := gm.nxt hm hS
  replace hws := hws.ext hS (by simp) (fun _ h => .inl h)
  replace s0 := s0.ext hS (by simp) (fun _ h => .inl h)
  clear hm hS
  refine D ?_
  refine WD_eff rfl trivial (OE_buildSlice (vs := [(0, .agg #[.int .i64 y0.kind, .int .i64 y0.num, str y0.word, .slice p0 y0.kids.length c0]), (1, .agg #[.int .i64 y1.kind, .int .i64 y1.num, str y1.word, .slice p1 y1.kids.length c1])]) rfl (buildSN2 _ _ _ _ _ _ _ _ _ _ _ _)) (fun _ _ h => (NewSl.stp h).mono (by simp)) rfl ?_
  rintro bv wq hN
  have hbv : SlV (b4 :: bm :: X) wq bv [y0, y1] := hN.slvG (css := [ndC y0 _, ndC y1 _]) gm.hX rfl rfl rfl (reps2 s0 s1) (by simp [maxLen])
  have hT := NewSl.stp hN
  clear hN
  replace gm := gm.up hT
  replace hws := hws.up hT
  clear hT
  refine D ?_
  refine WD_eff rfl trivial (OE_call rfl (evs3 rfl rfl rfl) (node14_any (b4 :: bm :: X) 7 units[q] bv [y0, y1] _ gm.hX hbv)) (fun _ _ h => h.2.mono (by simp)) rfl ?_
  rintro _ wq ⟨⟨ky, rfl, hy⟩, hT⟩
  replace gm := gm.up hT
  clear hT hbv
  refine D ?_
  obtain ⟨cs, hcl, hcb⟩ := gm.blk
  refine WD_eff0 rfl trivial (OE_storeA (us := ndC (.mk 7 0 units[q] [y0, y1]) _) rfl rfl rfl rfl (ndC_one (x := (.mk 7 0 units[q] [y0, y1])) hy) hcb hcl.symm) (fun _ _ h => h.1.mono (by simp)) ?_
  rintro _ wz ⟨hz, hbz⟩
  refine D ?_
  refine W ?_
  refine WQ_retc rfl rfl rfl hbz rfl ?_
  have hf := gm.fin (y := (.mk 7 0 units[q] [y0, y1])) hS0 hb4 hy hz
  exact .mk ⟨_, _, hf.1, by rw [size2]; omega, ⟨ty2 ty0 ty1 (tU7 _ hqn), by rw [nest2]; omega⟩, hf.2.1, by omega, hf.2.2⟩
end Go.Proofs.YtgpibcgebpgmiaaDoor


namespace Go.Proofs.YtgpibcgebpgmiaaDoor
open Go Go.Eng Go.RowKit
set_option linter.unusedVariables false

theorem gens : ∀ d, 1 ≤ d → d ≤ 6 → GenP 31 d ∧ GenP 30 d ∧ GenP 29 d := by
  intro d
  induction d with
  | zero => intro h; omega
  | succ d ih =>
    intro h1 h2
    have ih' : 2 ≤ d + 1 → GenP 31 (d + 1 - 1) ∧ GenP 30 (d + 1 - 1) ∧ GenP 29 (d + 1 - 1) := fun h => ih (by omega) (by omega)
    exact ⟨number_step _ h1 h2 ih', boolean_step _ h1 h2 ih', date_step _ h1 h2 ih'⟩
theorem buildMk (p : Option Addr) (l c : Nat) (w : World) : (Instr.build 62 #[(0, .slice p l c)]).run Tryd.prog w = .ok (.agg #[.slice p l c, .int .i64 0]) w := by kernel_rfl
end Go.Proofs.YtgpibcgebpgmiaaDoor


namespace Go.Proofs.YtgpibcgebpgmiaaDoor
open Go Go.Eng Go.RowKit
set_option linter.unusedVariables false

theorem EqualI_any (va vb : Value) (xs ys : List Int) (w : World) (ha : SlV [] w va xs) (hb : SlV [] w vb ys) :
    Calls Tryd.prog 97 #[va, vb] w (Ret fun r w' => r = .bool (decide (xs = ys)) ∧ Stp [] w w') := by
  have hma := ha.max
  have hmb := hb.max
  refine calls_of_WC2 (n := 26) Tryd.func97 rfl rfl rfl ?_
  refine W ?_
  by_cases hl : xs.length = ys.length
  case neg =>
    repeat' (first | refine W1 ?_ | (exfalso; omega) | refine WL_split rfl rfl (fun hg => ?_) (fun hg => ?_) | refine WL_splitB rfl rfl (fun hg => ?_) (fun hg => ?_) | refine WC_cond rfl (fun hc => ?_) (fun hc => ?_) | refine WC_condB rfl (fun hc => ?_) (fun hc => ?_))
    first | refine WQ_ret1 rfl rfl ?_ | refine WQ_ret2 rfl rfl rfl ?_ | refine WQ_ret3 rfl rfl rfl rfl ?_ | refine WQ_ret0 rfl ?_ | refine WQ_end0 rfl ?_
    exact .mk ⟨by congr 1; rw [eq_comm, decide_eq_false_iff_not]; exact fun h => hl (by rw [h]), Stp.refl _ _⟩
  repeat' (first | refine W1 ?_ | (exfalso; omega) | refine WL_split rfl rfl (fun hg => ?_) (fun hg => ?_) | refine WL_splitB rfl rfl (fun hg => ?_) (fun hg => ?_) | refine WC_cond rfl (fun hc => ?_) (fun hc => ?_) | refine WC_condB rfl (fun hc => ?_) (fun hc => ?_))
  refine WC_loop (σ := Nat) (fun j => [(0, va), (1, vb), (4, .bool false), (12, .int .i64 (xs.length : Int)), (13, .int .i64 (j : Int))]) (fun j w' => j ≤ xs.length ∧ Stp [] w w' ∧ ∀ i (h : i < xs.length), i < j → xs[i] = ys[i]'(by omega)) (fun j => xs.length - j) 0 ⟨rfl, rfl, rfl, rfl, rfl, trivial⟩ ⟨Nat.zero_le _, Stp.refl _ _, fun i _ h => absurd h (Nat.not_lt_zero _)⟩ ?_
  rintro j w2 ⟨hj, hS, heq⟩
  try dsimp only at hj heq ⊢
  replace ha := ha.up hS
  replace hb := hb.up hS
  by_cases hlt : j < xs.length
  · have hlt' : j < ys.length := by omega
    repeat' (first | refine W1 ?_ | (exfalso; omega) | refine WL_split rfl rfl (fun hg => ?_) (fun hg => ?_) | refine WL_splitB rfl rfl (fun hg => ?_) (fun hg => ?_) | refine WC_cond rfl (fun hc => ?_) (fun hc => ?_) | refine WC_condB rfl (fun hc => ?_) (fun hc => ?_))
    refine WC_drawn 9 [] [] [(0, 0), (1, 0), (2, 0), (3, 1), (4, 0), (5, 0), (6, 0), (7, 1), (8, 0)] rfl mixed (by kernel_rfl) (by kernel_rfl) (by kernel_rfl) (fun w1 hS1 => ?_)
    replace ha := ha.up hS1
    replace hb := hb.up hS1
    replace hS := hS.trans hS1
    refine D ?_
    repeat' (first | refine W1 ?_ | (exfalso; omega) | refine WL_split rfl rfl (fun hg => ?_) (fun hg => ?_) | refine WL_splitB rfl rfl (fun hg => ?_) (fun hg => ?_) | refine WC_cond rfl (fun hc => ?_) (fun hc => ?_) | refine WC_condB rfl (fun hc => ?_) (fun hc => ?_))
    · first | refine WQ_ret1 rfl rfl ?_ | refine WQ_ret2 rfl rfl rfl ?_ | refine WQ_ret3 rfl rfl rfl rfl ?_ | refine WQ_ret0 rfl ?_ | refine WQ_end0 rfl ?_
      exact .mk ⟨by congr 1; rw [eq_comm, decide_eq_false_iff_not]; exact fun h => hc (by simp [h]), hS⟩
    · have he : xs[j] = ys[j] := Decidable.byContradiction hc
      have hk : ∀ i (h : i < xs.length), i < j + 1 → xs[i] = ys[i]'(by omega) := fun i h hi => by
        by_cases hij : i = j
        · subst hij; exact he
        · exact heq i h (by omega)
      exact WQ_loop (j + 1) ⟨rfl, rfl, rfl, rfl, rfl, trivial⟩ ⟨hlt, hS, hk⟩ (Nat.sub_lt_sub_left hlt (Nat.lt_succ_self j))
  · have hje : j = xs.length := by omega
    subst hje
    repeat' (first | refine W1 ?_ | (exfalso; omega) | refine WL_split rfl rfl (fun hg => ?_) (fun hg => ?_) | refine WL_splitB rfl rfl (fun hg => ?_) (fun hg => ?_) | refine WC_cond rfl (fun hc => ?_) (fun hc => ?_) | refine WC_condB rfl (fun hc => ?_) (fun hc => ?_))
    first | refine WQ_ret1 rfl rfl ?_ | refine WQ_ret2 rfl rfl rfl ?_ | refine WQ_ret3 rfl rfl rfl rfl ?_ | refine WQ_ret0 rfl ?_ | refine WQ_end0 rfl ?_
    exact .mk ⟨by congr 1; rw [eq_comm, decide_eq_true_eq]; exact List.ext_getElem hl (fun i h h' => heq i h h), hS⟩
end Go.Proofs.YtgpibcgebpgmiaaDoor


/-
cap, append of a make, a raw slice cut to nothing.
-/
namespace Go.Eng
open Go Go.RowKit Go.Proofs
set_option linter.unusedVariables false
variable {P : Program} {n : Nat} {e : Env} {w : World} {d : Option Nat} {ty : TypeId} {pos : String} {af : Array Edge} {g : Option (Nat × Bool)}
theorem PR_cap {x : Operand} {t : TypeId} {el : TypeId} [hu : Und P t (.slice el)] {p : Option Addr} {l c : Nat} (hx : ev e x = some (.slice p l c)) :
    PR P n ⟨d, .call { callee := .builtin .cap, args := #[x], argTypes := #[t] }, ty, pos, af, g⟩ e w (.int .i64 (c : Int)) :=
  ⟨fun a ha => by
    have := run_cap_slice (P := P) w t ty p l c (by rw [hu.h, Program.elem, hu.h])
    simp [execOp, resolve, invoke, builtin, ha.ev hx, this, goInt]⟩
theorem PR_slice0n {t el k : Nat} {x hi : Operand} {l c : Nat} [hu : Und P t (.slice el)] [hk : Siz P el k] (hx : ev e x = some (.slice none l c)) (hb : ev e hi = some (.int .i64 0)) :
    PR P n ⟨d, .slice t x none (some hi) none, ty, pos, af, g⟩ e w (.slice none 0 c) := by
  refine ⟨fun act ha' => ?_⟩
  simp [execOp, ha'.ev hx, ha'.ev hb, Instr.sliceAt, run_underlying hu.h, Instr.slice, Instr.sliceBounds, Instr.sliceBound, asIntOf, Siz.run]
theorem PR_slice0 {t el k : Nat} {x hi : Operand} {b o : Nat} {l c : Nat} [hu : Und P t (.slice el)] [hk : Siz P el k] (hx : ev e x = some (.slice (some ⟨b, o, none⟩) l c)) (hb : ev e hi = some (.int .i64 0)) :
    PR P n ⟨d, .slice t x none (some hi) none, ty, pos, af, g⟩ e w (.slice (some ⟨b, o, none⟩) 0 c) := by
  refine ⟨fun act ha' => ?_⟩
  simp [execOp, ha'.ev hx, ha'.ev hb, Instr.sliceAt, run_underlying hu.h, Instr.slice, Instr.sliceBounds, Instr.sliceBound, asIntOf, Siz.run, Addr.add_lit]
/-- a new row of zeros behind nil -/
theorem OE_appZ {t tn T bytes k : Nat} {kn : IntKind} {x y : Operand} {z : Value} [ht : Und P t (.slice T)] [hn : Und P tn (.int kn)] [hk : Siz P T 1] [hb : Byt P T bytes] [hz : Zer P T z] (hz1 : z.cells.size = 1)
    (hx : ev e x = some (.slice none 0 0)) (hy : ev e y = some (.int .i64 (k : Int))) (h0 : 0 < k) (hkm : k ≤ maxLen) (hbytes : k * bytes ≤ 140737488355328) :
    OE P n ⟨d, .call { callee := .builtin .append, args := #[x, y], argTypes := #[t, tn] }, ty, pos, af, g⟩ e w
      (fun v w' => ∃ c, v = .slice (some ⟨w.heap.size, 0, none⟩) k c ∧ w'.ownsRow w.heap.size T 1 (.slice (some ⟨w.heap.size, 0, none⟩) 0 c) 0 [] ∧ Stp [] w w') := by
  obtain ⟨i, hi, hi1, hi2, hi3⟩ : ∃ i, P.info? T = some i ∧ i.size = 1 ∧ i.bytes = bytes ∧ i.zero = some z := by
    have a1 := hk.h
    have a2 := hb.h
    have a3 := hz.h
    cases hi : P.info? T with
    | none => simp [hi] at a1
    | some i => exact ⟨i, rfl, by simpa [hi] using a1, by simpa [hi] using a2, by simpa [hi] using a3⟩
  have hrun := Go.Lib.run_append_nil_zeros (P := P) w t tn ty T i z .i64 kn ht.h hn.h hi hi3 k h0 (by omega) (by simp [maxLen] at hkm; omega) (by rw [hi2]; omega)
  have hge := grownCap_ge w k 0 T
  have hsz : (Builtin.zeroCells z.cells k ++ Builtin.zeroCells z.cells (grownCap w k 0 T - k)).size = grownCap w k 0 T * 1 := by
    rw [Array.size_append, size_zeroCells, size_zeroCells, hz1]
    omega
  refine OE_value (v := .slice (some ⟨w.heap.size, 0, none⟩) k (grownCap w k 0 T)) (w' := w.drew.alloc (.cells (Builtin.zeroCells z.cells k ++ Builtin.zeroCells z.cells (grownCap w k 0 T - k)) T)) (fun a ha => ?_) ⟨_, rfl, World.ownsRow_made w.drew _ _ (Nat.le_refl _) (grownCap_le_maxLen w k 0 T hkm) hsz, (Stp.drew [] w).trans (Stp.alloc [] _ _)⟩
  simp [execOp, resolve, invoke, builtin, ha.ev hx, ha.ev hy, hrun]
end Go.Eng


namespace Go.Proofs.YtgpibcgebpgmiaaDoor
open Go Go.Eng Go.RowKit
set_option linter.unusedVariables false

abbrev RwZ (w w' : World) (v : Value) (xs : List Int) : Prop := RowF 3 w w' v xs
/-- slices.Grow of nil -/
theorem GrowI_any (k : Nat) (w : World) (hk : k ≤ 1000000) : Calls Tryd.prog 123 #[.slice none 0 0, .int .i64 (k : Int)] w (Ret fun r w' => RwZ w w' r []) := by
  refine calls_of_WC2 (n := 27) Tryd.func123 rfl rfl rfl ?_
  refine W ?_
  have h0 : SlV (α := Int) [] w (.slice none 0 0) [] := nilSlv _ _
  have hl0 : ([] : List Int).length = 0 := rfl
  repeat' (first | refine W1 ?_ | (exfalso; omega) | refine WL_split rfl rfl (fun hg => ?_) (fun hg => ?_) | refine WL_splitB rfl rfl (fun hg => ?_) (fun hg => ?_) | refine WC_cond rfl (fun hc => ?_) (fun hc => ?_) | refine WC_condB rfl (fun hc => ?_) (fun hc => ?_))
  apply WL_pure (PR_cap rfl) rfl
  by_cases hk0 : k = 0
  · subst hk0
    repeat' (first | refine W1 ?_ | (exfalso; omega) | refine WL_split rfl rfl (fun hg => ?_) (fun hg => ?_) | refine WL_splitB rfl rfl (fun hg => ?_) (fun hg => ?_) | refine WC_cond rfl (fun hc => ?_) (fun hc => ?_) | refine WC_condB rfl (fun hc => ?_) (fun hc => ?_))
    first | refine WQ_ret1 rfl rfl ?_ | refine WQ_ret2 rfl rfl rfl ?_ | refine WQ_ret3 rfl rfl rfl rfl ?_ | refine WQ_ret0 rfl ?_ | refine WQ_end0 rfl ?_
    exact .mk RowF.nil
  repeat' (first | refine W1 ?_ | (exfalso; omega) | refine WL_split rfl rfl (fun hg => ?_) (fun hg => ?_) | refine WL_splitB rfl rfl (fun hg => ?_) (fun hg => ?_) | refine WC_cond rfl (fun hc => ?_) (fun hc => ?_) | refine WC_condB rfl (fun hc => ?_) (fun hc => ?_))
  apply WL_pure (PR_cap rfl) rfl
  apply WL_pure (PR_slice0n rfl rfl) rfl
  refine W ?_
  refine WL_eff (OE_appZ (k := k) rfl rfl rfl (by omega) (by simp [maxLen]; omega) (by omega)) rfl ?_
  rintro _ w1 ⟨c, rfl, hown, hS⟩
  replace h0 := h0.up hS
  have hr : RwZ w w1 (.slice (some ⟨w.heap.size, 0, none⟩) 0 c) [] := ⟨⟨[], rfl, fun i h => absurd h (Nat.not_lt_zero _), hown⟩, hS⟩
  refine W ?_
  apply WL_pure (PR_slice0 rfl rfl) rfl
  refine W ?_
  first | refine WQ_ret1 rfl rfl ?_ | refine WQ_ret2 rfl rfl rfl ?_ | refine WQ_ret3 rfl rfl rfl rfl ?_ | refine WQ_ret0 rfl ?_ | refine WQ_end0 rfl ?_
  exact .mk hr
/-- slices.Concat of slices of ints -/
theorem ConcatI_any (v : Value) (xss : List (Sl Int)) (w : World) (hs : SlV [] w v xss) (hl : xss.length ≤ 1000) (hlen : (xss.flatMap Sl.l).length ≤ 100000) : Calls Tryd.prog 98 #[v] w (Ret fun r w' => RwZ w w' r (xss.flatMap Sl.l)) := by
  have hpre : ∀ j, ((xss.take j).flatMap Sl.l).length ≤ (xss.flatMap Sl.l).length := fun j => by
    rw [← List.take_append_drop j xss, List.flatMap_append, List.length_append]
    simp only [List.take_append_drop]
    have : (xss.take j).flatMap Sl.l = ((xss.take j ++ xss.drop j).take j).flatMap Sl.l := by rw [List.take_append_drop]
    omega
  have hstep : ∀ j (h : j < xss.length), (xss.take (j + 1)).flatMap Sl.l = (xss.take j).flatMap Sl.l ++ xss[j].l := fun j h => by
    rw [List.take_succ_eq_append_getElem h, List.flatMap_append]
    simp
  refine calls_of_WC1 (n := 36) Tryd.func98 rfl rfl rfl ?_
  refine W ?_
  refine WC_cutB (σ := Unit) (fun _ => [(0, v), (3, .int .i64 ((xss.flatMap Sl.l).length : Int))]) (fun _ w' => w' = w) ?_ ?_
  · refine WC_loop (σ := Nat) (fun j => [(0, v), (9, v), (10, .int .i64 (xss.length : Int)), (3, .int .i64 (((xss.take j).flatMap Sl.l).length : Int)), (11, .int .i64 (j : Int))]) (fun j w' => j ≤ xss.length ∧ w' = w) (fun j => xss.length - j) 0 ⟨rfl, rfl, rfl, rfl, rfl, trivial⟩ ⟨Nat.zero_le _, rfl⟩ ?_
    rintro j w2 ⟨hj, rfl⟩
    by_cases hlt : j < xss.length
    · obtain ⟨u, hcell, hsu⟩ := hs.sub hlt
      have hum := hsu.max
      have h1 := hpre j
      have h2 := hpre (j + 1)
      have h3 := hstep j hlt
      have h4 : ((xss.take (j + 1)).flatMap Sl.l).length = ((xss.take j).flatMap Sl.l).length + xss[j].l.length := by rw [h3, List.length_append]
      repeat' (first | refine W1 ?_ | (exfalso; omega) | refine WL_split rfl rfl (fun hg => ?_) (fun hg => ?_) | refine WL_splitB rfl rfl (fun hg => ?_) (fun hg => ?_) | refine WC_cond rfl (fun hc => ?_) (fun hc => ?_) | refine WC_condB rfl (fun hc => ?_) (fun hc => ?_))
      apply WL_pure (PR_load1 rfl rfl hcell) rfl
      repeat' (first | refine W1 ?_ | (exfalso; omega) | refine WL_split rfl rfl (fun hg => ?_) (fun hg => ?_) | refine WL_splitB rfl rfl (fun hg => ?_) (fun hg => ?_) | refine WC_cond rfl (fun hc => ?_) (fun hc => ?_) | refine WC_condB rfl (fun hc => ?_) (fun hc => ?_))
      refine WQ_loop (j + 1) ⟨rfl, rfl, rfl, by rw [h4, Int.natCast_add]; rfl, rfl, trivial⟩ ⟨hlt, rfl⟩ (by omega)
    · have hje : j = xss.length := by omega
      subst hje
      rw [List.take_length]
      repeat' (first | refine W1 ?_ | (exfalso; omega) | refine WL_split rfl rfl (fun hg => ?_) (fun hg => ?_) | refine WL_splitB rfl rfl (fun hg => ?_) (fun hg => ?_) | refine WC_cond rfl (fun hc => ?_) (fun hc => ?_) | refine WC_condB rfl (fun hc => ?_) (fun hc => ?_))
      exact WQ_cut () ⟨rfl, rfl, trivial⟩ rfl
  rintro _ w2 rfl
  refine W ?_
  refine WL_eff (OE_call rfl (evs2 rfl rfl) (GrowI_any _ _ (by omega))) rfl ?_
  rintro g w3 hr
  refine W ?_
  have hs3 := hs.up hr.2
  refine W ?_
  refine WC_loop (σ := Nat × Value) (fun q => [(6, q.2), (25, v), (26, .int .i64 (xss.length : Int)), (27, .int .i64 (q.1 : Int))]) (fun q w' => q.1 ≤ xss.length ∧ RwZ w2 w' q.2 ((xss.take q.1).flatMap Sl.l)) (fun q => xss.length - q.1) (0, g) ⟨rfl, rfl, rfl, rfl, trivial⟩ ⟨Nat.zero_le _, by simpa using hr⟩ ?_
  clear hr hs3
  rintro ⟨j, g⟩ w4 ⟨hj, hr⟩
  dsimp only at hj hr ⊢
  by_cases hlt : j < xss.length
  · have hs4 : SlV (ob g) w4 v xss := hs.ext hr.2 (by simp) (fun b hb => .inr (hr.ob_le b hb).1)
    obtain ⟨u, hcell, hsu⟩ := hs4.sub hlt
    have h1 := hpre j
    have h2 := hpre (j + 1)
    have h3 := hstep j hlt
    have h4 : ((xss.take (j + 1)).flatMap Sl.l).length = ((xss.take j).flatMap Sl.l).length + xss[j].l.length := by rw [h3, List.length_append]
    repeat' (first | refine W1 ?_ | (exfalso; omega) | refine WL_split rfl rfl (fun hg => ?_) (fun hg => ?_) | refine WL_splitB rfl rfl (fun hg => ?_) (fun hg => ?_) | refine WC_cond rfl (fun hc => ?_) (fun hc => ?_) | refine WC_condB rfl (fun hc => ?_) (fun hc => ?_))
    apply WL_pure (PR_load1 rfl rfl hcell) rfl
    repeat' (first | refine W1 ?_ | (exfalso; omega) | refine WL_split rfl rfl (fun hg => ?_) (fun hg => ?_) | refine WL_splitB rfl rfl (fun hg => ?_) (fun hg => ?_) | refine WC_cond rfl (fun hc => ?_) (fun hc => ?_) | refine WC_condB rfl (fun hc => ?_) (fun hc => ?_))
    refine WL_eff (OE_appF rfl (by decide) rfl rfl hr hsu (by omega) (by simp only [maxLen]; omega)) rfl ?_
    rintro g' w5 ⟨hr', -, -⟩
    refine W ?_
    exact WQ_loop (j + 1, g') ⟨rfl, rfl, rfl, rfl, trivial⟩ ⟨hlt, by dsimp only; rw [h3]; exact hr'⟩ (by dsimp only; omega)
  · have hje : j = xss.length := by omega
    subst hje
    rw [List.take_length] at hr
    repeat' (first | refine W1 ?_ | (exfalso; omega) | refine WL_split rfl rfl (fun hg => ?_) (fun hg => ?_) | refine WL_splitB rfl rfl (fun hg => ?_) (fun hg => ?_) | refine WC_cond rfl (fun hc => ?_) (fun hc => ?_) | refine WC_condB rfl (fun hc => ?_) (fun hc => ?_))
    first | refine WQ_ret1 rfl rfl ?_ | refine WQ_ret2 rfl rfl rfl ?_ | refine WQ_ret3 rfl rfl rfl rfl ?_ | refine WQ_ret0 rfl ?_ | refine WQ_end0 rfl ?_
    exact .mk hr
end Go.Proofs.YtgpibcgebpgmiaaDoor


namespace Go.Eng
open Go
theorem WQ_ret4 {P : Program} {n : Nat} {fn : Func} {R : Ending → World → Prop} {e : Env} {w : World} {t u s q : Nat} {v x y z : Value} (hr : fn.results = #[.tmp t, .tmp u, .tmp s, .tmp q]) (ht : look e t = some v) (hu : look e u = some x) (hs : look e s = some y) (hq : look e q = some z) (h : R (.returned (.tuple #[v, x, y, z])) w) : WQ n (bodyPost P fn R) .ret e w :=
  ⟨fun a ha => ⟨ha.defers, .tuple #[v, x, y, z], by simp [results, hr]; simpa [Array.getD_eq_getD_getElem?] using And.intro (ha.vals t v ht) (And.intro (ha.vals u x hu) (And.intro (ha.vals s y hs) (ha.vals q z hq))), h⟩⟩
end Go.Eng
namespace Go.Proofs.YtgpibcgebpgmiaaDoor
open Go Go.Eng Go.RowKit
set_option linter.unusedVariables false

/-- what an operation takes, takes else, gives, and whether it is well formed -/
def effF (x : Ins) : List Int × List Int × List Int × Bool :=
  if x.op = 1 then ([], [], [1], decide (-2147483647 ≤ x.n ∧ x.n ≤ 2147483647))
  else if x.op = 2 then ([], [], [2], decide (x.n = 0 ∨ x.n = 1))
  else if x.op = 3 then ([], [], [3], decide (0 ≤ x.n ∧ x.n ≤ 3652058))
  else if x.op = 4 then ([], [], [if x.n = 0 ∨ x.n = 1 then 3 else 1], decide (0 ≤ x.n ∧ x.n < 7))
  else if x.op = 13 then ([], [], [], true)
  else if x.op = 14 then ([2], [], [], true)
  else if x.op = 5 ∨ x.op = 6 ∨ x.op = 7 then ([1, 1], [], [1], decide (x.n = 0))
  else if x.op = 8 then ([1], [], [1], decide (x.n = 0))
  else if x.op = 9 ∨ x.op = 10 ∨ x.op = 11 then ([1, 1], [3, 3], [2], decide (x.n = 0))
  else if x.op = 12 then ([2], [], [2], decide (x.n = 0))
  else if x.op = 15 ∨ x.op = 16 ∨ x.op = 17 ∨ x.op = 18 then ([3, 1], [], [3], decide (x.n = 0))
  else if x.op = 19 ∨ x.op = 20 then ([3], [], [3], decide (x.n = 0))
  else if x.op = 21 ∨ x.op = 22 then ([3, 3], [], [3], decide (x.n = 0))
  else if x.op = 23 then ([3, 3], [], [1], decide (x.n = 0))
  else if x.op = 24 then ([], [], [], decide (x.n = 0))
  else ([], [], [], false)
def EffR (X : List Nat) (w : World) (x : Ins) (r : Value) (w' : World) : Prop := ∃ a b c, r = .tuple #[a, b, c, .bool (effF x).2.2.2] ∧ SlV X w' a (effF x).1 ∧ SlV X w' b (effF x).2.1 ∧ SlV X w' c (effF x).2.2.1 ∧ Stp [] w w'
theorem effPost {X : List Nat} {w w' : World} {x : Ins} {a b c : Value} {p ok : Bool} {ta al gi : List Int} (heq : effF x = (ta, al, gi, ok)) (hp : p = ok) (ha : SlV X w' a ta) (hb : SlV X w' b al) (hc : SlV X w' c gi) (hS : Stp [] w w') : Ret (EffR X w x) (.returned (.tuple #[a, b, c, .bool p])) w' := by
  refine .mk ⟨a, b, c, ?_, ?_, ?_, ?_, hS⟩ <;> rw [heq]
  · rw [hp]
  · exact ha
  · exact hb
  · exact hc
set_option maxHeartbeats 2000000 in
theorem effect_any (X : List Nat) (x : Ins) (w : World) (hX0 : ∀ b ∈ X, b < w.heap.size) :
    Calls Tryd.prog 96 #[agg x] w (Ret (EffR X w x)) := by
  refine calls_of_WC1 (n := 117) Tryd.func96 rfl rfl rfl ?_
  refine W ?_
  refine WL_eff (OE_box rfl) rfl ?_
  rintro _ w0 ⟨b, rfl, hb, hblk, hS⟩
  replace hblk : Blk w0 b _ [.int .i64 x.op, .int .i64 x.n] := hblk
  have hX : ∀ b ∈ X, b < w0.heap.size := fun b hb => Nat.lt_of_lt_of_le (hX0 b hb) hS.size
  refine W ?_
  by_cases h1 : x.op = 1
  · have heq : effF x = ([], [], [1], decide (-2147483647 ≤ x.n ∧ x.n ≤ 2147483647)) := by simp [effF, h1]
    repeat' (first | refine W1 ?_ | (exfalso; omega) | refine WL_split rfl rfl (fun hg => ?_) (fun hg => ?_) | refine WL_splitB rfl rfl (fun hg => ?_) (fun hg => ?_) | refine WC_cond rfl (fun hc => ?_) (fun hc => ?_) | refine WC_condB rfl (fun hc => ?_) (fun hc => ?_))
    refine WC_drawn 13 [] [] [(1, 0), (2, 1), (3, 0), (4, 0), (5, 0), (6, 1), (7, 0), (8, 0), (9, 0), (10, 0), (0, 2), (11, 0), (12, 0)] rfl mixed (by kernel_rfl) (by kernel_rfl) (by kernel_rfl) (fun w1 hS1 => ?_)
    replace hblk := hblk.up hS1
    replace hS := hS.trans hS1
    replace hX := fun b hb => Nat.lt_of_lt_of_le (hX b hb) hS1.size
    repeat' (first | refine D1 ?_ | (exfalso; omega) | refine WD_splitN rfl rfl rfl rfl (fun hg => ?_) (fun hg => ?_) | (refine WD_splitBN rfl rfl rfl rfl (fun hg => ?_) (fun hg => ?_) <;> refine D1 ?_) | fail)
    all_goals
      refine WD_eff rfl trivial (OE_buildSlice (vs := [(0, .int .i64 1)]) rfl (buildSI1 _)) (fun _ _ h => NewSl.stp h) rfl ?_
      rintro g wq hN
      have s_g : SlV X wq g [(1 : Int)] := hN.slv hX rfl rfl (by simp [maxLen])
      have hT := NewSl.stp hN
      clear hN
      replace hblk := hblk.up hT
      replace hS := hS.trans hT
      clear hT
      refine D ?_
      refine W ?_
      refine WQ_ret4 rfl rfl rfl rfl rfl ?_
      refine effPost heq ?_ (nilSlv _ _) (nilSlv _ _) (s_g) hS
      first | rfl | (simp only [decide_eq_decide]; omega) | (symm; simp only [decide_eq_false_iff_not]; omega) | (simp only [decide_eq_false_iff_not]; omega)
  by_cases h2 : x.op = 2
  · have heq : effF x = ([], [], [2], decide (x.n = 0 ∨ x.n = 1)) := by simp [effF, h2]
    repeat' (first | refine W1 ?_ | (exfalso; omega) | refine WL_split rfl rfl (fun hg => ?_) (fun hg => ?_) | refine WL_splitB rfl rfl (fun hg => ?_) (fun hg => ?_) | refine WC_cond rfl (fun hc => ?_) (fun hc => ?_) | refine WC_condB rfl (fun hc => ?_) (fun hc => ?_))
    refine WC_drawn 13 [] [] [(1, 0), (2, 1), (3, 0), (4, 0), (5, 0), (6, 1), (7, 0), (8, 0), (9, 0), (10, 0), (0, 2), (11, 0), (12, 0)] rfl mixed (by kernel_rfl) (by kernel_rfl) (by kernel_rfl) (fun w1 hS1 => ?_)
    replace hblk := hblk.up hS1
    replace hS := hS.trans hS1
    replace hX := fun b hb => Nat.lt_of_lt_of_le (hX b hb) hS1.size
    repeat' (first | refine D1 ?_ | (exfalso; omega) | refine WD_splitN rfl rfl rfl rfl (fun hg => ?_) (fun hg => ?_) | (refine WD_splitBN rfl rfl rfl rfl (fun hg => ?_) (fun hg => ?_) <;> refine D1 ?_) | fail)
    all_goals
      refine WD_eff rfl trivial (OE_buildSlice (vs := [(0, .int .i64 2)]) rfl (buildSI1 _)) (fun _ _ h => NewSl.stp h) rfl ?_
      rintro g wq hN
      have s_g : SlV X wq g [(2 : Int)] := hN.slv hX rfl rfl (by simp [maxLen])
      have hT := NewSl.stp hN
      clear hN
      replace hblk := hblk.up hT
      replace hS := hS.trans hT
      clear hT
      refine D ?_
      refine W ?_
      refine WQ_ret4 rfl rfl rfl rfl rfl ?_
      refine effPost heq ?_ (nilSlv _ _) (nilSlv _ _) (s_g) hS
      first | rfl | (simp only [decide_eq_decide]; omega) | (symm; simp only [decide_eq_true_eq]; omega) | (simp only [decide_eq_true_eq]; omega)
  by_cases h3 : x.op = 3
  · have heq : effF x = ([], [], [3], decide (0 ≤ x.n ∧ x.n ≤ 3652058)) := by simp [effF, h3]
    repeat' (first | refine W1 ?_ | (exfalso; omega) | refine WL_split rfl rfl (fun hg => ?_) (fun hg => ?_) | refine WL_splitB rfl rfl (fun hg => ?_) (fun hg => ?_) | refine WC_cond rfl (fun hc => ?_) (fun hc => ?_) | refine WC_condB rfl (fun hc => ?_) (fun hc => ?_))
    refine WC_drawn 13 [] [] [(1, 0), (2, 1), (3, 0), (4, 0), (5, 0), (6, 1), (7, 0), (8, 0), (9, 0), (10, 0), (0, 2), (11, 0), (12, 0)] rfl mixed (by kernel_rfl) (by kernel_rfl) (by kernel_rfl) (fun w1 hS1 => ?_)
    replace hblk := hblk.up hS1
    replace hS := hS.trans hS1
    replace hX := fun b hb => Nat.lt_of_lt_of_le (hX b hb) hS1.size
    repeat' (first | refine D1 ?_ | (exfalso; omega) | refine WD_splitN rfl rfl rfl rfl (fun hg => ?_) (fun hg => ?_) | (refine WD_splitBN rfl rfl rfl rfl (fun hg => ?_) (fun hg => ?_) <;> refine D1 ?_) | fail)
    all_goals
      refine WD_eff rfl trivial (OE_buildSlice (vs := [(0, .int .i64 3)]) rfl (buildSI1 _)) (fun _ _ h => NewSl.stp h) rfl ?_
      rintro g wq hN
      have s_g : SlV X wq g [(3 : Int)] := hN.slv hX rfl rfl (by simp [maxLen])
      have hT := NewSl.stp hN
      clear hN
      replace hblk := hblk.up hT
      replace hS := hS.trans hT
      clear hT
      refine D ?_
      refine W ?_
      refine WQ_ret4 rfl rfl rfl rfl rfl ?_
      refine effPost heq ?_ (nilSlv _ _) (nilSlv _ _) (s_g) hS
      first | rfl | (simp only [decide_eq_decide]; omega) | (symm; simp only [decide_eq_false_iff_not]; omega) | (simp only [decide_eq_false_iff_not]; omega)
  by_cases h4 : x.op = 4
  · by_cases h01 : x.n = 0 ∨ x.n = 1
    · have heq : effF x = ([], [], [3], decide (0 ≤ x.n ∧ x.n < 7)) := by simp [effF, h4, h01]
      repeat' (first | refine W1 ?_ | (exfalso; omega) | refine WL_split rfl rfl (fun hg => ?_) (fun hg => ?_) | refine WL_splitB rfl rfl (fun hg => ?_) (fun hg => ?_) | refine WC_cond rfl (fun hc => ?_) (fun hc => ?_) | refine WC_condB rfl (fun hc => ?_) (fun hc => ?_))
      all_goals
        refine WC_drawn 14 [] [] [(0, 0), (2, 0), (3, 1), (4, 0), (5, 0), (6, 0), (7, 1), (8, 0), (9, 0), (10, 0), (11, 0), (1, 2), (12, 0), (13, 0)] rfl mixed (by kernel_rfl) (by kernel_rfl) (by kernel_rfl) (fun w1 hS1 => ?_)
        replace hblk := hblk.up hS1
        replace hS := hS.trans hS1
        replace hX := fun b hb => Nat.lt_of_lt_of_le (hX b hb) hS1.size
        repeat' (first | refine D1 ?_ | (exfalso; omega) | refine WD_splitN rfl rfl rfl rfl (fun hg => ?_) (fun hg => ?_) | (refine WD_splitBN rfl rfl rfl rfl (fun hg => ?_) (fun hg => ?_) <;> refine D1 ?_) | fail)
        all_goals
          refine WD_eff rfl trivial (OE_buildSlice (vs := [(0, .int .i64 3)]) rfl (buildSI1 _)) (fun _ _ h => NewSl.stp h) rfl ?_
          rintro g wq hN
          have s_g : SlV X wq g [(3 : Int)] := hN.slv hX rfl rfl (by simp [maxLen])
          have hT := NewSl.stp hN
          clear hN
          replace hblk := hblk.up hT
          replace hS := hS.trans hT
          clear hT
          refine D ?_
          refine W ?_
          refine WQ_ret4 rfl rfl rfl rfl rfl ?_
          refine effPost heq ?_ (nilSlv _ _) (nilSlv _ _) (s_g) hS
          first | rfl | (simp only [decide_eq_decide]; omega) | (symm; simp only [decide_eq_true_eq, decide_eq_false_iff_not]; omega) | (simp only [decide_eq_true_eq, decide_eq_false_iff_not]; omega)
    · have heq : effF x = ([], [], [1], decide (0 ≤ x.n ∧ x.n < 7)) := by simp [effF, h4, h01]
      repeat' (first | refine W1 ?_ | (exfalso; omega) | refine WL_split rfl rfl (fun hg => ?_) (fun hg => ?_) | refine WL_splitB rfl rfl (fun hg => ?_) (fun hg => ?_) | refine WC_cond rfl (fun hc => ?_) (fun hc => ?_) | refine WC_condB rfl (fun hc => ?_) (fun hc => ?_))
      all_goals
        refine WC_drawn 14 [] [] [(0, 0), (2, 0), (3, 1), (4, 0), (5, 0), (6, 0), (7, 1), (8, 0), (9, 0), (10, 0), (11, 0), (1, 2), (12, 0), (13, 0)] rfl mixed (by kernel_rfl) (by kernel_rfl) (by kernel_rfl) (fun w1 hS1 => ?_)
        replace hblk := hblk.up hS1
        replace hS := hS.trans hS1
        replace hX := fun b hb => Nat.lt_of_lt_of_le (hX b hb) hS1.size
        repeat' (first | refine D1 ?_ | (exfalso; omega) | refine WD_splitN rfl rfl rfl rfl (fun hg => ?_) (fun hg => ?_) | (refine WD_splitBN rfl rfl rfl rfl (fun hg => ?_) (fun hg => ?_) <;> refine D1 ?_) | fail)
        all_goals
          refine WD_eff rfl trivial (OE_buildSlice (vs := [(0, .int .i64 1)]) rfl (buildSI1 _)) (fun _ _ h => NewSl.stp h) rfl ?_
          rintro g wq hN
          have s_g : SlV X wq g [(1 : Int)] := hN.slv hX rfl rfl (by simp [maxLen])
          have hT := NewSl.stp hN
          clear hN
          replace hblk := hblk.up hT
          replace hS := hS.trans hT
          clear hT
          refine D ?_
          refine W ?_
          refine WQ_ret4 rfl rfl rfl rfl rfl ?_
          refine effPost heq ?_ (nilSlv _ _) (nilSlv _ _) (s_g) hS
          first | rfl | (simp only [decide_eq_decide]; omega) | (symm; simp only [decide_eq_false_iff_not]; omega) | (simp only [decide_eq_false_iff_not]; omega)
  by_cases h13 : x.op = 13
  · have heq : effF x = ([], [], [], true) := by simp [effF, h13]
    repeat' (first | refine W1 ?_ | (exfalso; omega) | refine WL_split rfl rfl (fun hg => ?_) (fun hg => ?_) | refine WL_splitB rfl rfl (fun hg => ?_) (fun hg => ?_) | refine WC_cond rfl (fun hc => ?_) (fun hc => ?_) | refine WC_condB rfl (fun hc => ?_) (fun hc => ?_))
    refine WQ_ret4 rfl rfl rfl rfl rfl ?_
    refine effPost heq ?_ (nilSlv _ _) (nilSlv _ _) (nilSlv _ _) hS
    first | rfl | (simp only [decide_eq_decide]; omega) | (symm; simp only [decide_eq_true_eq, decide_eq_false_iff_not]; omega) | (simp only [decide_eq_true_eq, decide_eq_false_iff_not]; omega)
  by_cases h14 : x.op = 14
  · have heq : effF x = ([2], [], [], true) := by simp [effF, h14]
    repeat' (first | refine W1 ?_ | (exfalso; omega) | refine WL_split rfl rfl (fun hg => ?_) (fun hg => ?_) | refine WL_splitB rfl rfl (fun hg => ?_) (fun hg => ?_) | refine WC_cond rfl (fun hc => ?_) (fun hc => ?_) | refine WC_condB rfl (fun hc => ?_) (fun hc => ?_))
    refine WL_eff (OE_buildSlice (vs := [(0, .int .i64 2)]) rfl (buildSI1 _)) rfl ?_
    rintro t wq hN
    have s_t : SlV X wq t [(2 : Int)] := hN.slv hX rfl rfl (by simp [maxLen])
    have hT := NewSl.stp hN
    clear hN
    replace hblk := hblk.up hT
    replace hS := hS.trans hT
    replace hX := fun b hb => Nat.lt_of_lt_of_le (hX b hb) hT.size
    clear hT
    refine W ?_
    refine WQ_ret4 rfl rfl rfl rfl rfl ?_
    refine effPost heq ?_ (s_t) (nilSlv _ _) (nilSlv _ _) hS
    first | rfl | (simp only [decide_eq_decide]; omega) | (symm; simp only [decide_eq_true_eq, decide_eq_false_iff_not]; omega) | (simp only [decide_eq_true_eq, decide_eq_false_iff_not]; omega)
  by_cases h5 : x.op = 5 ∨ x.op = 6 ∨ x.op = 7
  · have heq : effF x = ([1, 1], [], [1], decide (x.n = 0)) := by rcases h5 with h | h | h <;> simp [effF, h]
    repeat' (first | refine W1 ?_ | (exfalso; omega) | refine WL_split rfl rfl (fun hg => ?_) (fun hg => ?_) | refine WL_splitB rfl rfl (fun hg => ?_) (fun hg => ?_) | refine WC_cond rfl (fun hc => ?_) (fun hc => ?_) | refine WC_condB rfl (fun hc => ?_) (fun hc => ?_))
    all_goals
      refine WL_eff (OE_buildSlice (vs := [(0, .int .i64 1), (1, .int .i64 1)]) rfl (buildSI2 _ _)) rfl ?_
      rintro t wq hN
      have s_t : SlV X wq t [(1 : Int), (1 : Int)] := hN.slv hX rfl rfl (by simp [maxLen])
      have hT := NewSl.stp hN
      clear hN
      replace hblk := hblk.up hT
      replace hS := hS.trans hT
      replace hX := fun b hb => Nat.lt_of_lt_of_le (hX b hb) hT.size
      clear hT
      refine WL_eff (OE_buildSlice (vs := [(0, .int .i64 1)]) rfl (buildSI1 _)) rfl ?_
      rintro g wq hN
      have s_g : SlV X wq g [(1 : Int)] := hN.slv hX rfl rfl (by simp [maxLen])
      have hT := NewSl.stp hN
      clear hN
      replace hblk := hblk.up hT
      replace hS := hS.trans hT
      replace hX := fun b hb => Nat.lt_of_lt_of_le (hX b hb) hT.size
      replace s_t := s_t.up hT
      clear hT
      refine W ?_
      refine WC_drawn 10 [] [] [(0, 0), (1, 0), (2, 0), (3, 0), (4, 1), (5, 0), (6, 0), (7, 0), (8, 0), (9, 0)] rfl mixed (by kernel_rfl) (by kernel_rfl) (by kernel_rfl) (fun w1 hS1 => ?_)
      replace hblk := hblk.up hS1
      replace hS := hS.trans hS1
      replace s_t := s_t.up hS1
      replace s_g := s_g.up hS1
      refine D ?_
      refine W ?_
      refine WQ_ret4 rfl rfl rfl rfl rfl ?_
      refine effPost heq ?_ (s_t) (nilSlv _ _) (s_g) hS
      first | rfl | (simp only [decide_eq_decide]; omega) | (symm; simp only [decide_eq_true_eq, decide_eq_false_iff_not]; omega) | (simp only [decide_eq_true_eq, decide_eq_false_iff_not]; omega)
  by_cases h8 : x.op = 8
  · have heq : effF x = ([1], [], [1], decide (x.n = 0)) := by simp [effF, h8]
    repeat' (first | refine W1 ?_ | (exfalso; omega) | refine WL_split rfl rfl (fun hg => ?_) (fun hg => ?_) | refine WL_splitB rfl rfl (fun hg => ?_) (fun hg => ?_) | refine WC_cond rfl (fun hc => ?_) (fun hc => ?_) | refine WC_condB rfl (fun hc => ?_) (fun hc => ?_))
    all_goals
      refine WL_eff (OE_buildSlice (vs := [(0, .int .i64 1)]) rfl (buildSI1 _)) rfl ?_
      rintro t wq hN
      have s_t : SlV X wq t [(1 : Int)] := hN.slv hX rfl rfl (by simp [maxLen])
      have hT := NewSl.stp hN
      clear hN
      replace hblk := hblk.up hT
      replace hS := hS.trans hT
      replace hX := fun b hb => Nat.lt_of_lt_of_le (hX b hb) hT.size
      clear hT
      refine WL_eff (OE_buildSlice (vs := [(0, .int .i64 1)]) rfl (buildSI1 _)) rfl ?_
      rintro g wq hN
      have s_g : SlV X wq g [(1 : Int)] := hN.slv hX rfl rfl (by simp [maxLen])
      have hT := NewSl.stp hN
      clear hN
      replace hblk := hblk.up hT
      replace hS := hS.trans hT
      replace hX := fun b hb => Nat.lt_of_lt_of_le (hX b hb) hT.size
      replace s_t := s_t.up hT
      clear hT
      refine W ?_
      refine WC_drawn 10 [] [] [(0, 0), (1, 0), (2, 0), (3, 0), (4, 1), (5, 0), (6, 0), (7, 0), (8, 0), (9, 0)] rfl mixed (by kernel_rfl) (by kernel_rfl) (by kernel_rfl) (fun w1 hS1 => ?_)
      replace hblk := hblk.up hS1
      replace hS := hS.trans hS1
      replace s_t := s_t.up hS1
      replace s_g := s_g.up hS1
      refine D ?_
      refine W ?_
      refine WQ_ret4 rfl rfl rfl rfl rfl ?_
      refine effPost heq ?_ (s_t) (nilSlv _ _) (s_g) hS
      first | rfl | (simp only [decide_eq_decide]; omega) | (symm; simp only [decide_eq_true_eq, decide_eq_false_iff_not]; omega) | (simp only [decide_eq_true_eq, decide_eq_false_iff_not]; omega)
  by_cases h9 : x.op = 9 ∨ x.op = 10 ∨ x.op = 11
  · have heq : effF x = ([1, 1], [3, 3], [2], decide (x.n = 0)) := by rcases h9 with h | h | h <;> simp [effF, h]
    repeat' (first | refine W1 ?_ | (exfalso; omega) | refine WL_split rfl rfl (fun hg => ?_) (fun hg => ?_) | refine WL_splitB rfl rfl (fun hg => ?_) (fun hg => ?_) | refine WC_cond rfl (fun hc => ?_) (fun hc => ?_) | refine WC_condB rfl (fun hc => ?_) (fun hc => ?_))
    all_goals
      refine WL_eff (OE_buildSlice (vs := [(0, .int .i64 1), (1, .int .i64 1)]) rfl (buildSI2 _ _)) rfl ?_
      rintro t wq hN
      have s_t : SlV X wq t [(1 : Int), (1 : Int)] := hN.slv hX rfl rfl (by simp [maxLen])
      have hT := NewSl.stp hN
      clear hN
      replace hblk := hblk.up hT
      replace hS := hS.trans hT
      replace hX := fun b hb => Nat.lt_of_lt_of_le (hX b hb) hT.size
      clear hT
      refine WL_eff (OE_buildSlice (vs := [(0, .int .i64 3), (1, .int .i64 3)]) rfl (buildSI2 _ _)) rfl ?_
      rintro a wq hN
      have s_a : SlV X wq a [(3 : Int), (3 : Int)] := hN.slv hX rfl rfl (by simp [maxLen])
      have hT := NewSl.stp hN
      clear hN
      replace hblk := hblk.up hT
      replace hS := hS.trans hT
      replace hX := fun b hb => Nat.lt_of_lt_of_le (hX b hb) hT.size
      replace s_t := s_t.up hT
      clear hT
      refine WL_eff (OE_buildSlice (vs := [(0, .int .i64 2)]) rfl (buildSI1 _)) rfl ?_
      rintro g wq hN
      have s_g : SlV X wq g [(2 : Int)] := hN.slv hX rfl rfl (by simp [maxLen])
      have hT := NewSl.stp hN
      clear hN
      replace hblk := hblk.up hT
      replace hS := hS.trans hT
      replace hX := fun b hb => Nat.lt_of_lt_of_le (hX b hb) hT.size
      replace s_t := s_t.up hT
      replace s_a := s_a.up hT
      clear hT
      refine W ?_
      refine WC_drawn 10 [] [] [(0, 0), (1, 0), (2, 0), (3, 0), (4, 1), (5, 0), (6, 0), (7, 0), (8, 0), (9, 0)] rfl mixed (by kernel_rfl) (by kernel_rfl) (by kernel_rfl) (fun w1 hS1 => ?_)
      replace hblk := hblk.up hS1
      replace hS := hS.trans hS1
      replace s_t := s_t.up hS1
      replace s_a := s_a.up hS1
      replace s_g := s_g.up hS1
      refine D ?_
      refine W ?_
      refine WQ_ret4 rfl rfl rfl rfl rfl ?_
      refine effPost heq ?_ (s_t) (s_a) (s_g) hS
      first | rfl | (simp only [decide_eq_decide]; omega) | (symm; simp only [decide_eq_true_eq, decide_eq_false_iff_not]; omega) | (simp only [decide_eq_true_eq, decide_eq_false_iff_not]; omega)
  by_cases h12 : x.op = 12
  · have heq : effF x = ([2], [], [2], decide (x.n = 0)) := by simp [effF, h12]
    repeat' (first | refine W1 ?_ | (exfalso; omega) | refine WL_split rfl rfl (fun hg => ?_) (fun hg => ?_) | refine WL_splitB rfl rfl (fun hg => ?_) (fun hg => ?_) | refine WC_cond rfl (fun hc => ?_) (fun hc => ?_) | refine WC_condB rfl (fun hc => ?_) (fun hc => ?_))
    all_goals
      refine WL_eff (OE_buildSlice (vs := [(0, .int .i64 2)]) rfl (buildSI1 _)) rfl ?_
      rintro t wq hN
      have s_t : SlV X wq t [(2 : Int)] := hN.slv hX rfl rfl (by simp [maxLen])
      have hT := NewSl.stp hN
      clear hN
      replace hblk := hblk.up hT
      replace hS := hS.trans hT
      replace hX := fun b hb => Nat.lt_of_lt_of_le (hX b hb) hT.size
      clear hT
      refine WL_eff (OE_buildSlice (vs := [(0, .int .i64 2)]) rfl (buildSI1 _)) rfl ?_
      rintro g wq hN
      have s_g : SlV X wq g [(2 : Int)] := hN.slv hX rfl rfl (by simp [maxLen])
      have hT := NewSl.stp hN
      clear hN
      replace hblk := hblk.up hT
      replace hS := hS.trans hT
      replace hX := fun b hb => Nat.lt_of_lt_of_le (hX b hb) hT.size
      replace s_t := s_t.up hT
      clear hT
      refine W ?_
      refine WC_drawn 10 [] [] [(0, 0), (1, 0), (2, 0), (3, 0), (4, 1), (5, 0), (6, 0), (7, 0), (8, 0), (9, 0)] rfl mixed (by kernel_rfl) (by kernel_rfl) (by kernel_rfl) (fun w1 hS1 => ?_)
      replace hblk := hblk.up hS1
      replace hS := hS.trans hS1
      replace s_t := s_t.up hS1
      replace s_g := s_g.up hS1
      refine D ?_
      refine W ?_
      refine WQ_ret4 rfl rfl rfl rfl rfl ?_
      refine effPost heq ?_ (s_t) (nilSlv _ _) (s_g) hS
      first | rfl | (simp only [decide_eq_decide]; omega) | (symm; simp only [decide_eq_true_eq, decide_eq_false_iff_not]; omega) | (simp only [decide_eq_true_eq, decide_eq_false_iff_not]; omega)
  by_cases h15 : x.op = 15 ∨ x.op = 16 ∨ x.op = 17 ∨ x.op = 18
  · have heq : effF x = ([3, 1], [], [3], decide (x.n = 0)) := by rcases h15 with h | h | h | h <;> simp [effF, h]
    repeat' (first | refine W1 ?_ | (exfalso; omega) | refine WL_split rfl rfl (fun hg => ?_) (fun hg => ?_) | refine WL_splitB rfl rfl (fun hg => ?_) (fun hg => ?_) | refine WC_cond rfl (fun hc => ?_) (fun hc => ?_) | refine WC_condB rfl (fun hc => ?_) (fun hc => ?_))
    all_goals
      refine WL_eff (OE_buildSlice (vs := [(0, .int .i64 3), (1, .int .i64 1)]) rfl (buildSI2 _ _)) rfl ?_
      rintro t wq hN
      have s_t : SlV X wq t [(3 : Int), (1 : Int)] := hN.slv hX rfl rfl (by simp [maxLen])
      have hT := NewSl.stp hN
      clear hN
      replace hblk := hblk.up hT
      replace hS := hS.trans hT
      replace hX := fun b hb => Nat.lt_of_lt_of_le (hX b hb) hT.size
      clear hT
      refine WL_eff (OE_buildSlice (vs := [(0, .int .i64 3)]) rfl (buildSI1 _)) rfl ?_
      rintro g wq hN
      have s_g : SlV X wq g [(3 : Int)] := hN.slv hX rfl rfl (by simp [maxLen])
      have hT := NewSl.stp hN
      clear hN
      replace hblk := hblk.up hT
      replace hS := hS.trans hT
      replace hX := fun b hb => Nat.lt_of_lt_of_le (hX b hb) hT.size
      replace s_t := s_t.up hT
      clear hT
      refine W ?_
      refine WC_drawn 10 [] [] [(0, 0), (1, 0), (2, 0), (3, 0), (4, 1), (5, 0), (6, 0), (7, 0), (8, 0), (9, 0)] rfl mixed (by kernel_rfl) (by kernel_rfl) (by kernel_rfl) (fun w1 hS1 => ?_)
      replace hblk := hblk.up hS1
      replace hS := hS.trans hS1
      replace s_t := s_t.up hS1
      replace s_g := s_g.up hS1
      refine D ?_
      refine W ?_
      refine WQ_ret4 rfl rfl rfl rfl rfl ?_
      refine effPost heq ?_ (s_t) (nilSlv _ _) (s_g) hS
      first | rfl | (simp only [decide_eq_decide]; omega) | (symm; simp only [decide_eq_true_eq, decide_eq_false_iff_not]; omega) | (simp only [decide_eq_true_eq, decide_eq_false_iff_not]; omega)
  by_cases h19 : x.op = 19 ∨ x.op = 20
  · have heq : effF x = ([3], [], [3], decide (x.n = 0)) := by rcases h19 with h | h <;> simp [effF, h]
    repeat' (first | refine W1 ?_ | (exfalso; omega) | refine WL_split rfl rfl (fun hg => ?_) (fun hg => ?_) | refine WL_splitB rfl rfl (fun hg => ?_) (fun hg => ?_) | refine WC_cond rfl (fun hc => ?_) (fun hc => ?_) | refine WC_condB rfl (fun hc => ?_) (fun hc => ?_))
    all_goals
      refine WL_eff (OE_buildSlice (vs := [(0, .int .i64 3)]) rfl (buildSI1 _)) rfl ?_
      rintro t wq hN
      have s_t : SlV X wq t [(3 : Int)] := hN.slv hX rfl rfl (by simp [maxLen])
      have hT := NewSl.stp hN
      clear hN
      replace hblk := hblk.up hT
      replace hS := hS.trans hT
      replace hX := fun b hb => Nat.lt_of_lt_of_le (hX b hb) hT.size
      clear hT
      refine WL_eff (OE_buildSlice (vs := [(0, .int .i64 3)]) rfl (buildSI1 _)) rfl ?_
      rintro g wq hN
      have s_g : SlV X wq g [(3 : Int)] := hN.slv hX rfl rfl (by simp [maxLen])
      have hT := NewSl.stp hN
      clear hN
      replace hblk := hblk.up hT
      replace hS := hS.trans hT
      replace hX := fun b hb => Nat.lt_of_lt_of_le (hX b hb) hT.size
      replace s_t := s_t.up hT
      clear hT
      refine W ?_
      refine WC_drawn 10 [] [] [(0, 0), (1, 0), (2, 0), (3, 0), (4, 1), (5, 0), (6, 0), (7, 0), (8, 0), (9, 0)] rfl mixed (by kernel_rfl) (by kernel_rfl) (by kernel_rfl) (fun w1 hS1 => ?_)
      replace hblk := hblk.up hS1
      replace hS := hS.trans hS1
      replace s_t := s_t.up hS1
      replace s_g := s_g.up hS1
      refine D ?_
      refine W ?_
      refine WQ_ret4 rfl rfl rfl rfl rfl ?_
      refine effPost heq ?_ (s_t) (nilSlv _ _) (s_g) hS
      first | rfl | (simp only [decide_eq_decide]; omega) | (symm; simp only [decide_eq_true_eq, decide_eq_false_iff_not]; omega) | (simp only [decide_eq_true_eq, decide_eq_false_iff_not]; omega)
  by_cases h21 : x.op = 21 ∨ x.op = 22
  · have heq : effF x = ([3, 3], [], [3], decide (x.n = 0)) := by rcases h21 with h | h <;> simp [effF, h]
    repeat' (first | refine W1 ?_ | (exfalso; omega) | refine WL_split rfl rfl (fun hg => ?_) (fun hg => ?_) | refine WL_splitB rfl rfl (fun hg => ?_) (fun hg => ?_) | refine WC_cond rfl (fun hc => ?_) (fun hc => ?_) | refine WC_condB rfl (fun hc => ?_) (fun hc => ?_))
    all_goals
      refine WL_eff (OE_buildSlice (vs := [(0, .int .i64 3), (1, .int .i64 3)]) rfl (buildSI2 _ _)) rfl ?_
      rintro t wq hN
      have s_t : SlV X wq t [(3 : Int), (3 : Int)] := hN.slv hX rfl rfl (by simp [maxLen])
      have hT := NewSl.stp hN
      clear hN
      replace hblk := hblk.up hT
      replace hS := hS.trans hT
      replace hX := fun b hb => Nat.lt_of_lt_of_le (hX b hb) hT.size
      clear hT
      refine WL_eff (OE_buildSlice (vs := [(0, .int .i64 3)]) rfl (buildSI1 _)) rfl ?_
      rintro g wq hN
      have s_g : SlV X wq g [(3 : Int)] := hN.slv hX rfl rfl (by simp [maxLen])
      have hT := NewSl.stp hN
      clear hN
      replace hblk := hblk.up hT
      replace hS := hS.trans hT
      replace hX := fun b hb => Nat.lt_of_lt_of_le (hX b hb) hT.size
      replace s_t := s_t.up hT
      clear hT
      refine W ?_
      refine WC_drawn 10 [] [] [(0, 0), (1, 0), (2, 0), (3, 0), (4, 1), (5, 0), (6, 0), (7, 0), (8, 0), (9, 0)] rfl mixed (by kernel_rfl) (by kernel_rfl) (by kernel_rfl) (fun w1 hS1 => ?_)
      replace hblk := hblk.up hS1
      replace hS := hS.trans hS1
      replace s_t := s_t.up hS1
      replace s_g := s_g.up hS1
      refine D ?_
      refine W ?_
      refine WQ_ret4 rfl rfl rfl rfl rfl ?_
      refine effPost heq ?_ (s_t) (nilSlv _ _) (s_g) hS
      first | rfl | (simp only [decide_eq_decide]; omega) | (symm; simp only [decide_eq_true_eq, decide_eq_false_iff_not]; omega) | (simp only [decide_eq_true_eq, decide_eq_false_iff_not]; omega)
  by_cases h23 : x.op = 23
  · have heq : effF x = ([3, 3], [], [1], decide (x.n = 0)) := by simp [effF, h23]
    repeat' (first | refine W1 ?_ | (exfalso; omega) | refine WL_split rfl rfl (fun hg => ?_) (fun hg => ?_) | refine WL_splitB rfl rfl (fun hg => ?_) (fun hg => ?_) | refine WC_cond rfl (fun hc => ?_) (fun hc => ?_) | refine WC_condB rfl (fun hc => ?_) (fun hc => ?_))
    all_goals
      refine WL_eff (OE_buildSlice (vs := [(0, .int .i64 3), (1, .int .i64 3)]) rfl (buildSI2 _ _)) rfl ?_
      rintro t wq hN
      have s_t : SlV X wq t [(3 : Int), (3 : Int)] := hN.slv hX rfl rfl (by simp [maxLen])
      have hT := NewSl.stp hN
      clear hN
      replace hblk := hblk.up hT
      replace hS := hS.trans hT
      replace hX := fun b hb => Nat.lt_of_lt_of_le (hX b hb) hT.size
      clear hT
      refine WL_eff (OE_buildSlice (vs := [(0, .int .i64 1)]) rfl (buildSI1 _)) rfl ?_
      rintro g wq hN
      have s_g : SlV X wq g [(1 : Int)] := hN.slv hX rfl rfl (by simp [maxLen])
      have hT := NewSl.stp hN
      clear hN
      replace hblk := hblk.up hT
      replace hS := hS.trans hT
      replace hX := fun b hb => Nat.lt_of_lt_of_le (hX b hb) hT.size
      replace s_t := s_t.up hT
      clear hT
      refine W ?_
      refine WC_drawn 10 [] [] [(0, 0), (1, 0), (2, 0), (3, 0), (4, 1), (5, 0), (6, 0), (7, 0), (8, 0), (9, 0)] rfl mixed (by kernel_rfl) (by kernel_rfl) (by kernel_rfl) (fun w1 hS1 => ?_)
      replace hblk := hblk.up hS1
      replace hS := hS.trans hS1
      replace s_t := s_t.up hS1
      replace s_g := s_g.up hS1
      refine D ?_
      refine W ?_
      refine WQ_ret4 rfl rfl rfl rfl rfl ?_
      refine effPost heq ?_ (s_t) (nilSlv _ _) (s_g) hS
      first | rfl | (simp only [decide_eq_decide]; omega) | (symm; simp only [decide_eq_true_eq, decide_eq_false_iff_not]; omega) | (simp only [decide_eq_true_eq, decide_eq_false_iff_not]; omega)
  by_cases h24 : x.op = 24
  · have heq : effF x = ([], [], [], decide (x.n = 0)) := by simp [effF, h24]
    repeat' (first | refine W1 ?_ | (exfalso; omega) | refine WL_split rfl rfl (fun hg => ?_) (fun hg => ?_) | refine WL_splitB rfl rfl (fun hg => ?_) (fun hg => ?_) | refine WC_cond rfl (fun hc => ?_) (fun hc => ?_) | refine WC_condB rfl (fun hc => ?_) (fun hc => ?_))
    refine WC_drawn 10 [] [] [(0, 0), (1, 0), (2, 0), (3, 0), (4, 1), (5, 0), (6, 0), (7, 0), (8, 0), (9, 0)] rfl mixed (by kernel_rfl) (by kernel_rfl) (by kernel_rfl) (fun w1 hS1 => ?_)
    replace hblk := hblk.up hS1
    replace hS := hS.trans hS1
    refine D ?_
    refine W ?_
    refine WQ_ret4 rfl rfl rfl rfl rfl ?_
    refine effPost heq ?_ (nilSlv _ _) (nilSlv _ _) (nilSlv _ _) hS
    first | rfl | (simp only [decide_eq_decide]; omega) | (symm; simp only [decide_eq_true_eq, decide_eq_false_iff_not]; omega) | (simp only [decide_eq_true_eq, decide_eq_false_iff_not]; omega)
  have heq : effF x = ([], [], [], false) := by simp [effF, h1, h2, h3, h4, h13, h14, h5, h8, h9, h12, h15, h19, h21, h23, h24]
  repeat' (first | refine W1 ?_ | (exfalso; omega) | refine WL_split rfl rfl (fun hg => ?_) (fun hg => ?_) | refine WL_splitB rfl rfl (fun hg => ?_) (fun hg => ?_) | refine WC_cond rfl (fun hc => ?_) (fun hc => ?_) | refine WC_condB rfl (fun hc => ?_) (fun hc => ?_))
  refine WQ_ret4 rfl rfl rfl rfl rfl ?_
  refine effPost heq ?_ (nilSlv _ _) (nilSlv _ _) (nilSlv _ _) hS
  first | rfl | (simp only [decide_eq_decide]; omega) | (symm; simp only [decide_eq_true_eq, decide_eq_false_iff_not]; omega) | (simp only [decide_eq_true_eq, decide_eq_false_iff_not]; omega)
end Go.Proofs.YtgpibcgebpgmiaaDoor


namespace Go.Eng
open Go
/-- a row of the reference's table: for which numbers, what it takes, what it gives -/
structure RwT where
  lo : Int
  hi : Int
  t : Str
  g : Str
instance : Flat RwT where
  k := 4
  enc := fun x => [.int .i64 x.lo, .int .i64 x.hi, str x.t, str x.g]
  len := fun _ => rfl
  one := by intro x u hu; simp at hu; rcases hu with rfl | rfl | rfl | rfl <;> rfl
end Go.Eng
namespace Go.Proofs.YtgpibcgebpgmiaaDoor
open Go Go.Eng Go.RowKit
set_option linter.unusedVariables false

end Go.Proofs.YtgpibcgebpgmiaaDoor


namespace Go.Proofs.YtgpibcgebpgmiaaDoor
open Go Go.Eng Go.RowKit
set_option linter.unusedVariables false

theorem field15_any (s : Str) (w : World) : Calls Tryd.prog 60 #[str s] w (Ret fun r w' => (∀ X, NdV X w' r (.mk 4 0 s [])) ∧ Stp [] w w') := by
  refine calls_of_WC1 (n := 5) Tryd.func60 rfl rfl rfl ?_
  refine W ?_
  refine WL_eff OE_alloc rfl ?_
  rintro _ w1 ⟨b, rfl, hb, hblk, hS⟩
  refine W ?_
  apply WL_build (vs := [(0, .int .i64 4), (2, str s)]) rfl (buildN02 _ _) rfl
  refine WL_eff0 (OE_storeA (us := ndC (.mk 4 0 s []) (.slice none 0 0)) rfl rfl rfl rfl (ndC_one (x := .mk 4 0 s []) (nilSlv (α := Nd) [] w)) hblk rfl) ?_
  rintro _ w2 ⟨hS2, hblk2⟩
  refine W ?_
  refine WQ_retc rfl rfl rfl hblk2 rfl ?_
  exact .mk ⟨fun X => ⟨_, rfl, nilSlv _ _⟩, hS.own hS2 (fun c hc => .inr (by simp at hc; omega))⟩
theorem number15_any (n : Int) (w : World) : Calls Tryd.prog 61 #[.int .i64 n] w (Ret fun r w' => (∀ X, NdV X w' r (.mk 1 n [] [])) ∧ Stp [] w w') := by
  refine calls_of_WC1 (n := 5) Tryd.func61 rfl rfl rfl ?_
  refine W ?_
  refine WL_eff OE_alloc rfl ?_
  rintro _ w1 ⟨b, rfl, hb, hblk, hS⟩
  refine W ?_
  apply WL_build (vs := [(0, .int .i64 1), (1, .int .i64 n)]) rfl (buildN01 _ _) rfl
  refine WL_eff0 (OE_storeA (us := ndC (.mk 1 n [] []) (.slice none 0 0)) rfl rfl rfl rfl (ndC_one (x := .mk 1 n [] []) (nilSlv (α := Nd) [] w)) hblk rfl) ?_
  rintro _ w2 ⟨hS2, hblk2⟩
  refine W ?_
  refine WQ_retc rfl rfl rfl hblk2 rfl ?_
  exact .mk ⟨fun X => ⟨_, rfl, nilSlv _ _⟩, hS.own hS2 (fun c hc => .inr (by simp at hc; omega))⟩
theorem binary15_any (X : List Nat) (s : Str) (u0 u1 : Value) (y0 y1 : Nd) (w : World) (hX0 : ∀ b ∈ X, b < w.heap.size) (h0 : NdV X w u0 y0) (h1 : NdV X w u1 y1) :
    Calls Tryd.prog 62 #[str s, u0, u1] w (Ret fun r w' => NdV X w' r (.mk 6 0 s [y0, y1]) ∧ Stp [] w w') := by
  obtain ⟨k0, rfl, s0⟩ := h0
  obtain ⟨k1, rfl, s1⟩ := h1
  obtain ⟨p0, c0, rfl, -⟩ := id s0
  obtain ⟨p1, c1, rfl, -⟩ := id s1
  refine calls_of_WC3 (n := 12) Tryd.func62 rfl rfl rfl ?_
  refine W ?_
  refine WL_eff (OE_box rfl) rfl ?_
  rintro _ w1 ⟨b1, rfl, hb1, e1, hS1⟩
  replace e1 : Blk w1 b1 _ (ndC y0 (.slice p0 y0.kids.length c0)) := e1
  refine WL_eff (OE_box rfl) rfl ?_
  rintro _ w2 ⟨b2, rfl, hb2, e2, hS2⟩
  replace e2 : Blk w2 b2 _ (ndC y1 (.slice p1 y1.kids.length c1)) := e2
  replace e1 := e1.up hS2
  have hS := hS1.trans hS2
  clear hS1 hS2
  refine WL_eff OE_alloc rfl ?_
  rintro _ w3 ⟨b, rfl, hb, hblk, hS3⟩
  replace e1 := e1.up hS3
  replace e2 := e2.up hS3
  have hz := hS.size
  replace hS := hS.trans hS3
  have hw : ∀ c ∈ b :: X, c ∈ X ∨ w.heap.size ≤ c := fun c hc => by
    rcases List.mem_cons.1 hc with rfl | h
    · right; omega
    · exact .inl h
  replace s0 := s0.ext hS (by simp) hw
  replace s1 := s1.ext hS (by simp) hw
  have hX : ∀ c ∈ b :: X, c < w3.heap.size := fun c hc => by
    rcases List.mem_cons.1 hc with rfl | h
    · exact hblk.lt
    · exact Nat.lt_of_lt_of_le (hX0 c h) hS.size
  refine W ?_
  refine WL_eff (OE_buildSlice (vs := [(0, .agg #[.int .i64 y0.kind, .int .i64 y0.num, str y0.word, .slice p0 y0.kids.length c0]), (1, .agg #[.int .i64 y1.kind, .int .i64 y1.num, str y1.word, .slice p1 y1.kids.length c1])]) rfl (buildSN2 _ _ _ _ _ _ _ _ _ _ _ _)) rfl ?_
  rintro bv w4 hN
  have hbv : SlV (b :: X) w4 bv [y0, y1] := hN.slvG (css := [ndC y0 _, ndC y1 _]) hX rfl rfl rfl (reps2 s0 s1) (by simp [maxLen])
  have hT := NewSl.stp hN
  clear hN
  replace hblk := hblk.up hT
  replace hS := hS.trans hT
  obtain ⟨p, c, rfl, -⟩ := id hbv
  apply WL_build (vs := [(0, .int .i64 6), (2, str s), (3, .slice p 2 c)]) rfl (buildN023 _ _ _ _ _) rfl
  have hlt := hblk.lt
  refine WL_eff0 (OE_storeA (us := ndC (.mk 6 0 s [y0, y1]) (.slice p 2 c)) rfl rfl rfl rfl (ndC_one (x := .mk 6 0 s [y0, y1]) hbv) hblk rfl) ?_
  rintro _ w5 ⟨hS5, hblk5⟩
  refine W ?_
  refine WQ_retc rfl rfl rfl hblk5 rfl ?_
  refine .mk ⟨⟨_, rfl, ?_⟩, hS.own hS5 (fun c hc => .inr (by simp at hc; omega))⟩
  exact (hbv.ext (X' := b :: X) hS5 (by simp) (fun _ h => .inl h)).wk (fun c hc => List.mem_cons_of_mem _ hc)
end Go.Proofs.YtgpibcgebpgmiaaDoor


namespace Go.Proofs.YtgpibcgebpgmiaaDoor
open Go Go.Eng Go.RowKit
set_option linter.unusedVariables false

/-! ### what both verifiers compute -/
abbrev Shp := List Int
/-- the shape behind an operation -/
def nextM (x : Ins) (s : Shp) : Option Shp :=
  let e := effF x
  let k := s.length - e.1.length
  if e.2.2.2 = true ∧ e.1.length ≤ s.length ∧ (s.drop k = e.1 ∨ e.2.1 ≠ [] ∧ s.drop k = e.2.1) ∧ (s.take k ++ e.2.2.1).length ≤ 16 then some (s.take k ++ e.2.2.1) else none
/-- a place is reached with a shape -/
def reachM (st : List (Option Shp)) (t : Int) (sh : Shp) : Option (List (Option Shp)) :=
  if 0 ≤ t ∧ t < st.length then
    match st.getD t.toNat none with
    | some s => if s = sh then some st else none
    | none => some (st.set t.toNat (some sh))
  else none
/-- one step; none: the code is bad -/
def stepM (st : List (Option Shp)) (i : Nat) (x : Ins) : Option (List (Option Shp)) :=
  match st.getD i none with
  | none => none
  | some s =>
    match nextM x s with
    | none => none
    | some nx =>
      if x.op = 24 then (if i + 1 = st.length ∧ s.length = 1 then some st else none)
      else if x.op = 13 then (if x.n > i then reachM st x.n nx else none)
      else if x.op = 14 then (if x.n > i then (reachM st x.n nx).bind (fun st' => reachM st' ((i : Int) + 1) nx) else none)
      else reachM st ((i : Int) + 1) nx
def runM (code : List Ins) : Nat → List (Option Shp) → Option (List (Option Shp))
  | 0, st => some st
  | k + 1, st => (runM code k st).bind (fun st' => stepM st' k (code.getD k ⟨0, 0⟩))
/-- the kind and the error of a code -/
def verM (code : List Ins) : Int × Int :=
  if code.length = 0 ∨ code.length > 200 then (0, 22) else
    match runM code code.length ((some []) :: List.replicate (code.length - 1) none) with
    | none => (0, 22)
    | some st => (((st.getD (code.length - 1) none).getD []).headD 0, 0)
theorem reachM_len {st st' : List (Option Shp)} {t : Int} {sh : Shp} (h : reachM st t sh = some st') : st'.length = st.length := by
  unfold reachM at h
  split at h
  · split at h
    · split at h
      · cases h; rfl
      · cases h
    · cases h; simp
  · cases h
example : verM [⟨4, 0⟩, ⟨1, 3⟩, ⟨15, 0⟩, ⟨24, 0⟩] = (3, 0) := by decide
example : verM [⟨24, 0⟩] = (0, 22) := by decide
end Go.Proofs.YtgpibcgebpgmiaaDoor


/-
A new slice of zeros, one cell to an element.
-/
namespace Go.Eng
open Go Go.RowKit Go.Proofs
set_option linter.unusedVariables false
variable {P : Program} {n : Nat} {e : Env} {w : World} {d : Option Nat} {ty : TypeId} {pos : String} {af : Array Edge} {g : Option (Nat × Bool)}
theorem flatten_replicate_one (k : Nat) (u : Value) : (List.replicate k [u]).flatten = List.replicate k u := by
  induction k with
  | zero => rfl
  | succ k ih => rw [List.replicate_succ, List.flatten_cons, ih]; rfl
theorem OE_makeSlice1 {α : Type} [GoRep α] {t T bytes k : Nat} {x y : Operand} {z u : Value} {a0 : α} [ht : Und P t (.slice T)] [hk : Siz P T 1] [hb : Byt P T bytes] [hz : Zer P T z] (hk1 : GoRep.k α = 1) (hzu : z.cells = #[u]) (hrep : ∀ (X : List Nat) (w : World), GoRep.rep X w a0 [u])
    (hx : ev e x = some (.int .i64 (k : Int))) (hy : ev e y = some (.int .i64 (k : Int))) (hkm : k ≤ maxLen) (hbytes : bytes * k ≤ 281474976710656) :
    OE P n ⟨d, .makeSlice t x y, ty, pos, af, g⟩ e w (fun v w' => (∀ X, Row X w' w.heap.size T v (List.replicate k a0)) ∧ Stp [] w w') := by
  obtain ⟨i, hi, hi1, hi2, hi3⟩ : ∃ i, P.info? T = some i ∧ i.size = 1 ∧ i.bytes = bytes ∧ i.zero = some z := by
    have a1 := hk.h
    have a2 := hb.h
    have a3 := hz.h
    cases hi : P.info? T with
    | none => simp [hi] at a1
    | some i => exact ⟨i, rfl, by simpa [hi] using a1, by simpa [hi] using a2, by simpa [hi] using a3⟩
  obtain ⟨w', hrun, hown, hgr⟩ := run_make_full (P := P) w w.heap.size t T i z 1 ht.h hi hi3 hi1 .i64 .i64 k (by rw [hi2]; exact hbytes) hkm (Nat.le_refl _)
  rw [hzu, Nat.mul_one, toList_madeCells_one] at hown
  refine OE_value (v := .slice (some ⟨w.heap.size, 0, none⟩) k k) (w' := w') (fun a ha => ?_) ⟨fun X => ⟨List.replicate k [u], by simp, fun j hj hj' => ?_, ?_⟩, Stp.of_grown hgr⟩
  · simp [execOp, ha.ev hx, ha.ev hy, hrun]
  · rw [List.getElem_replicate, List.getElem_replicate]
    exact hrep _ _
  · rw [flatten_replicate_one, hk1, List.length_replicate]
    exact hown
end Go.Eng


/-
An element of a row is written: the other blocks may lie anywhere.
-/
namespace Go.Eng
open Go Go.RowKit Go.Proofs
set_option linter.unusedVariables false
section
variable {P : Program} {n : Nat} {e : Env} {d : Option Nat} {ty : TypeId} {pos : String} {af : Array Edge} {g : Option (Nat × Bool)}
variable {α : Type} [GoRep α] {X : List Nat} {w w' : World} {base T : Nat} {v : Value} {xs : List α}
theorem OE_storeElX {i k : Nat} {t : TypeId} {x y : Operand} {u : Value} {y' : α} [hsz : Siz P t k] (hx : ev e x = some (.pointer (some (elAddr v i k 0)))) (hy : ev e y = some u) (hk : k = GoRep.k α)
    (hr' : GoRep.rep (ob v ++ X) w y' u.cells.toList) (hrow : Row X w base T v xs) (hi : i < xs.length) :
    OE P n ⟨d, .store t x y, ty, pos, af, g⟩ e w (fun _ w' => Row X w' base T v (xs.set i y') ∧ Stp (ob v) w w') := by
  have hrow0 := hrow
  obtain ⟨css, hl, hr, ho⟩ := hrow
  have hlen : ∀ c ∈ css, c.length = GoRep.k α := by
    intro c hc
    obtain ⟨q, hq, rfl⟩ := List.getElem_of_mem hc
    exact GoRep.len (hr q (by omega) hq)
  rcases ho.2 with ⟨rfl, hn⟩ | ⟨q, cap, cur, rfl, hb, hg, hnc, hcm, hcs, ht⟩
  · omega
  · subst hk
    have hul : u.cells.toList.length = GoRep.k α := GoRep.len hr'
    have hfit : i * GoRep.k α + u.cells.toList.length ≤ cur.size := by
      rw [hul, hcs, ← Nat.succ_mul]
      exact Nat.mul_le_mul_right _ (by omega)
    have hst := run_storeCells_at P q (i * GoRep.k α) T u.cells.toList 0 cur w hg (by simpa using hfit) (GoRep.one hr')
    simp only [Nat.add_zero] at hst
    have hus : u.cells.size = GoRep.k α := by simpa using hul
    have hSt : Stp [q] w (w.setRow q (cur.toList.take (i * GoRep.k α) ++ u.cells.toList ++ cur.toList.drop (i * GoRep.k α + u.cells.toList.length)).toArray) := setRow_stp _ _ _
    refine OE_skip (w' := w.setRow q (cur.toList.take (i * GoRep.k α) ++ u.cells.toList ++ cur.toList.drop (i * GoRep.k α + u.cells.toList.length)).toArray) (fun a ha => ?_) ⟨⟨css.set i u.cells.toList, by simp [hl], fun j hj hj' => ?_, ?_, .inr ⟨q, cap, _, by simp, hb, setRow_heap w q cur _ T (0, 0) hg, by simpa using hnc, hcm, ?_, ?_⟩⟩, hSt⟩
    · have hel : elAddr (.slice (some ⟨q, 0, none⟩) xs.length cap) i (GoRep.k α) 0 = ⟨q, i * GoRep.k α, none⟩ := by simp [elAddr]
      rw [hel] at hx
      simp [execOp, ha.ev hx, ha.ev hy, Instr.storeAt, Instr.sureAddr, storeVar, Siz.run, hus, hst]
    · have hS1 : ∀ b ∈ [q], b ∈ ob (.slice (some ⟨q, 0, none⟩) xs.length cap) ++ X := by simp [ob]
      by_cases hij : i = j
      · subst hij
        simp only [List.getElem_set_self]
        exact GoRep.ext hr' hSt hS1 (fun b hb => .inl hb)
      · simp only [List.getElem_set_ne hij]
        exact GoRep.ext (hr j (by simpa using hj) (by simpa using hj')) hSt hS1 (fun b hb => .inl hb)
    · rw [flatten_set css hlen i (by omega)]
      have h1 := ho.1
      simp only [List.length_append, List.length_take, List.length_drop, List.length_set, hul, h1]
      have : (i + 1) * GoRep.k α ≤ xs.length * GoRep.k α := Nat.mul_le_mul_right _ (by omega)
      rw [Nat.succ_mul] at this
      omega
    · simp only [List.size_toArray, List.length_append, List.length_take, List.length_drop, Array.length_toList, hul, hcs]
      rw [hul, hcs] at hfit
      omega
    · rw [flatten_set css hlen i (by omega), ← ht]
      have h2 : (i + 1) * GoRep.k α ≤ xs.length * GoRep.k α := Nat.mul_le_mul_right _ (by omega)
      rw [Nat.succ_mul] at h2
      have h3 : i * GoRep.k α ≤ cur.toList.length := by simp [hcs]; exact Nat.le_trans (by omega) (Nat.mul_le_mul_right _ hnc)
      simp only [List.length_set, hul]
      rw [List.take_append, List.take_append, List.take_take, List.take_take, List.drop_take]
      simp only [List.length_append, List.length_take, hul]
      rw [Nat.min_eq_left h3, List.take_of_length_le (l := u.cells.toList) (by rw [hul]; omega)]
      rw [Nat.min_eq_right (by omega : i * GoRep.k α ≤ xs.length * GoRep.k α), Nat.min_eq_left (by omega : i * GoRep.k α ≤ xs.length * GoRep.k α)]

end
end Go.Eng


namespace Go.Eng
open Go Go.RowKit Go.Proofs
theorem Row.slvX {α : Type} [GoRep α] {X : List Nat} {w : World} {base T : Nat} {v : Value} {xs : List α} (h : Row X w base T v xs) (hX : ∀ b ∈ X, b ∉ ob v) : SlV X w v xs := by
  obtain ⟨css, hl, hr, ho⟩ := h
  have hk : ∀ c ∈ css, c.length = GoRep.k α := by
    intro c hc
    obtain ⟨i, hi, rfl⟩ := List.getElem_of_mem hc
    exact GoRep.len (hr i (by omega) hi)
  rcases ho.2 with ⟨rfl, hn⟩ | ⟨q, cap, cur, rfl, hb, hg, hnc, hcm, hcs, ht⟩
  · exact ⟨none, 0, by rw [hn], by omega, by simp [maxLen], fun _ => rfl, fun i hi => by omega⟩
  · refine ⟨some ⟨q, 0, none⟩, cap, rfl, hnc, hcm, fun h => by simp at h, fun i hi => ?_⟩
    refine ⟨q, 0, css[i]'(by omega), rfl, (Array.getElem?_eq_some_iff.1 hg).1, fun hx => hX q hx (by simp [ob]), ?_, fun j u hu => ?_⟩
    · exact GoRep.ext (hr i hi (by omega)) (Stp.refl [] w) (by simp) (fun b hb => .inl (by simp [hb]))
    · have h1 := flatten_at css hk i (by omega) j u hu
      rw [← ht, List.getElem?_take] at h1
      split at h1
      · have h2 : cur[i * GoRep.k α + j]? = some u := by simpa using h1
        rw [Nat.zero_add, cell_of_row w q _ cur T (0, 0) hg]
        exact h2
      · cases h1
end Go.Eng
namespace Go.Proofs.YtgpibcgebpgmiaaDoor
open Go Go.Eng Go.RowKit
set_option linter.unusedVariables false

abbrev shpS (st : List (Option Shp)) : List (Sl Int) := st.map (fun o => ⟨o.getD []⟩)
abbrev seenS (st : List (Option Shp)) : List Bool := st.map Option.isSome
/-- a verifier at work -/
structure Vf (w : World) (bv base : Nat) (cv hv sv : Value) (code : List Ins) (st : List (Option Shp)) : Prop where
  blk : Blk w bv 112 [cv, hv, sv]
  cod : SlV (bv :: (ob hv ++ ob sv)) w cv code
  shp : Row (bv :: ob sv) w base 22 hv (shpS st)
  seen : Row [] w base 4 sv (seenS st)
  nh : bv ∉ ob hv
  ns : bv ∉ ob sv
  hi : base ≤ w.heap.size
  apart : ∀ b ∈ ob hv, b ∉ ob sv
  len : st.length = code.length
theorem Vf.up {w w' : World} {bv base : Nat} {cv hv sv : Value} {code : List Ins} {st : List (Option Shp)} (h : Vf w bv base cv hv sv code st) (hS : Stp [] w w') : Vf w' bv base cv hv sv code st :=
  ⟨h.blk.up hS, h.cod.up hS, h.shp.up hS, h.seen.up hS, h.nh, h.ns, Nat.le_trans h.hi hS.size, h.apart, h.len⟩
theorem reach_any (bv base : Nat) (cv hv sv uv : Value) (code : List Ins) (st : List (Option Shp)) (t : Int) (s : Shp) (w : World) (h : Vf w bv base cv hv sv code st) (ht : 0 ≤ t) (hs : SlV (bv :: (ob hv ++ ob sv)) w uv s) :
    Calls Tryd.prog 99 #[.pointer (some ⟨bv, 0, none⟩), .int .i64 t, uv] w (Ret fun r w' => Stp (bv :: (ob hv ++ ob sv)) w w' ∧ r = .bool (reachM st t s).isSome ∧ ∀ st', reachM st t s = some st' → Vf w' bv base cv hv sv code st') := by
  have hblk := h.blk
  have hcode := h.cod
  have hmax := hcode.max
  have hlen := h.len
  have hbh := h.nh
  have hbs := h.ns
  have hshp := h.shp.slvX (fun b hb => by
    rcases List.mem_cons.1 hb with rfl | hb
    · exact hbh
    · exact fun hb' => h.apart b hb' hb)
  have hseen := h.seen.slv0
  have hl1 : (shpS st).length = st.length := by simp [shpS]
  have hl2 : (seenS st).length = st.length := by simp [seenS]
  refine calls_of_WC3 (n := 45) Tryd.func99 rfl rfl rfl ?_
  refine W ?_
  by_cases hlt : t < code.length
  case neg =>
    have hr : reachM st t s = none := by rw [reachM, if_neg (by omega)]
    repeat' (first | refine W1 ?_ | (exfalso; omega) | refine WL_split rfl rfl (fun hg => ?_) (fun hg => ?_) | refine WL_splitB rfl rfl (fun hg => ?_) (fun hg => ?_) | refine WC_cond rfl (fun hc => ?_) (fun hc => ?_) | refine WC_condB rfl (fun hc => ?_) (fun hc => ?_))
    first | refine WQ_ret1 rfl rfl ?_ | refine WQ_ret2 rfl rfl rfl ?_ | refine WQ_ret3 rfl rfl rfl rfl ?_ | refine WQ_ret0 rfl ?_ | refine WQ_end0 rfl ?_
    exact .mk ⟨Stp.refl _ _, by rw [hr]; rfl, fun st' h => by rw [hr] at h; cases h⟩
  obtain ⟨k, rfl⟩ : ∃ k : Nat, t = (k : Int) := ⟨t.toNat, by omega⟩
  have hk : k < st.length := by omega
  have hk1 : k < (shpS st).length := by omega
  have hk2 : k < (seenS st).length := by omega
  have hsk : (seenS st)[k] = (st[k]).isSome := by simp [seenS]
  have hgd : st.getD ((k : Int)).toNat none = st[k] := by simp [List.getD, hk]
  cases hst : st[k] with
  | some s0 =>
    have hb1 : (seenS st)[k] = true := by rw [hsk, hst]; rfl
    have hrM : reachM st (k : Int) s = if s0 = s then some st else none := by
      rw [reachM, if_pos (by omega), hgd, hst]
    repeat' (first | refine W1 ?_ | (exfalso; omega) | refine WL_split rfl rfl (fun hg => ?_) (fun hg => ?_) | refine WL_splitB rfl rfl (fun hg => ?_) (fun hg => ?_) | refine WC_cond rfl (fun hc => ?_) (fun hc => ?_) | refine WC_condB rfl (fun hc => ?_) (fun hc => ?_))
    · obtain ⟨u, hcell, hsu⟩ := hshp.sub hk1
      have hu0 : (shpS st)[k].l = s0 := by simp [shpS, hst]
      apply WL_pure (PR_load1 rfl rfl hcell) rfl
      refine W ?_
      refine WL_eff (OE_call rfl (evs2 rfl rfl) (EqualI_any _ _ _ _ _ (hsu.wk (by simp)) (hs.wk (by simp)))) rfl ?_
      rintro _ w2 ⟨rfl, hS⟩
      refine W ?_
      first | refine WQ_ret1 rfl rfl ?_ | refine WQ_ret2 rfl rfl rfl ?_ | refine WQ_ret3 rfl rfl rfl rfl ?_ | refine WQ_ret0 rfl ?_ | refine WQ_end0 rfl ?_
      rw [hu0]
      refine .mk ⟨hS.mono (by simp), ?_, fun st' h' => ?_⟩
      · rw [hrM]
        by_cases he : s0 = s <;> simp [he]
      · rw [hrM] at h'
        split at h'
        · cases h'; exact h.up hS
        · cases h'
    · rw [hb1] at hc; exact absurd hc (by simp)
  | none =>
    have hb1 : (seenS st)[k] = false := by rw [hsk, hst]; rfl
    have hrM : reachM st (k : Int) s = some (st.set k (some s)) := by
      rw [reachM, if_pos (by omega), hgd, hst]
      simp
    repeat' (first | refine W1 ?_ | (exfalso; omega) | refine WL_split rfl rfl (fun hg => ?_) (fun hg => ?_) | refine WL_splitB rfl rfl (fun hg => ?_) (fun hg => ?_) | refine WC_cond rfl (fun hc => ?_) (fun hc => ?_) | refine WC_condB rfl (fun hc => ?_) (fun hc => ?_))
    · rw [hb1] at hc; exact absurd hc (by simp)
    refine WC_drawn 15 (ob hv ++ ob sv) [] [(0, 0), (1, 0), (2, 0), (3, 1), (4, 0), (5, 0), (6, 0), (7, 0), (8, 1), (9, 0), (10, 0), (11, 0), (12, 2), (13, 0), (14, 2)] rfl mixed (by kernel_rfl) (by kernel_rfl) (by kernel_rfl) (fun w1 hS1 => ?_)
    have nb : bv ∉ ob hv ++ ob sv := fun hb => (List.mem_append.1 hb).elim hbh hbs
    replace hblk := hblk.up hS1
    have hseen1 := hseen.up hS1
    have hshp1 := hshp.up hS1
    have rs := h.seen.up hS1
    have rh := h.shp.up hS1
    refine D ?_
    try (refine WD_read rfl trivial (fun w' hS' => PR_load_blk rfl rfl (hblk.ext hS' nb) rfl) rfl ?_)
    refine D ?_
    try (refine WD_read rfl trivial (fun w' hS' => PR_load_blk rfl rfl (hblk.ext hS' nb) rfl) rfl ?_)
    refine D ?_
    refine WD_eff0 rfl trivial (OE_storeElX (α := Bool) (y' := true) (u := .bool true) rfl rfl rfl rfl rs hk2) (fun _ _ h => h.2.mono (by simp_all)) ?_
    rintro _ w3 ⟨rs3, hS3⟩
    replace rh := rh.ext (X' := bv :: ob sv) hS3 (fun b hb => ⟨List.mem_cons_of_mem _ hb, fun hb' => h.apart b hb' hb⟩) (fun _ h => .inl h)
    have hshp3 := rh.slvX (fun b hb => by
      rcases List.mem_cons.1 hb with rfl | hb
      · exact hbh
      · exact fun hb' => h.apart b hb' hb)
    have hS13 : Stp (bv :: (ob hv ++ ob sv)) w w3 := (hS1.mono (by simp)).trans (hS3.mono (fun b hb => by simp [hb]))
    have hs3 := hs.ext hS13 (fun _ h => h) (fun _ h => .inl h)
    refine D ?_
    refine WD_eff0 rfl trivial (OE_storeElX (α := Sl Int) (y' := ⟨s⟩) (u := uv) rfl rfl rfl ⟨uv, hs3.cells, hs3.wk (fun b hb => by simp at hb; rcases hb with h | h | h <;> simp [h])⟩ rh hk1) (fun _ _ h => h.2.mono (by simp_all)) ?_
    rintro _ w4 ⟨rh4, hS4⟩
    refine D ?_
    refine W ?_
    first | refine WQ_ret1 rfl rfl ?_ | refine WQ_ret2 rfl rfl rfl ?_ | refine WQ_ret3 rfl rfl rfl rfl ?_ | refine WQ_ret0 rfl ?_ | refine WQ_end0 rfl ?_
    have hS14 : Stp (bv :: (ob hv ++ ob sv)) w w4 := hS13.trans (hS4.mono (fun b hb => by simp [hb]))
    refine .mk ⟨hS14, by rw [hrM]; rfl, fun st' h' => ?_⟩
    rw [hrM] at h'
    cases h'
    have rs4 := rs3.keep hS4 (fun b hb => h.apart b hb)
    refine ⟨(hblk.ext hS3 hbs).ext hS4 hbh, h.cod.ext hS14 (fun _ h => h) (fun _ h => .inl h), ?_, ?_, hbh, hbs, Nat.le_trans h.hi hS14.size, h.apart, by simpa using h.len⟩
    · have e : shpS (st.set k (some s)) = (shpS st).set k ⟨s⟩ := by simp [shpS, List.map_set]
      rw [e]; exact rh4
    · have e : seenS (st.set k (some s)) = (seenS st).set k true := by simp [seenS, List.map_set]
      rw [e]; exact rs4
end Go.Proofs.YtgpibcgebpgmiaaDoor


namespace Go.Proofs.YtgpibcgebpgmiaaDoor
open Go Go.Eng Go.RowKit
set_option linter.unusedVariables false

/-! ### the reference's verifier in strings -/
/-! ### it is the same -/
end Go.Proofs.YtgpibcgebpgmiaaDoor


namespace Go.Proofs.YtgpibcgebpgmiaaDoor
open Go Go.Eng Go.RowKit
set_option linter.unusedVariables false
theorem eff_no {op n : Int} (h : ¬ (1 ≤ op ∧ op ≤ 24)) : effF ⟨op, n⟩ = ([], [], [], false) := by
  have h1 : ∀ k : Int, 1 ≤ k → k ≤ 24 → ¬ op = k := fun k h1 h2 e => h (by omega)
  simp only [effF]
  rw [if_neg (h1 1 (by decide) (by decide))]
  rw [if_neg (h1 2 (by decide) (by decide))]
  rw [if_neg (h1 3 (by decide) (by decide))]
  rw [if_neg (h1 4 (by decide) (by decide))]
  rw [if_neg (h1 13 (by decide) (by decide))]
  rw [if_neg (h1 14 (by decide) (by decide))]
  rw [if_neg (not_or.2 ⟨h1 5 (by decide) (by decide), (not_or.2 ⟨h1 6 (by decide) (by decide), (h1 7 (by decide) (by decide))⟩)⟩)]
  rw [if_neg (h1 8 (by decide) (by decide))]
  rw [if_neg (not_or.2 ⟨h1 9 (by decide) (by decide), (not_or.2 ⟨h1 10 (by decide) (by decide), (h1 11 (by decide) (by decide))⟩)⟩)]
  rw [if_neg (h1 12 (by decide) (by decide))]
  rw [if_neg (not_or.2 ⟨h1 15 (by decide) (by decide), (not_or.2 ⟨h1 16 (by decide) (by decide), (not_or.2 ⟨h1 17 (by decide) (by decide), (h1 18 (by decide) (by decide))⟩)⟩)⟩)]
  rw [if_neg (not_or.2 ⟨h1 19 (by decide) (by decide), (h1 20 (by decide) (by decide))⟩)]
  rw [if_neg (not_or.2 ⟨h1 21 (by decide) (by decide), (h1 22 (by decide) (by decide))⟩)]
  rw [if_neg (h1 23 (by decide) (by decide))]
  rw [if_neg (h1 24 (by decide) (by decide))]
end Go.Proofs.YtgpibcgebpgmiaaDoor


namespace Go.Proofs.YtgpibcgebpgmiaaDoor
open Go Go.Eng Go.RowKit
set_option linter.unusedVariables false
theorem reach_none {st : List (Option Shp)} {t : Int} {nx : Shp} (h : ¬ t < st.length) : reachM st t nx = none := if_neg (fun h' => h h'.2)
end Go.Proofs.YtgpibcgebpgmiaaDoor


/-
The walk engine, part 15: a drawn region whose world has as many blocks as the one before; a new block by its number.
-/
namespace Go.Eng
open Go Go.RowKit Go.Proofs
set_option linter.unusedVariables false
section
variable {P : Program} {n : Nat} {Q : Exit → Act → World → Prop} {e : Env} {w : World}
theorem WC_drawnE {id : Nat} {l : List Oper} (m : Nat) (S : List Nat) (Lt : List Nat) (ord : List (Nat × Nat)) (hlm : l.length = m) (hm : P.follows .mixedOrders = true) (hs : Region.noSelect l.toArray = true) (hl : Nat.beq (wt ord) l.length = true)
    (hB : checkD l.toArray Lt ord (Array.replicate m false) = true)
    (h : ∀ w', Stp [] w w' → w'.heap.size = w.heap.size → WD P n l.toArray S Lt Q ord e w') : WC P n (.region id l.toArray true) Q e w := by
  subst hlm
  refine ⟨fun a ha => wp_region_any hm ?_⟩
  have h1 := (h { w with drawn := w.drawn + 1 } (Stp.drew [] w) rfl).h _ hs hB a ha
  have h2 := wpAny_of_E (Q := Q) (fun a w hz => hz) _ _ _ _ h1
  rw [Nat.eq_of_beq_eq_true hl] at h2
  simpa using h2
def NewBlkE (w : World) (T : TypeId) (cs : List Value) (v : Value) (w' : World) : Prop := v = .pointer (some ⟨w.heap.size, 0, none⟩) ∧ Blk w' w.heap.size T cs ∧ Stp [] w w'
theorem OE_allocE {d : Option Nat} {ty : TypeId} {pos : String} {af : Array Edge} {g : Option (Nat × Bool)} {t : TypeId} {z : Value} [hz : Zer P t z] : OE P n ⟨d, .alloc t, ty, pos, af, g⟩ e w (NewBlkE w t z.cells.toList) := by
  refine OE_value (v := .pointer (some ⟨w.heap.size, 0, none⟩)) (w' := w.alloc (.cells z.cells t)) (fun a ha => ?_) ?_
  · simp [execOp, Instr.alloc, Zer.run, newVar, newRow, newObj]; rfl
  · have h := newBlk w t z.cells.toList
    obtain ⟨b, hb, hb2, h1, h2⟩ := h
    simp only [Value.pointer.injEq, Option.some.injEq, Addr.mk.injEq] at hb
    obtain ⟨rfl, -⟩ := hb
    exact ⟨rfl, by simpa using h1, by simpa using h2⟩
theorem oper_monoQ {o : Oper} {a : Act} {w : World} {K K' : Act → World → Prop} {Q' : Exit → Act → World → Prop} (h : ∀ a w, K a w → K' a w) (hq : ∀ ex a w, Q' ex a w → Q ex a w)
    (hh : o.wp P a w K Q') : o.wp P a w K' Q := by
  unfold Oper.wp at *
  generalize (execOp a.eval o).run P w = r at *
  cases r with
  | ok n w' =>
    cases n <;> simp only [Oper.upon] at hh ⊢ <;>
      first
        | exact h _ _ hh
        | exact Calls.mono hh (fun e w'' he => by cases e <;> first | exact h _ _ he | exact hq _ _ _ he | exact he.elim (fun a h => h.elim (fun w h => ⟨a, w, hq _ _ _ h⟩)))
        | exact Rows.mono hh (fun _ _ he => h _ _ he)
  | halt x w' => cases x <;> simp only [Oper.upon] at hh ⊢ <;> first | exact hq _ _ _ hh | exact hh
theorem wpList_monoQ {ops : Array Oper} {Q' : Exit → Act → World → Prop} (hq : ∀ ex a w, Q' ex a w → Q ex a w) : ∀ (l : List Oper) (a : Act) (w : World), wpList P ops Q' l a w → wpList P ops Q l a w
  | [], a, w, h => hq _ _ _ h
  | o :: rest, a, w, h => by
    unfold wpList at h ⊢
    split
    · rename_i hw
      rw [if_pos hw] at h
      rcases h with h | ⟨h1, a', w', h2⟩
      · exact .inl (oper_monoQ (fun a w h => wpList_monoQ hq rest a w h) hq h)
      · exact .inr ⟨h1, a', w', hq _ _ _ h2⟩
    · rename_i hw
      rw [if_neg hw] at h
      exact wpList_monoQ hq rest _ _ h
/-- a cut inside a region -/
theorem WL_cutQ {y : Code} {σ : Type} {ops : Array Oper} {l : List Oper} (env : σ → Env) (I : σ → World → Prop)
    (h : WL P n ops (Exit.then (fun a w => ∃ s, Has n (env s) a ∧ I s w) Q) l e w) (k : ∀ s w, I s w → WC P n y Q (env s) w) : WL P n ops (Exit.then (fun a w => y.wp P Q a w) Q) l e w :=
  ⟨fun a ha => wpList_monoQ (fun ex a w hq => by
    cases ex with
    | normal => obtain ⟨s, h1, h2⟩ := hq; exact (k s w h2).h a h1
    | _ => exact hq) l a w (h.h a ha)⟩
end
end Go.Eng


namespace Go.Proofs.YtgpibcgebpgmiaaDoor
open Go Go.Eng Go.RowKit
set_option linter.unusedVariables false

theorem buildSL2 (p q : Option Addr) (l m c d : Nat) (w : World) : (Instr.buildSlice 109 2 #[(0, .slice p l c), (1, .slice q m d)]).run Tryd.prog w = .ok (.slice (some ⟨w.heap.size, 0, none⟩) 2 2) (w.alloc (.cells #[.slice p l c, .slice q m d] 22)) := by kernel_rfl
theorem Vf.shps {w : World} {bv base : Nat} {cv hv sv : Value} {code : List Ins} {st : List (Option Shp)} (h : Vf w bv base cv hv sv code st) : SlV (bv :: ob sv) w hv (shpS st) :=
  h.shp.slvX (fun b hb => by
    rcases List.mem_cons.1 hb with rfl | hb
    · exact h.nh
    · exact fun hb' => h.apart b hb' hb)
theorem Vf.bounds {w : World} {bv base : Nat} {cv hv sv : Value} {code : List Ins} {st : List (Option Shp)} (h : Vf w bv base cv hv sv code st) : ∀ b ∈ bv :: (ob hv ++ ob sv), b < w.heap.size := fun b hb => by
  have := h.blk.lt
  simp only [List.mem_cons, List.mem_append] at hb
  rcases hb with rfl | hb | hb
  · omega
  · exact (h.shp.ob_le b hb).2
  · exact (h.seen.ob_le b hb).2
theorem eff_len (x : Ins) : (effF x).1.length ≤ 2 ∧ (effF x).2.1.length ≤ 2 ∧ (effF x).2.2.1.length ≤ 1 := by
  obtain ⟨op, n⟩ := x
  by_cases hr : 1 ≤ op ∧ op ≤ 24
  · have hn : op = 1 ∨ op = 2 ∨ op = 3 ∨ op = 4 ∨ op = 5 ∨ op = 6 ∨ op = 7 ∨ op = 8 ∨ op = 9 ∨ op = 10 ∨ op = 11 ∨ op = 12 ∨ op = 13 ∨ op = 14 ∨ op = 15 ∨ op = 16 ∨ op = 17 ∨ op = 18 ∨ op = 19 ∨ op = 20 ∨ op = 21 ∨ op = 22 ∨ op = 23 ∨ op = 24 := by omega
    rcases hn with rfl | rfl | rfl | rfl | rfl | rfl | rfl | rfl | rfl | rfl | rfl | rfl | rfl | rfl | rfl | rfl | rfl | rfl | rfl | rfl | rfl | rfl | rfl | rfl <;> simp [effF]
  · rw [eff_no hr]; simp
theorem step_any (bv base : Nat) (cv hv sv : Value) (code : List Ins) (st : List (Option Shp)) (i : Nat) (w : World) (h : Vf w bv base cv hv sv code st) (hi : i < code.length) (hn : code.length ≤ 1000) (h16 : ∀ s, some s ∈ st → s.length ≤ 16) :
    Calls Tryd.prog 70 #[.pointer (some ⟨bv, 0, none⟩), .int .i64 (i : Int)] w (Ret fun r w' => Stp (bv :: (ob hv ++ ob sv)) w w' ∧ r = .bool (stepM st i code[i]).isSome ∧ ∀ st', stepM st i code[i] = some st' → Vf w' bv base cv hv sv code st') := by
  have hlen := h.len
  have hk1 : i < (shpS st).length := by simp [shpS]; omega
  have hk2 : i < (seenS st).length := by simp [seenS]; omega
  have hist : i < st.length := by omega
  refine calls_of_WC2 (n := 140) Tryd.func70 rfl rfl rfl ?_
  refine W ?_
  refine WC_drawnE 17 ([w.heap.size]) [] [(0, 0), (1, 0), (2, 0), (3, 1), (4, 0), (5, 0), (6, 1), (7, 0), (8, 0), (9, 0), (10, 1), (11, 0), (12, 0), (13, 1), (14, 2), (15, 2), (16, 0)] rfl mixed (by kernel_rfl) (by kernel_rfl) (by kernel_rfl) (fun w1 hS1 hz1 => ?_)
  replace h := h.up hS1
  have hbd := h.bounds
  have hX : ∀ b ∈ bv :: (ob hv ++ ob sv), b ∉ [w.heap.size] := fun b hb hb' => by
    have := hbd b hb
    simp at hb'; omega
  obtain ⟨cbl, hcd, hsp⟩ : Blk w1 bv 112 [cv, hv, sv] ∧ SlV [w.heap.size] w1 cv code ∧ SlV [w.heap.size] w1 hv (shpS st) := ⟨h.blk, h.cod.ext (Stp.refl [] _) (by simp) (fun b hb => .inr (by simp at hb; omega)), h.shps.ext (Stp.refl [] _) (by simp) (fun b hb => .inr (by simp at hb; omega))⟩
  have nb : bv ∉ [w.heap.size] := hX bv (by simp)
  obtain ⟨u, hcell, hsu⟩ := hsp.sub hk1
  refine D ?_
  refine WD_read rfl trivial (fun w' hS' => PR_load1 rfl rfl (cell_on hsp hk1 hS' hcell)) rfl ?_
  refine D ?_
  refine WD_eff rfl trivial OE_allocE (fun _ _ h => h.2.2.mono (by simp)) rfl ?_
  rintro _ w2 ⟨rfl, hblk, hS2⟩
  rw [hz1] at hblk ⊢
  refine WD_eff0 rfl trivial (OE_storeA (us := Flat.enc code[i]) rfl rfl rfl rfl (Flat.one _) hblk rfl) (fun _ _ h => h.1) ?_
  rintro _ w3 ⟨hS3, hblk3⟩
  have hS13 : Stp [] w1 w3 := hS2.own hS3 (fun b hb => .inr (by simp at hb; omega))
  replace h := h.up hS13
  replace hS := hS1.trans hS13
  replace hcd := h.cod
  replace cbl := h.blk
  replace hsp := h.shps
  have hsn := h.seen.slv0
  replace hbd := h.bounds
  have hsu3 : SlV [w.heap.size] w3 u (shpS st)[i].l := hsu.ext ((hS2.mono (by simp)).trans hS3) (by simp) (fun _ h => .inl h)
  clear hblk hS1 hS13 hS2 hS3 hsu hcell
  refine D ?_
  refine W ?_
  refine WL_eff (OE_call rfl (evs1 rfl) (effect_any (w.heap.size :: bv :: (ob hv ++ ob sv)) code[i] _ (fun b hb => by rcases List.mem_cons.1 hb with rfl | hb; exact hblk3.lt; exact hbd b hb))) rfl ?_
  rintro _ w4 ⟨va, vb, vc, rfl, sa, sb, sc, hS4⟩
  have hs4 := hsu3.up hS4
  replace hblk3 := hblk3.up hS4
  replace h := h.up hS4
  replace hsn := hsn.up hS4
  replace hS := hS.trans hS4
  replace cbl := cbl.up hS4
  clear hS4 hsu3
  have hM : stepM st i code[i] = stepM st i code[i] := rfl
  conv at hM => rhs; unfold stepM nextM
  have hgd : st.getD i none = st[i] := by simp [List.getD, hist]
  have hsh : (shpS st)[i].l = (st[i]).getD [] := by simp [shpS]
  have hsk : (seenS st)[i] = (st[i]).isSome := by simp [seenS]
  rw [hgd] at hM
  have hlen16 : (shpS st)[i].l.length ≤ 16 := by
    rw [hsh]
    cases hst : st[i] with
    | none => simp
    | some s => exact h16 s (by rw [← hst]; exact List.getElem_mem hist)
  obtain ⟨el1, el2, el3⟩ := eff_len code[i]
  generalize effF code[i] = E at *
  obtain ⟨ta, al, gi, ok⟩ := E
  dsimp only at sa sb sc el1 el2 el3 hM
  generalize hsv : (shpS st)[i].l = s at *
  refine W ?_
  refine WL_cutQ (σ := Bool) (fun q => [(0, .pointer (some ⟨bv, 0, none⟩)), (1, .int .i64 (i : Int)), (4, .bool false), (5, .pointer (some ⟨w.heap.size, 0, none⟩)), (6, u), (9, vc), (11, .int .i64 ((s.length : Int) - (ta.length : Int))), (75, .bool q)])
    (fun q w' => Stp [] w4 w' ∧ q = ! (decide (st[i].isSome = true ∧ ok = true ∧ ta.length ≤ s.length ∧ (s.drop (s.length - ta.length) = ta ∨ al ≠ [] ∧ s.drop (s.length - ta.length) = al)))) ?_ ?_
  · cases ok with
    | false =>
      repeat' (first | refine W1 ?_ | (exfalso; omega) | refine WL_split rfl rfl (fun hg => ?_) (fun hg => ?_) | refine WL_splitB rfl rfl (fun hg => ?_) (fun hg => ?_) | refine WC_cond rfl (fun hc => ?_) (fun hc => ?_) | refine WC_condB rfl (fun hc => ?_) (fun hc => ?_))
      exact WQ_cut true ⟨rfl, rfl, rfl, rfl, rfl, rfl, rfl, rfl, trivial⟩ ⟨Stp.refl _ _, by simp⟩
    | true =>
      cases hst : st[i].isSome with
      | false =>
        rw [hst] at hsk
        repeat' (first | refine W1 ?_ | (exfalso; omega) | refine WL_split rfl rfl (fun hg => ?_) (fun hg => ?_) | refine WL_splitB rfl rfl (fun hg => ?_) (fun hg => ?_) | refine WC_cond rfl (fun hc => ?_) (fun hc => ?_) | refine WC_condB rfl (fun hc => ?_) (fun hc => ?_))
        · exact WQ_cut true ⟨rfl, rfl, rfl, rfl, rfl, rfl, rfl, rfl, trivial⟩ ⟨Stp.refl _ _, by simp⟩
        · exact WQ_cut true ⟨rfl, rfl, rfl, rfl, rfl, rfl, rfl, rfl, trivial⟩ ⟨Stp.refl _ _, by simp⟩
        · exact absurd (show (!(seenS st)[i]) = false by assumption) (by rw [hsk]; decide)
      | true =>
        rw [hst] at hsk
        by_cases hk : ta.length ≤ s.length
        case neg =>
          repeat' (first | refine W1 ?_ | (exfalso; omega) | refine WL_split rfl rfl (fun hg => ?_) (fun hg => ?_) | refine WL_splitB rfl rfl (fun hg => ?_) (fun hg => ?_) | refine WC_cond rfl (fun hc => ?_) (fun hc => ?_) | refine WC_condB rfl (fun hc => ?_) (fun hc => ?_))
          · exact absurd (show (!(seenS st)[i]) = true by assumption) (by rw [hsk]; decide)
          · exact WQ_cut true ⟨rfl, rfl, rfl, rfl, rfl, rfl, rfl, rfl, trivial⟩ ⟨Stp.refl _ _, by simp [hk]⟩
        have hkk : (s.length : Int) - (ta.length : Int) = ((s.length - ta.length : Nat) : Int) := by omega
        have sd : SlV [w.heap.size] w4 (slc u (s.length - ta.length) s.length 1) (s.drop (s.length - ta.length)) := by
          have := hs4.slc (l := s.length - ta.length) (r := s.length) (by omega) (by omega)
          rw [List.take_length] at this
          exact this
        repeat' (first | refine W1 ?_ | (exfalso; omega) | refine WL_split rfl rfl (fun hg => ?_) (fun hg => ?_) | refine WL_splitB rfl rfl (fun hg => ?_) (fun hg => ?_) | refine WC_cond rfl (fun hc => ?_) (fun hc => ?_) | refine WC_condB rfl (fun hc => ?_) (fun hc => ?_))
        · exact absurd (show (!(seenS st)[i]) = true by assumption) (by rw [hsk]; decide)
        refine WL_slice_l rfl hs4 rfl hkk (by omega) rfl ?_
        refine W ?_
        refine WL_eff (OE_call rfl (evs2 rfl rfl) (EqualI_any _ _ _ _ _ (sd.wk (by simp)) (sa.wk (by simp)))) rfl ?_
        rintro _ w5 ⟨rfl, hS5⟩
        replace sb := sb.up hS5
        replace hs4 := hs4.up hS5
        replace sd := sd.up hS5
        repeat' (first | refine W1 ?_ | (exfalso; omega) | refine WL_split rfl rfl (fun hg => ?_) (fun hg => ?_) | refine WL_splitB rfl rfl (fun hg => ?_) (fun hg => ?_) | refine WC_cond rfl (fun hc => ?_) (fun hc => ?_) | refine WC_condB rfl (fun hc => ?_) (fun hc => ?_))
        · have h1 : ¬ s.drop (s.length - ta.length) = ta := by assumption
          have h2 : (al.length : Int) = 0 := by assumption
          have h3 : al = [] := List.length_eq_zero_iff.1 (by omega)
          exact WQ_cut true ⟨rfl, rfl, rfl, rfl, rfl, rfl, rfl, rfl, trivial⟩ ⟨hS5, by simp [h1, h3]⟩
        · have h1 : ¬ s.drop (s.length - ta.length) = ta := by assumption
          have h2 : ¬ (al.length : Int) = 0 := by assumption
          have h3 : al ≠ [] := fun h => h2 (by simp [h])
          refine WL_slice_l rfl hs4 rfl hkk (by omega) rfl ?_
          refine W ?_
          refine WL_eff (OE_call rfl (evs2 rfl rfl) (EqualI_any _ _ _ _ _ (sd.wk (by simp)) (sb.wk (by simp)))) rfl ?_
          rintro _ w6 ⟨rfl, hS6⟩
          refine W ?_
          refine WQ_cut _ ⟨rfl, rfl, rfl, rfl, rfl, rfl, rfl, rfl, trivial⟩ ⟨hS5.trans hS6, ?_⟩
          by_cases h4 : s.drop (s.length - ta.length) = al <;> simp [h1, h3, h4, hk]
        · have h1 : s.drop (s.length - ta.length) = ta := Classical.not_not.1 (by assumption)
          exact WQ_cut false ⟨rfl, rfl, rfl, rfl, rfl, rfl, rfl, rfl, trivial⟩ ⟨hS5, by simp [h1, hk]⟩
  rintro q w5 ⟨hS5, hq⟩
  try dsimp only at hq ⊢
  replace hs4 := hs4.up hS5
  replace sc := sc.up hS5
  replace hblk3 := hblk3.up hS5
  replace h := h.up hS5
  replace cbl := cbl.up hS5
  replace hS := hS.trans hS5
  clear hS5
  by_cases hC : st[i].isSome = true ∧ ok = true ∧ ta.length ≤ s.length ∧ (s.drop (s.length - ta.length) = ta ∨ al ≠ [] ∧ s.drop (s.length - ta.length) = al)
  case neg =>
    obtain rfl : q = true := by rw [hq, decide_eq_false hC]; rfl
    have hnone : stepM st i code[i] = none := by
      rw [hM]
      cases hst : st[i] with
      | none => rfl
      | some s0 =>
        obtain rfl : s = s0 := by rw [hsh, hst]; rfl
        dsimp only
        rw [if_neg (fun h => hC ⟨by rw [hst]; rfl, h.1, h.2.1, h.2.2.1⟩)]
    refine W ?_
    first | refine WQ_ret1 rfl rfl ?_ | refine WQ_ret2 rfl rfl rfl ?_ | refine WQ_ret3 rfl rfl rfl rfl ?_ | refine WQ_ret0 rfl ?_ | refine WQ_end0 rfl ?_
    exact .mk ⟨hS.mono (by simp), by rw [hnone]; rfl, fun st' h => by rw [hnone] at h; cases h⟩
  obtain rfl : q = false := by rw [hq, decide_eq_true hC]; rfl
  obtain ⟨hst', hok, hk, hC4⟩ := hC
  have hst : st[i] = some s := by
    cases hst : st[i] with
    | none => rw [hst] at hst'; cases hst'
    | some s0 => rw [hsh, hst]; rfl
  rw [hst] at hM
  dsimp only at hM
  have hkk : (s.length : Int) - (ta.length : Int) = ((s.length - ta.length : Nat) : Int) := by omega
  have sk : SlV [w.heap.size] w5 (slc u 0 (s.length - ta.length) 1) (s.take (s.length - ta.length)) := by
    have := hs4.slc (l := 0) (r := s.length - ta.length) (by omega) (by omega)
    rw [List.drop_zero] at this
    exact this
  obtain ⟨p2, c2, hp2⟩ := sk.len
  obtain ⟨p3, c3, rfl⟩ := sc.len
  refine W ?_
  refine WL_slice_h rfl hs4 rfl hkk (by omega) rfl ?_
  rw [hp2] at sk ⊢
  refine W ?_
  refine WL_eff (OE_buildSlice (vs := [(0, .slice p2 (s.take (s.length - ta.length)).length c2), (1, .slice p3 gi.length c3)]) rfl (buildSL2 _ _ _ _ _ _)) rfl ?_
  rintro bl w6 hN
  have sbl : SlV [] w6 bl [(⟨s.take (s.length - ta.length)⟩ : Sl Int), ⟨gi⟩] := hN.slvS (X := []) (by simp) rfl rfl (fun i hi hi' => match i, hi with | 0, _ => sk.wk (by simp) | 1, _ => sc.wk (by simp)) (by simp [maxLen])
  have hT := NewSl.stp hN
  clear hN
  replace hs4 := hs4.up hT
  replace hblk3 := hblk3.up hT
  replace h := h.up hT
  replace cbl := cbl.up hT
  replace hS := hS.trans hT
  clear hT
  refine WL_eff (OE_call rfl (evs1 rfl) (ConcatI_any _ _ _ sbl (by simp) (by simp; omega))) rfl ?_
  rintro rv w7 hrow
  have hcat : [(⟨s.take (s.length - ta.length)⟩ : Sl Int), ⟨gi⟩].flatMap Sl.l = s.take (s.length - ta.length) ++ gi := by simp
  rw [hcat] at hrow
  have hS7 := hrow.2
  have sr := hrow.slv h.bounds
  replace hs4 := hs4.up hS7
  replace hblk3 := hblk3.up hS7
  replace h := h.up hS7
  replace cbl := cbl.up hS7
  replace hS := hS.trans hS7
  clear hS7 hrow
  by_cases h16n : (s.take (s.length - ta.length) ++ gi).length ≤ 16
  case neg =>
    have hnone : stepM st i code[i] = none := by
      rw [hM, if_neg (fun h => h16n h.2.2.2)]
    repeat' (first | refine W1 ?_ | (exfalso; omega) | refine WL_split rfl rfl (fun hg => ?_) (fun hg => ?_) | refine WL_splitB rfl rfl (fun hg => ?_) (fun hg => ?_) | refine WC_cond rfl (fun hc => ?_) (fun hc => ?_) | refine WC_condB rfl (fun hc => ?_) (fun hc => ?_))
    first | refine WQ_ret1 rfl rfl ?_ | refine WQ_ret2 rfl rfl rfl ?_ | refine WQ_ret3 rfl rfl rfl rfl ?_ | refine WQ_ret0 rfl ?_ | refine WQ_end0 rfl ?_
    exact .mk ⟨hS.mono (by simp), by rw [hnone]; rfl, fun st' h => by rw [hnone] at h; cases h⟩
  rw [if_pos ⟨hok, hk, hC4, h16n⟩] at hM
  dsimp only at hM
  generalize s.take (s.length - ta.length) ++ gi = nx at *
  have hcod := h.cod
  by_cases h24 : code[i].op = 24
  · rw [if_pos h24] at hM
    repeat' (first | refine W1 ?_ | (exfalso; omega) | refine WL_split rfl rfl (fun hg => ?_) (fun hg => ?_) | refine WL_splitB rfl rfl (fun hg => ?_) (fun hg => ?_) | refine WC_cond rfl (fun hc => ?_) (fun hc => ?_) | refine WC_condB rfl (fun hc => ?_) (fun hc => ?_))
    · first | refine WQ_ret1 rfl rfl ?_ | refine WQ_ret2 rfl rfl rfl ?_ | refine WQ_ret3 rfl rfl rfl rfl ?_ | refine WQ_ret0 rfl ?_ | refine WQ_end0 rfl ?_
      by_cases hl1 : s.length = 1
      · have hn : stepM st i code[i] = some st := by rw [hM, if_pos ⟨by omega, hl1⟩]
        exact .mk ⟨hS.mono (by simp), by rw [hn]; congr 1; exact decide_eq_true (by omega), fun st' h' => by rw [hn] at h'; cases h'; exact h⟩
      · have hn : stepM st i code[i] = none := by rw [hM, if_neg (fun h => hl1 h.2)]
        exact .mk ⟨hS.mono (by simp), by rw [hn]; congr 1; exact decide_eq_false (by omega), fun st' h' => by rw [hn] at h'; cases h'⟩
    · first | refine WQ_ret1 rfl rfl ?_ | refine WQ_ret2 rfl rfl rfl ?_ | refine WQ_ret3 rfl rfl rfl rfl ?_ | refine WQ_ret0 rfl ?_ | refine WQ_end0 rfl ?_
      have hn : stepM st i code[i] = none := by rw [hM, if_neg (fun h => by omega)]
      exact .mk ⟨hS.mono (by simp), by rw [hn]; rfl, fun st' h => by rw [hn] at h; cases h⟩
  rw [if_neg h24] at hM
  by_cases h13 : code[i].op = 13
  · rw [if_pos h13] at hM
    by_cases hgt : code[i].n > (i : Int)
    · rw [if_pos hgt] at hM
      repeat' (first | refine W1 ?_ | (exfalso; omega) | refine WL_split rfl rfl (fun hg => ?_) (fun hg => ?_) | refine WL_splitB rfl rfl (fun hg => ?_) (fun hg => ?_) | refine WC_cond rfl (fun hc => ?_) (fun hc => ?_) | refine WC_condB rfl (fun hc => ?_) (fun hc => ?_))
      refine WL_eff (OE_call rfl (evs3 rfl rfl rfl) (reach_any bv base cv hv sv _ code st code[i].n nx _ h (by omega) sr)) rfl ?_
      rintro _ w8 ⟨hS8, rfl, hV⟩
      refine W ?_
      first | refine WQ_ret1 rfl rfl ?_ | refine WQ_ret2 rfl rfl rfl ?_ | refine WQ_ret3 rfl rfl rfl rfl ?_ | refine WQ_ret0 rfl ?_ | refine WQ_end0 rfl ?_
      rw [← hM] at hV
      exact .mk ⟨(hS.mono (by simp)).trans hS8, by rw [hM], hV⟩
    · rw [if_neg hgt] at hM
      repeat' (first | refine W1 ?_ | (exfalso; omega) | refine WL_split rfl rfl (fun hg => ?_) (fun hg => ?_) | refine WL_splitB rfl rfl (fun hg => ?_) (fun hg => ?_) | refine WC_cond rfl (fun hc => ?_) (fun hc => ?_) | refine WC_condB rfl (fun hc => ?_) (fun hc => ?_))
      first | refine WQ_ret1 rfl rfl ?_ | refine WQ_ret2 rfl rfl rfl ?_ | refine WQ_ret3 rfl rfl rfl rfl ?_ | refine WQ_ret0 rfl ?_ | refine WQ_end0 rfl ?_
      exact .mk ⟨hS.mono (by simp), by rw [hM]; rfl, fun st' h => by rw [hM] at h; cases h⟩
  rw [if_neg h13] at hM
  by_cases h14 : code[i].op = 14
  · rw [if_pos h14] at hM
    by_cases hgt : code[i].n > (i : Int)
    · rw [if_pos hgt] at hM
      repeat' (first | refine W1 ?_ | (exfalso; omega) | refine WL_split rfl rfl (fun hg => ?_) (fun hg => ?_) | refine WL_splitB rfl rfl (fun hg => ?_) (fun hg => ?_) | refine WC_cond rfl (fun hc => ?_) (fun hc => ?_) | refine WC_condB rfl (fun hc => ?_) (fun hc => ?_))
      refine WL_eff (OE_call rfl (evs3 rfl rfl rfl) (reach_any bv base cv hv sv _ code st code[i].n nx _ h (by omega) sr)) rfl ?_
      rintro _ w8 ⟨hS8, rfl, hV⟩
      have sr8 := sr.ext (X' := bv :: (ob hv ++ ob sv)) hS8 (fun _ h => h) (fun _ h => .inl h)
      cases hr : reachM st code[i].n nx with
      | none =>
        rw [hr] at hM
        refine W ?_
        first | refine WQ_ret1 rfl rfl ?_ | refine WQ_ret2 rfl rfl rfl ?_ | refine WQ_ret3 rfl rfl rfl rfl ?_ | refine WQ_ret0 rfl ?_ | refine WQ_end0 rfl ?_
        exact .mk ⟨(hS.mono (by simp)).trans hS8, by rw [hM]; rfl, fun st' h => by rw [hM] at h; cases h⟩
      | some st1 =>
        rw [hr] at hM
        have h8 := hV st1 hr
        refine W ?_
        refine WL_eff (OE_call rfl (evs3 rfl rfl rfl) (reach_any bv base cv hv sv _ code st1 ((i : Int) + 1) nx _ h8 (by omega) sr8)) rfl ?_
        rintro _ w9 ⟨hS9, rfl, hV9⟩
        refine W ?_
        first | refine WQ_ret1 rfl rfl ?_ | refine WQ_ret2 rfl rfl rfl ?_ | refine WQ_ret3 rfl rfl rfl rfl ?_ | refine WQ_ret0 rfl ?_ | refine WQ_end0 rfl ?_
        exact .mk ⟨((hS.mono (by simp)).trans hS8).trans hS9, by rw [hM]; rfl, fun st' h => hV9 st' (by rw [hM] at h; exact h)⟩
    · rw [if_neg hgt] at hM
      repeat' (first | refine W1 ?_ | (exfalso; omega) | refine WL_split rfl rfl (fun hg => ?_) (fun hg => ?_) | refine WL_splitB rfl rfl (fun hg => ?_) (fun hg => ?_) | refine WC_cond rfl (fun hc => ?_) (fun hc => ?_) | refine WC_condB rfl (fun hc => ?_) (fun hc => ?_))
      first | refine WQ_ret1 rfl rfl ?_ | refine WQ_ret2 rfl rfl rfl ?_ | refine WQ_ret3 rfl rfl rfl rfl ?_ | refine WQ_ret0 rfl ?_ | refine WQ_end0 rfl ?_
      exact .mk ⟨hS.mono (by simp), by rw [hM]; rfl, fun st' h => by rw [hM] at h; cases h⟩
  rw [if_neg h14] at hM
  repeat' (first | refine W1 ?_ | (exfalso; omega) | refine WL_split rfl rfl (fun hg => ?_) (fun hg => ?_) | refine WL_splitB rfl rfl (fun hg => ?_) (fun hg => ?_) | refine WC_cond rfl (fun hc => ?_) (fun hc => ?_) | refine WC_condB rfl (fun hc => ?_) (fun hc => ?_))
  refine WL_eff (OE_call rfl (evs3 rfl rfl rfl) (reach_any bv base cv hv sv _ code st ((i : Int) + 1) nx _ h (by omega) sr)) rfl ?_
  rintro _ w8 ⟨hS8, rfl, hV⟩
  refine W ?_
  first | refine WQ_ret1 rfl rfl ?_ | refine WQ_ret2 rfl rfl rfl ?_ | refine WQ_ret3 rfl rfl rfl rfl ?_ | refine WQ_ret0 rfl ?_ | refine WQ_end0 rfl ?_
  rw [← hM] at hV
  exact .mk ⟨(hS.mono (by simp)).trans hS8, by rw [hM], hV⟩
end Go.Proofs.YtgpibcgebpgmiaaDoor


namespace Go.Proofs.YtgpibcgebpgmiaaDoor
open Go Go.Eng Go.RowKit
set_option linter.unusedVariables false

theorem buildVf (p q r : Option Addr) (l m k c d f : Nat) (w : World) : (Instr.build 112 #[(0, .slice p l c), (1, .slice q m d), (2, .slice r k f)]).run Tryd.prog w = .ok (.agg #[.slice p l c, .slice q m d, .slice r k f]) w := by kernel_rfl
theorem step16 {st st' : List (Option Shp)} {i : Nat} {x : Ins} (h0 : ∀ s, some s ∈ st → s.length ≤ 16) (h : stepM st i x = some st') : ∀ s, some s ∈ st' → s.length ≤ 16 := by
  have hr : ∀ {st st' : List (Option Shp)} {t : Int} {nx : Shp}, (∀ s, some s ∈ st → s.length ≤ 16) → nx.length ≤ 16 → reachM st t nx = some st' → ∀ s, some s ∈ st' → s.length ≤ 16 := by
    intro st st' t nx hst hn h
    unfold reachM at h
    split at h
    · split at h
      · split at h
        · cases h; exact hst
        · cases h
      · cases h
        intro s hs
        rcases List.mem_or_eq_of_mem_set hs with h | h
        · exact hst s h
        · cases h; exact hn
    · cases h
  have hn : ∀ {s nx : Shp}, nextM x s = some nx → nx.length ≤ 16 := by
    intro s nx h
    unfold nextM at h
    dsimp only at h
    split at h
    · rename_i hc
      cases h; exact hc.2.2.2
    · cases h
  unfold stepM at h
  split at h
  · cases h
  · split at h
    · cases h
    · rename_i nx hn'
      have hnx := hn hn'
      split at h
      · split at h
        · cases h; exact h0
        · cases h
      split at h
      · split at h
        · exact hr h0 hnx h
        · cases h
      split at h
      · split at h
        · obtain ⟨s1, h1, h2⟩ := Option.bind_eq_some_iff.1 h
          exact hr (hr h0 hnx h1) hnx h2
        · cases h
      exact hr h0 hnx h
theorem runM_none {code : List Ins} {st0 : List (Option Shp)} {k : Nat} (h : runM code k st0 = none) : ∀ m, k ≤ m → runM code m st0 = none
  | 0, hm => by
    obtain rfl : k = 0 := by omega
    exact h
  | m + 1, hm => by
    by_cases hk : k = m + 1
    · subst hk; exact h
    · rw [runM, runM_none h m (by omega)]; rfl
theorem runM_len {code : List Ins} {st0 : List (Option Shp)} : ∀ {k : Nat} {st : List (Option Shp)}, runM code k st0 = some st → st.length = st0.length
  | 0, st, h => by cases h; rfl
  | k + 1, st, h => by
    obtain ⟨s1, h1, h2⟩ := Option.bind_eq_some_iff.1 h
    have e1 := runM_len h1
    have e2 : st.length = s1.length := by
      unfold stepM at h2
      split at h2
      · cases h2
      · split at h2
        · cases h2
        · split at h2
          · split at h2
            · cases h2; rfl
            · cases h2
          split at h2
          · split at h2
            · exact reachM_len h2
            · cases h2
          split at h2
          · split at h2
            · obtain ⟨s2, h3, h4⟩ := Option.bind_eq_some_iff.1 h2
              rw [reachM_len h4, reachM_len h3]
            · cases h2
          exact reachM_len h2
    omega
theorem step_last {st st' : List (Option Shp)} {i : Nat} {x : Ins} (hi : i + 1 = st.length) (h : stepM st i x = some st') : st' = st ∧ ∃ k, st.getD i none = some [k] := by
  unfold stepM at h
  cases hs : st.getD i none with
  | none => rw [hs] at h; cases h
  | some s =>
    rw [hs] at h
    dsimp only at h
    split at h
    · cases h
    · rename_i nx hn
      split at h
      · split at h
        · rename_i hc
          cases h
          obtain ⟨k, hk⟩ := List.length_eq_one_iff.1 hc.2
          exact ⟨rfl, k, by rw [hk]⟩
        · cases h
      split at h
      · split at h
        · rw [reach_none (by omega)] at h; cases h
        · cases h
      split at h
      · split at h
        · rw [reach_none (by omega)] at h; cases h
        · cases h
      rw [reach_none (by omega)] at h; cases h
theorem Verify_any (v : Value) (code : List Ins) (w : World) (hs : SlV [] w v code) :
    Calls Tryd.prog 27 #[v] w (Ret fun r w' => r = .tuple #[.int .i64 (verM code).1, .int .i64 (verM code).2] ∧ Stp [] w w') := by
  have hmax := hs.max
  obtain ⟨p, c, rfl, -⟩ := id hs
  refine calls_of_WC1 (n := 49) Tryd.func27 rfl rfl rfl ?_
  refine W ?_
  by_cases h0 : code.length = 0 ∨ code.length > 200
  · have hM : verM code = (0, 22) := if_pos h0
    repeat' (first | refine W1 ?_ | (exfalso; omega) | refine WL_split rfl rfl (fun hg => ?_) (fun hg => ?_) | refine WL_splitB rfl rfl (fun hg => ?_) (fun hg => ?_) | refine WC_cond rfl (fun hc => ?_) (fun hc => ?_) | refine WC_condB rfl (fun hc => ?_) (fun hc => ?_))
    all_goals
      first | refine WQ_ret1 rfl rfl ?_ | refine WQ_ret2 rfl rfl rfl ?_ | refine WQ_ret3 rfl rfl rfl rfl ?_ | refine WQ_ret0 rfl ?_ | refine WQ_end0 rfl ?_
      exact .mk ⟨by rw [hM], Stp.refl _ _⟩
  repeat' (first | refine W1 ?_ | (exfalso; omega) | refine WL_split rfl rfl (fun hg => ?_) (fun hg => ?_) | refine WL_splitB rfl rfl (fun hg => ?_) (fun hg => ?_) | refine WC_cond rfl (fun hc => ?_) (fun hc => ?_) | refine WC_condB rfl (fun hc => ?_) (fun hc => ?_))
  have hn0 : 0 < code.length := by omega
  have hn200 : code.length ≤ 200 := by omega
  refine WC_cutQ (σ := Nat × Value × Value) (fun q => [(0, .slice p code.length c), (4, .pointer (some ⟨q.1, 0, none⟩))]) (fun q w' => Vf w' q.1 w.heap.size (.slice p code.length c) q.2.1 q.2.2 code (List.replicate code.length none) ∧ w.heap.size ≤ q.1 ∧ Stp [] w w') ?_ ?_
  · refine WC_drawn 10 [] [] [(0, 0), (1, 0), (2, 0), (4, 0), (5, 0), (3, 9), (6, 2), (7, 0), (8, 2), (9, 0)] rfl mixed (by kernel_rfl) (by kernel_rfl) (by kernel_rfl) (fun w1 hS1 => ?_)
    have hz1 := hS1.size
    refine D ?_
    apply WD_two
    · rfl
    · refine WD1_eff rfl trivial (OE_makeSlice1 (α := Sl Int) (k := code.length) (a0 := ⟨[]⟩) rfl rfl (fun X w => ⟨_, rfl, nilSlv _ _⟩) rfl rfl (by simp [maxLen]; omega) (by omega)) (fun _ _ h => h.2) rfl ?_
      rintro hv w2 ⟨rh, hS2⟩
      refine D ?_
      refine WD_eff rfl trivial (OE_makeSlice1 (α := Bool) (k := code.length) (a0 := false) rfl rfl (fun X w => rfl) rfl rfl (by simp [maxLen]; omega) (by omega)) (fun _ _ h => h.2) rfl ?_
      rintro sv w3 ⟨rs, hS3⟩
      refine D ?_
      obtain ⟨ph, ch, hph⟩ : ∃ p c, hv = .slice p code.length c := by
        have := ((rh []).slv0).len
        simpa using this
      obtain ⟨ps, cs, hps⟩ : ∃ p c, sv = .slice p code.length c := by
        have := ((rs []).slv0).len
        simpa using this
      have hap : ∀ b ∈ ob hv, b ∉ ob sv := fun b h1 h2 => by
        have := (rh []).ob_le b h1
        have := (rs []).ob_le b h2
        omega
      subst hph hps
      refine WF_build rfl trivial (vs := [(0, .slice p code.length c), (1, .slice ph code.length ch), (2, .slice ps code.length cs)]) rfl (buildVf _ _ _ _ _ _ _ _ _) rfl ?_
      refine WD_eff rfl trivial (OE_box rfl) (fun _ _ h => h.choose_spec.2.2.2) rfl ?_
      rintro _ w4 ⟨bv, rfl, hbn, hblk, hS4⟩
      have hS := (hS1.trans hS2).trans (hS3.trans hS4)
      have hz2 := hS2.size
      have hz3 := hS3.size
      refine D ?_
      refine WQ_cut (bv, .slice ph code.length ch, .slice ps code.length cs) ⟨rfl, rfl, trivial⟩ ⟨?_, by omega, hS⟩
      have b1 : ∀ b ∈ ob (.slice ph code.length ch), w.heap.size ≤ b ∧ b < w3.heap.size := fun b h => by have := (rh []).ob_le b h; omega
      have b2 : ∀ b ∈ ob (.slice ps code.length cs), w.heap.size ≤ b ∧ b < w3.heap.size := fun b h => by have := (rs []).ob_le b h; omega
      have e1 : shpS (List.replicate code.length none) = List.replicate code.length ⟨[]⟩ := by simp [shpS]
      have e2 : seenS (List.replicate code.length none) = List.replicate code.length false := by simp [seenS]
      refine ⟨hblk, hs.ext hS (by simp) (fun b hb => .inr ?_), by rw [e1]; exact ((rh _).lower hS1.size).up (hS3.trans hS4), by rw [e2]; exact ((rs _).lower (Nat.le_trans hS1.size hS2.size)).up hS4, fun h => by have := b1 bv h; omega, fun h => by have := b2 bv h; omega, hS.size, hap, by simp⟩
      simp only [List.mem_cons, List.mem_append] at hb
      rcases hb with rfl | h | h
      · omega
      · exact (b1 b h).1
      · exact (b2 b h).1
    · refine WD1_eff rfl trivial (OE_makeSlice1 (α := Bool) (k := code.length) (a0 := false) rfl rfl (fun X w => rfl) rfl rfl (by simp [maxLen]; omega) (by omega)) (fun _ _ h => h.2) rfl ?_
      rintro sv w2 ⟨rs, hS2⟩
      refine WD_eff rfl trivial (OE_makeSlice1 (α := Sl Int) (k := code.length) (a0 := ⟨[]⟩) rfl rfl (fun X w => ⟨_, rfl, nilSlv _ _⟩) rfl rfl (by simp [maxLen]; omega) (by omega)) (fun _ _ h => h.2) rfl ?_
      rintro hv w3 ⟨rh, hS3⟩
      refine D ?_
      obtain ⟨ph, ch, hph⟩ : ∃ p c, hv = .slice p code.length c := by
        have := ((rh []).slv0).len
        simpa using this
      obtain ⟨ps, cs, hps⟩ : ∃ p c, sv = .slice p code.length c := by
        have := ((rs []).slv0).len
        simpa using this
      have hap : ∀ b ∈ ob hv, b ∉ ob sv := fun b h1 h2 => by
        have := (rh []).ob_le b h1
        have := (rs []).ob_le b h2
        omega
      subst hph hps
      refine WF_build rfl trivial (vs := [(0, .slice p code.length c), (1, .slice ph code.length ch), (2, .slice ps code.length cs)]) rfl (buildVf _ _ _ _ _ _ _ _ _) rfl ?_
      refine WD_eff rfl trivial (OE_box rfl) (fun _ _ h => h.choose_spec.2.2.2) rfl ?_
      rintro _ w4 ⟨bv, rfl, hbn, hblk, hS4⟩
      have hS := (hS1.trans hS2).trans (hS3.trans hS4)
      have hz2 := hS2.size
      have hz3 := hS3.size
      refine D ?_
      refine WQ_cut (bv, .slice ph code.length ch, .slice ps code.length cs) ⟨rfl, rfl, trivial⟩ ⟨?_, by omega, hS⟩
      have b1 : ∀ b ∈ ob (.slice ph code.length ch), w.heap.size ≤ b ∧ b < w3.heap.size := fun b h => by have := (rh []).ob_le b h; omega
      have b2 : ∀ b ∈ ob (.slice ps code.length cs), w.heap.size ≤ b ∧ b < w3.heap.size := fun b h => by have := (rs []).ob_le b h; omega
      have e1 : shpS (List.replicate code.length none) = List.replicate code.length ⟨[]⟩ := by simp [shpS]
      have e2 : seenS (List.replicate code.length none) = List.replicate code.length false := by simp [seenS]
      refine ⟨hblk, hs.ext hS (by simp) (fun b hb => .inr ?_), by rw [e1]; exact ((rh _).lower (Nat.le_trans hS1.size hS2.size)).up hS4, by rw [e2]; exact ((rs _).lower hS1.size).up (hS3.trans hS4), fun h => by have := b1 bv h; omega, fun h => by have := b2 bv h; omega, hS.size, hap, by simp⟩
      simp only [List.mem_cons, List.mem_append] at hb
      rcases hb with rfl | h | h
      · omega
      · exact (b1 b h).1
      · exact (b2 b h).1
  rintro ⟨bv, hv, sv⟩ w2 ⟨h, hbn, hS⟩
  dsimp only at h hbn ⊢
  have hblk := h.blk
  have hsn := h.seen.slv0
  have hl0 : (seenS (List.replicate code.length none)).length = code.length := by simp [seenS]
  have hk0 : 0 < (seenS (List.replicate code.length none)).length := by omega
  refine W ?_
  refine WL_eff0 (OE_storeElX (α := Bool) (y' := true) (u := .bool true) rfl rfl rfl rfl h.seen hk0) ?_
  rintro _ w3 ⟨rs3, hS3⟩
  have hS13 : Stp (bv :: (ob hv ++ ob sv)) w2 w3 := hS3.mono (fun b hb => by simp [hb])
  generalize hst0 : (some [] :: List.replicate (code.length - 1) none : List (Option Shp)) = st0 at *
  have hlen0 : st0.length = code.length := by rw [← hst0]; simp; omega
  obtain ⟨m, hm⟩ : ∃ m, code.length = m + 1 := ⟨code.length - 1, by omega⟩
  have e1 : shpS st0 = shpS (List.replicate code.length none) := by rw [← hst0, hm]; simp [shpS, List.replicate_succ]
  have e2 : seenS st0 = (seenS (List.replicate code.length none)).set 0 true := by rw [← hst0, hm]; simp [seenS, List.replicate_succ]
  have h3 : Vf w3 bv w.heap.size (.slice p code.length c) hv sv code st0 := by
    refine ⟨h.blk.ext hS3 h.ns, h.cod.ext hS13 (fun _ h => h) (fun _ h => .inl h), ?_, ?_, h.nh, h.ns, Nat.le_trans h.hi hS3.size, h.apart, hlen0⟩
    · rw [e1]
      exact h.shp.ext (X' := bv :: ob sv) hS3 (fun b hb => ⟨List.mem_cons_of_mem _ hb, fun hb' => h.apart b hb' hb⟩) (fun _ h => .inl h)
    · rw [e2]; exact rs3
  have hB : ∀ b ∈ bv :: (ob hv ++ ob sv), w.heap.size ≤ b := fun b hb => by
    simp only [List.mem_cons, List.mem_append] at hb
    rcases hb with rfl | hb | hb
    · exact hbn
    · exact (h.shp.ob_le b hb).1
    · exact (h.seen.ob_le b hb).1
  have hS' := hS.own hS13 (fun b hb => .inr (hB b hb))
  have h160 : ∀ s, some s ∈ st0 → s.length ≤ 16 := by
    intro s hs
    rw [← hst0] at hs
    simp at hs
    rw [hs]; simp
  have hverM : verM code = match runM code code.length st0 with
    | none => (0, 22)
    | some st => (((st.getD (code.length - 1) none).getD []).headD 0, 0) := by
    rw [← hst0]; exact if_neg h0
  clear hsn hblk h e1 e2 hS3 hS13 rs3 hS
  refine W ?_
  refine WC_loop (σ := Nat × List (Option Shp)) (fun q => [(0, .slice p code.length c), (4, .pointer (some ⟨bv, 0, none⟩)), (29, .int .i64 (code.length : Int)), (30, .int .i64 (q.1 : Int))])
    (fun q w' => q.1 ≤ code.length ∧ runM code q.1 st0 = some q.2 ∧ Vf w' bv w.heap.size (.slice p code.length c) hv sv code q.2 ∧ (∀ s, some s ∈ q.2 → s.length ≤ 16) ∧ Stp [] w w') (fun q => code.length - q.1) (0, st0) ⟨rfl, rfl, rfl, rfl, trivial⟩ ⟨Nat.zero_le _, rfl, h3, h160, hS'⟩ ?_
  rintro ⟨k, st⟩ w4 ⟨hk, hrun, h4, h16, hS4⟩
  try dsimp only at hk hrun h4 h16 ⊢
  by_cases hlt : k < code.length
  · repeat' (first | refine W1 ?_ | (exfalso; omega) | refine WL_split rfl rfl (fun hg => ?_) (fun hg => ?_) | refine WL_splitB rfl rfl (fun hg => ?_) (fun hg => ?_) | refine WC_cond rfl (fun hc => ?_) (fun hc => ?_) | refine WC_condB rfl (fun hc => ?_) (fun hc => ?_))
    refine WL_eff (OE_call rfl (evs2 rfl rfl) (step_any bv w.heap.size _ hv sv code st k _ h4 hlt (by omega) h16)) rfl ?_
    rintro _ w5 ⟨hS5, rfl, hV⟩
    replace hS5 := hS4.own hS5 (fun b hb => .inr (hB b hb))
    have hcg : code.getD k ⟨0, 0⟩ = code[k] := by simp [List.getD, hlt]
    have hnext : runM code (k + 1) st0 = stepM st k code[k] := by rw [runM, hrun, Option.bind_some, hcg]
    cases hst : stepM st k code[k] with
    | none =>
      have hn : verM code = (0, 22) := by rw [hverM, runM_none (hnext.trans hst) code.length hlt]
      refine W ?_
      first | refine WQ_ret1 rfl rfl ?_ | refine WQ_ret2 rfl rfl rfl ?_ | refine WQ_ret3 rfl rfl rfl rfl ?_ | refine WQ_ret0 rfl ?_ | refine WQ_end0 rfl ?_
      exact .mk ⟨by rw [hn], hS5⟩
    | some st1 =>
      refine W ?_
      exact WQ_loop (k + 1, st1) ⟨rfl, rfl, rfl, rfl, trivial⟩ ⟨hlt, hnext.trans hst, hV st1 hst, step16 h16 hst, hS5⟩ (Nat.sub_lt_sub_left hlt (Nat.lt_succ_self k))
  · obtain rfl : k = code.length := by omega
    have hlst := runM_len hrun
    have hlast : ∃ a, st.getD (code.length - 1) none = some [a] := by
      rw [hm, runM] at hrun
      obtain ⟨s1, r1, r2⟩ := Option.bind_eq_some_iff.1 hrun
      have hl1 := runM_len r1
      obtain ⟨rfl, a, ha⟩ := step_last (by omega) r2
      exact ⟨a, by rw [hm]; exact ha⟩
    obtain ⟨a, ha⟩ := hlast
    have hve : verM code = (a, 0) := by rw [hverM, hrun]; dsimp only; rw [ha]; rfl
    have hblk := h4.blk
    have hshp := h4.shps
    have hshl : (shpS st).length = code.length := by simp [shpS]; omega
    have hkm : m < (shpS st).length := by omega
    have hkk : (code.length : Int) - 1 = (m : Int) := by omega
    obtain ⟨u, hcell, hsu⟩ := hshp.sub hkm
    have hul : (shpS st)[m].l = [a] := by
      have : st.getD m none = some [a] := by rw [← ha, hm]; rfl
      have h2 : st.getD m none = st[m]'(by omega) := by simp [List.getD, show m < st.length by omega]
      have h5 : (shpS st)[m] = ⟨(st[m]'(by omega)).getD []⟩ := by simp [shpS]
      rw [h5, ← h2, this]; rfl
    rw [hul] at hsu
    repeat' (first | refine W1 ?_ | (exfalso; omega) | refine WL_split rfl rfl (fun hg => ?_) (fun hg => ?_) | refine WL_splitB rfl rfl (fun hg => ?_) (fun hg => ?_) | refine WC_cond rfl (fun hc => ?_) (fun hc => ?_) | refine WC_condB rfl (fun hc => ?_) (fun hc => ?_))
    apply WL_pure (PR_load1 rfl rfl hcell) rfl
    have h01 : 0 < [a].length := by simp
    refine W ?_
    first | refine WQ_ret1 rfl rfl ?_ | refine WQ_ret2 rfl rfl rfl ?_ | refine WQ_ret3 rfl rfl rfl rfl ?_ | refine WQ_ret0 rfl ?_ | refine WQ_end0 rfl ?_
    exact .mk ⟨by rw [hve]; rfl, hS4⟩
end Go.Proofs.YtgpibcgebpgmiaaDoor


namespace Go.Proofs.YtgpibcgebpgmiaaDoor
open Go Go.Eng Go.RowKit
set_option linter.unusedVariables false

end Go.Proofs.YtgpibcgebpgmiaaDoor


namespace Go.Proofs.YtgpibcgebpgmiaaDoor
open Go Go.Eng Go.RowKit
set_option linter.unusedVariables false

end Go.Proofs.YtgpibcgebpgmiaaDoor


namespace Go.Proofs.YtgpibcgebpgmiaaDoor
open Go Go.Eng Go.RowKit
def xA : Nd := .mk 7 0 [100, 97, 121, 115] [.mk 4 0 [100, 97, 121] [], .mk 1 3 [] []]
def xB : Nd := .mk 6 0 [97, 110, 100] [.mk 6 0 [62] [.mk 4 0 [101, 120, 116, 114, 97] [], .mk 1 2 [] []], .mk 2 1 [] []]
def xC : Nd := .mk 6 0 [45] [.mk 4 0 [97, 109, 111, 117, 110, 116] [], .mk 1 1 [] []]
theorem nA : nestN xA = 2 ∧ typeT xA = 3 ∧ sizeN xA = 3 ∧ exprF xA = [⟨4, 0⟩, ⟨1, 3⟩, ⟨15, 0⟩, ⟨24, 0⟩] := by
  refine ⟨?_, ?_, ?_, ?_⟩
  · simp only [xA, nestN_eq, Nd.kids, List.map_cons, List.map_nil]; rfl
  · simp only [xA, typeT_eq, Nd.kids, Nd.kind, Nd.num, Nd.word, List.map_cons, List.map_nil]; rfl
  · simp only [xA, sizeN_eq, Nd.kids, List.map_cons, List.map_nil]; rfl
  · simp only [xA, exprF, codeN_eq, Nd.kids, Nd.kind, Nd.num, Nd.word, List.map_cons, List.map_nil]; rfl
theorem nB : nestN xB = 3 ∧ typeT xB = 2 ∧ sizeN xB = 5 ∧ exprF xB = [⟨4, 2⟩, ⟨1, 2⟩, ⟨10, 0⟩, ⟨12, 0⟩, ⟨14, 7⟩, ⟨2, 1⟩, ⟨13, 8⟩, ⟨2, 0⟩, ⟨24, 0⟩] := by
  refine ⟨?_, ?_, ?_, ?_⟩
  · simp only [xB, nestN_eq, Nd.kids, List.map_cons, List.map_nil]; rfl
  · simp only [xB, typeT_eq, Nd.kids, Nd.kind, Nd.num, Nd.word, List.map_cons, List.map_nil]; rfl
  · simp only [xB, sizeN_eq, Nd.kids, List.map_cons, List.map_nil]; rfl
  · simp only [xB, exprF, codeN_eq, Nd.kids, Nd.kind, Nd.num, Nd.word, List.map_cons, List.map_nil]; rfl
theorem nC : nestN xC = 2 ∧ typeT xC = 1 ∧ sizeN xC = 3 ∧ exprF xC = [⟨4, 6⟩, ⟨1, 1⟩, ⟨6, 0⟩, ⟨24, 0⟩] := by
  refine ⟨?_, ?_, ?_, ?_⟩
  · simp only [xC, nestN_eq, Nd.kids, List.map_cons, List.map_nil]; rfl
  · simp only [xC, typeT_eq, Nd.kids, Nd.kind, Nd.num, Nd.word, List.map_cons, List.map_nil]; rfl
  · simp only [xC, sizeN_eq, Nd.kids, List.map_cons, List.map_nil]; rfl
  · simp only [xC, exprF, codeN_eq, Nd.kids, Nd.kind, Nd.num, Nd.word, List.map_cons, List.map_nil]; rfl
theorem buildIns1 (a0 : Ins) (w : World) : (Instr.buildSlice 40 1 #[(0, agg a0)]).run Tryd.prog w = .ok (.slice (some ⟨w.heap.size, 0, none⟩) 1 1) (w.alloc (.cells #[.int .i64 a0.op, .int .i64 a0.n] 59)) := by kernel_rfl
theorem buildIns3 (a0 a1 a2 : Ins) (w : World) : (Instr.buildSlice 40 3 #[(0, agg a0), (1, agg a1), (2, agg a2)]).run Tryd.prog w = .ok (.slice (some ⟨w.heap.size, 0, none⟩) 3 3) (w.alloc (.cells #[.int .i64 a0.op, .int .i64 a0.n, .int .i64 a1.op, .int .i64 a1.n, .int .i64 a2.op, .int .i64 a2.n] 59)) := by kernel_rfl
theorem buildIns4 (a0 a1 a2 a3 : Ins) (w : World) : (Instr.buildSlice 40 4 #[(0, agg a0), (1, agg a1), (2, agg a2), (3, agg a3)]).run Tryd.prog w = .ok (.slice (some ⟨w.heap.size, 0, none⟩) 4 4) (w.alloc (.cells #[.int .i64 a0.op, .int .i64 a0.n, .int .i64 a1.op, .int .i64 a1.n, .int .i64 a2.op, .int .i64 a2.n, .int .i64 a3.op, .int .i64 a3.n] 59)) := by kernel_rfl
theorem buildIns9 (a0 a1 a2 a3 a4 a5 a6 a7 a8 : Ins) (w : World) : (Instr.buildSlice 40 9 #[(0, agg a0), (1, agg a1), (2, agg a2), (3, agg a3), (4, agg a4), (5, agg a5), (6, agg a6), (7, agg a7), (8, agg a8)]).run Tryd.prog w = .ok (.slice (some ⟨w.heap.size, 0, none⟩) 9 9) (w.alloc (.cells #[.int .i64 a0.op, .int .i64 a0.n, .int .i64 a1.op, .int .i64 a1.n, .int .i64 a2.op, .int .i64 a2.n, .int .i64 a3.op, .int .i64 a3.n, .int .i64 a4.op, .int .i64 a4.n, .int .i64 a5.op, .int .i64 a5.n, .int .i64 a6.op, .int .i64 a6.n, .int .i64 a7.op, .int .i64 a7.n, .int .i64 a8.op, .int .i64 a8.n] 59)) := by kernel_rfl
theorem bad_any (v : Value) (code : List Ins) (w : World) (hs : SlV [] w v code) (hb : verM code = (0, 22)) : Calls Tryd.prog 63 #[v] w (Ret fun r w' => r = .bool true ∧ Stp [] w w') := by
  refine calls_of_WC1 (n := 16) Tryd.func63 rfl rfl rfl ?_
  refine W ?_
  refine WL_eff (OE_call rfl (evs1 rfl) (Verify_any v code _ hs)) rfl ?_
  rintro _ w2 ⟨rfl, hS⟩
  rw [hb]
  repeat' (first | refine W1 ?_ | (exfalso; omega) | refine WL_split rfl rfl (fun hg => ?_) (fun hg => ?_) | refine WL_splitB rfl rfl (fun hg => ?_) (fun hg => ?_) | refine WC_cond rfl (fun hc => ?_) (fun hc => ?_) | refine WC_condB rfl (fun hc => ?_) (fun hc => ?_))
  first | refine WQ_ret1 rfl rfl ?_ | refine WQ_ret2 rfl rfl rfl ?_ | refine WQ_ret3 rfl rfl rfl rfl ?_ | refine WQ_ret0 rfl ?_ | refine WQ_end0 rfl ?_
  exact .mk ⟨rfl, hS⟩
theorem lives15_any (w : World) (hF : SlV [] w flds fieldNames) : Calls Tryd.prog 21 #[] w (Ret fun r w' => r = .bool true ∧ Stp [] w w') := by
  obtain ⟨na1, na2, na3, na4⟩ := nA
  obtain ⟨nb1, nb2, nb3, nb4⟩ := nB
  obtain ⟨nc1, nc2, nc3, nc4⟩ := nC
  have ea : errX xA = 0 := by rw [errX, if_pos (by omega), if_neg (by omega), if_neg (by rw [na4]; decide)]
  have eb : errX xB = 0 := by rw [errX, if_pos (by omega), if_neg (by omega), if_neg (by rw [nb4]; decide)]
  have ec : errX xC = 0 := by rw [errX, if_pos (by omega), if_neg (by omega), if_neg (by rw [nc4]; decide)]
  refine calls_of_WC0 (n := 123) Tryd.func21 rfl rfl ?_
  refine W ?_
  refine WL_eff (OE_call rfl (evs1 rfl) (field15_any [100, 97, 121] _)) rfl ?_
  rintro r1 w1 ⟨h1, hS1⟩
  refine W ?_
  refine WL_eff (OE_call rfl (evs1 rfl) (number15_any 3 _)) rfl ?_
  rintro r2 w2 ⟨h2, hS2⟩
  replace h1 := (h1 []).up hS2
  replace h2 := h2 []
  replace hS1 := hS1.trans hS2
  clear hS2
  obtain ⟨k1, rfl, s1⟩ := h1
  obtain ⟨k2, rfl, s2⟩ := h2
  obtain ⟨p1, c1, rfl, -⟩ := id s1
  obtain ⟨p2, c2, rfl, -⟩ := id s2
  refine WL_eff (OE_buildSlice (vs := [(0, .agg #[.int .i64 4, .int .i64 0, str [100, 97, 121], .slice p1 0 c1]), (1, .agg #[.int .i64 1, .int .i64 3, str [], .slice p2 0 c2])]) rfl (buildSN2 _ _ _ _ _ _ _ _ _ _ _ _)) rfl ?_
  rintro bv w3 hN
  have hbv : SlV [] w3 bv [Nd.mk 4 0 [100, 97, 121] [], Nd.mk 1 3 [] []] := hN.slvG (X := []) (css := [ndC (Nd.mk 4 0 [100, 97, 121] []) _, ndC (Nd.mk 1 3 [] []) _]) (by simp) rfl rfl rfl (reps2 (y0 := .mk 4 0 [100, 97, 121] []) (y1 := .mk 1 3 [] []) s1 s2) (by simp [maxLen])
  have hT := NewSl.stp hN
  clear hN
  replace hS1 := hS1.trans hT
  obtain ⟨p, c, rfl, -⟩ := id hbv
  apply WL_build (vs := [(0, .int .i64 7), (2, str [100, 97, 121, 115]), (3, .slice p 2 c)]) rfl (buildN023 _ _ _ _ _) rfl
  refine WL_eff (OE_call rfl (evs1 rfl) (Expression_any _ xA _ (by omega) ⟨_, rfl, hbv⟩ (hF.up hS1))) rfl ?_
  rintro _ w4 ⟨va, rfl, ha, hS4⟩
  rw [ea]
  replace ha := ha [] (by simp)
  rw [ea, if_pos rfl, na4] at ha
  replace hS1 := hS1.trans hS4
  clear hS4
  refine W ?_
  refine WL_eff (OE_call rfl (evs1 rfl) (field15_any [101, 120, 116, 114, 97] _)) rfl ?_
  rintro q1 w5 ⟨h1, hS5⟩
  refine W ?_
  refine WL_eff (OE_call rfl (evs1 rfl) (number15_any 2 _)) rfl ?_
  rintro q2 w6 ⟨h2, hS6⟩
  refine W ?_
  refine WL_eff (OE_call rfl (evs3 rfl rfl rfl) (binary15_any [] [62] _ _ _ _ _ (by simp) ((h1 []).up hS6) (h2 []))) rfl ?_
  rintro q3 w7 ⟨h3, hS7⟩
  refine W ?_
  apply WL_build (vs := [(0, .int .i64 2), (1, .int .i64 1)]) rfl (buildN01 _ _) rfl
  refine WL_eff (OE_call rfl (evs3 rfl rfl rfl) (binary15_any [] [97, 110, 100] _ _ _ (.mk 2 1 [] []) _ (by simp) h3 ⟨.slice none 0 0, rfl, nilSlv _ _⟩)) rfl ?_
  rintro q4 w8 ⟨h4, hS8⟩
  have hS := (((hS1.trans hS5).trans hS6).trans hS7).trans hS8
  replace ha := (((ha.up hS5).up hS6).up hS7).up hS8
  clear hS1 hS5 hS6 hS7 hS8 h1 h2 h3
  refine W ?_
  refine WL_eff (OE_call rfl (evs1 rfl) (Expression_any _ xB _ (by omega) h4 (hF.up hS))) rfl ?_
  rintro _ w9 ⟨vb, rfl, hb, hS9⟩
  rw [eb]
  replace hb := hb [] (by simp)
  rw [eb, if_pos rfl, nb4] at hb
  replace ha := ha.up hS9
  replace hS := hS.trans hS9
  clear hS9
  refine W ?_
  refine WL_eff (OE_call rfl (evs1 rfl) (field15_any [97, 109, 111, 117, 110, 116] _)) rfl ?_
  rintro q1 w5 ⟨h1, hS5⟩
  refine W ?_
  refine WL_eff (OE_call rfl (evs1 rfl) (number15_any 1 _)) rfl ?_
  rintro q2 w6 ⟨h2, hS6⟩
  refine W ?_
  refine WL_eff (OE_call rfl (evs3 rfl rfl rfl) (binary15_any [] [45] _ _ _ _ _ (by simp) ((h1 []).up hS6) (h2 []))) rfl ?_
  rintro q3 w7 ⟨h3, hS7⟩
  have hSS := (hS5.trans hS6).trans hS7
  replace ha := ha.up hSS
  replace hb := hb.up hSS
  replace hS := hS.trans hSS
  clear hSS hS5 hS6 hS7 h1 h2
  refine W ?_
  refine WL_eff (OE_call rfl (evs1 rfl) (Expression_any _ xC _ (by omega) h3 (hF.up hS))) rfl ?_
  rintro _ w9 ⟨vc, rfl, hc, hS9⟩
  rw [ec]
  replace hc := hc [] (by simp)
  rw [ec, if_pos rfl, nc4] at hc
  replace ha := ha.up hS9
  replace hb := hb.up hS9
  replace hS := hS.trans hS9
  clear hS9
  refine W ?_
  refine WL_eff (OE_call rfl (evs1 rfl) (Verify_any _ _ _ ha)) rfl ?_
  rintro _ w10 ⟨rfl, hS10⟩
  replace ha := ha.up hS10
  replace hb := hb.up hS10
  replace hc := hc.up hS10
  replace hS := hS.trans hS10
  clear hS10
  rw [show verM [⟨4, 0⟩, ⟨1, 3⟩, ⟨15, 0⟩, ⟨24, 0⟩] = (3, 0) by decide]
  repeat' (first | refine W1 ?_ | (exfalso; omega) | refine WL_split rfl rfl (fun hg => ?_) (fun hg => ?_) | refine WL_splitB rfl rfl (fun hg => ?_) (fun hg => ?_) | refine WC_cond rfl (fun hc => ?_) (fun hc => ?_) | refine WC_condB rfl (fun hc => ?_) (fun hc => ?_))
  apply WL_build (vs := [(0, .int .i64 4), (1, .int .i64 2)]) rfl (buildI _ _) rfl
  refine W ?_
  apply WL_build (vs := [(0, .int .i64 1), (1, .int .i64 2)]) rfl (buildI _ _) rfl
  refine W ?_
  apply WL_build (vs := [(0, .int .i64 10)]) rfl (buildI0 _) rfl
  refine W ?_
  apply WL_build (vs := [(0, .int .i64 12)]) rfl (buildI0 _) rfl
  refine W ?_
  apply WL_build (vs := [(0, .int .i64 14), (1, .int .i64 7)]) rfl (buildI _ _) rfl
  refine W ?_
  apply WL_build (vs := [(0, .int .i64 2), (1, .int .i64 1)]) rfl (buildI _ _) rfl
  refine W ?_
  apply WL_build (vs := [(0, .int .i64 13), (1, .int .i64 8)]) rfl (buildI _ _) rfl
  refine W ?_
  apply WL_build (vs := [(0, .int .i64 2)]) rfl (buildI0 _) rfl
  refine W ?_
  apply WL_build (vs := [(0, .int .i64 24)]) rfl (buildI0 _) rfl
  refine W ?_
  refine WL_eff (OE_buildSlice (vs := [(0, agg (Ins.mk 4 2)), (1, agg (Ins.mk 1 2)), (2, agg (Ins.mk 10 0)), (3, agg (Ins.mk 12 0)), (4, agg (Ins.mk 14 7)), (5, agg (Ins.mk 2 1)), (6, agg (Ins.mk 13 8)), (7, agg (Ins.mk 2 0)), (8, agg (Ins.mk 24 0))]) rfl (buildIns9 _ _ _ _ _ _ _ _ _ )) rfl ?_
  rintro want w11 hN
  have s_want : SlV [] w11 want ([(Ins.mk 4 2), (Ins.mk 1 2), (Ins.mk 10 0), (Ins.mk 12 0), (Ins.mk 14 7), (Ins.mk 2 1), (Ins.mk 13 8), (Ins.mk 2 0), (Ins.mk 24 0)] : List Ins) := hN.slv (by simp) rfl rfl (by simp [maxLen])
  have hT := NewSl.stp hN
  clear hN
  replace ha := ha.up hT
  replace hb := hb.up hT
  replace hc := hc.up hT
  replace hS := hS.trans hT
  clear hT
  refine W ?_
  apply WL_build (vs := [(0, .int .i64 4)]) rfl (buildI0 _) rfl
  refine W ?_
  apply WL_build (vs := [(0, .int .i64 1), (1, .int .i64 3)]) rfl (buildI _ _) rfl
  refine W ?_
  apply WL_build (vs := [(0, .int .i64 15)]) rfl (buildI0 _) rfl
  refine W ?_
  apply WL_build (vs := [(0, .int .i64 24)]) rfl (buildI0 _) rfl
  refine W ?_
  refine WL_eff (OE_buildSlice (vs := [(0, agg (Ins.mk 4 0)), (1, agg (Ins.mk 1 3)), (2, agg (Ins.mk 15 0)), (3, agg (Ins.mk 24 0))]) rfl (buildIns4 _ _ _ _ )) rfl ?_
  rintro wa w12 hN
  have s_wa : SlV [] w12 wa ([(Ins.mk 4 0), (Ins.mk 1 3), (Ins.mk 15 0), (Ins.mk 24 0)] : List Ins) := hN.slv (by simp) rfl rfl (by simp [maxLen])
  have hT := NewSl.stp hN
  clear hN
  replace ha := ha.up hT
  replace hb := hb.up hT
  replace hc := hc.up hT
  replace s_want := s_want.up hT
  replace hS := hS.trans hT
  clear hT
  refine W ?_
  refine WL_eff (OE_call rfl (evs2 rfl rfl) (SameCode_any _ _ _ _ _ ha s_wa)) rfl ?_
  rintro _ w13 ⟨rfl, hT⟩
  replace hb := hb.up hT
  replace hc := hc.up hT
  replace s_want := s_want.up hT
  replace hS := hS.trans hT
  clear hT
  repeat' (first | refine W1 ?_ | (exfalso; omega) | refine WL_split rfl rfl (fun hg => ?_) (fun hg => ?_) | refine WL_splitB rfl rfl (fun hg => ?_) (fun hg => ?_) | refine WC_cond rfl (fun hc => ?_) (fun hc => ?_) | refine WC_condB rfl (fun hc => ?_) (fun hc => ?_))
  refine WL_eff (OE_call rfl (evs2 rfl rfl) (SameCode_any _ _ _ _ _ hb s_want)) rfl ?_
  rintro _ w14 ⟨rfl, hT⟩
  replace hc := hc.up hT
  replace hS := hS.trans hT
  clear hT
  repeat' (first | refine W1 ?_ | (exfalso; omega) | refine WL_split rfl rfl (fun hg => ?_) (fun hg => ?_) | refine WL_splitB rfl rfl (fun hg => ?_) (fun hg => ?_) | refine WC_cond rfl (fun hc => ?_) (fun hc => ?_) | refine WC_condB rfl (fun hc => ?_) (fun hc => ?_))
  apply WL_build (vs := [(0, .int .i64 4), (1, .int .i64 6)]) rfl (buildI _ _) rfl
  refine W ?_
  apply WL_build (vs := [(0, .int .i64 1), (1, .int .i64 1)]) rfl (buildI _ _) rfl
  refine W ?_
  apply WL_build (vs := [(0, .int .i64 6)]) rfl (buildI0 _) rfl
  refine W ?_
  apply WL_build (vs := [(0, .int .i64 24)]) rfl (buildI0 _) rfl
  refine W ?_
  refine WL_eff (OE_buildSlice (vs := [(0, agg (Ins.mk 4 6)), (1, agg (Ins.mk 1 1)), (2, agg (Ins.mk 6 0)), (3, agg (Ins.mk 24 0))]) rfl (buildIns4 _ _ _ _ )) rfl ?_
  rintro wc w15 hN
  have s_wc : SlV [] w15 wc ([(Ins.mk 4 6), (Ins.mk 1 1), (Ins.mk 6 0), (Ins.mk 24 0)] : List Ins) := hN.slv (by simp) rfl rfl (by simp [maxLen])
  have hT := NewSl.stp hN
  clear hN
  replace hc := hc.up hT
  replace hS := hS.trans hT
  clear hT
  refine W ?_
  refine WL_eff (OE_call rfl (evs2 rfl rfl) (SameCode_any _ _ _ _ _ hc s_wc)) rfl ?_
  rintro _ w16 ⟨rfl, hT⟩
  replace hS := hS.trans hT
  clear hT
  repeat' (first | refine W1 ?_ | (exfalso; omega) | refine WL_split rfl rfl (fun hg => ?_) (fun hg => ?_) | refine WL_splitB rfl rfl (fun hg => ?_) (fun hg => ?_) | refine WC_cond rfl (fun hc => ?_) (fun hc => ?_) | refine WC_condB rfl (fun hc => ?_) (fun hc => ?_))
  apply WL_build (vs := [(0, .int .i64 1), (1, .int .i64 1)]) rfl (buildI _ _) rfl
  refine WL_eff OE_alloc rfl ?_
  rintro _ w17 ⟨b10, rfl, hb10, e10, hT⟩
  have q10 := hb10
  refine WL_eff0 (OE_storeA (us := Flat.enc (Ins.mk 1 1)) rfl rfl rfl rfl (Flat.one _) e10 rfl) ?_
  rintro _ w18 ⟨hT2, e10'⟩
  replace hS := hS.trans (hT.own hT2 (fun b hb => .inr (by simp at hb; omega)))
  clear hT hT2 e10
  refine W ?_
  apply WL_build (vs := [(0, .int .i64 24)]) rfl (buildI0 _) rfl
  refine WL_eff OE_alloc rfl ?_
  rintro _ w19 ⟨b11, rfl, hb11, e11, hT⟩
  have l10 := e10'.lt
  replace e10' := e10'.up hT
  refine WL_eff0 (OE_storeA (us := Flat.enc (Ins.mk 24 0)) rfl rfl rfl rfl (Flat.one _) e11 rfl) ?_
  rintro _ w20 ⟨hT2, e11'⟩
  replace e10' := e10'.ext hT2 (by simp; omega)
  replace hS := hS.trans (hT.own hT2 (fun b hb => .inr (by simp at hb; omega)))
  clear hT hT2 e11
  refine W ?_
  refine WL_eff (OE_call rfl (evs1 rfl) (bad_any _ [] _ (nilSlv _ _) (by decide))) rfl ?_
  rintro _ w21 ⟨rfl, hT⟩
  replace e10' := e10'.up hT
  replace e11' := e11'.up hT
  replace hS := hS.trans hT
  clear hT
  refine W ?_
  refine WL_eff (OE_buildSlice (vs := [(0, agg (Ins.mk 24 0))]) rfl (buildIns1 _ )) rfl ?_
  rintro x1 w22 hN
  have s_x1 : SlV [] w22 x1 ([(Ins.mk 24 0)] : List Ins) := hN.slv (by simp) rfl rfl (by simp [maxLen])
  have hT := NewSl.stp hN
  clear hN
  replace e10' := e10'.up hT
  replace e11' := e11'.up hT
  replace hS := hS.trans hT
  clear hT
  refine W ?_
  refine WL_eff (OE_call rfl (evs1 rfl) (bad_any _ _ _ s_x1 (by decide))) rfl ?_
  rintro _ w23 ⟨rfl, hT⟩
  replace e10' := e10'.up hT
  replace e11' := e11'.up hT
  replace hS := hS.trans hT
  clear hT
  refine W ?_
  apply WL_build (vs := [(0, .int .i64 1), (1, .int .i64 2)]) rfl (buildI _ _) rfl
  refine W ?_
  refine WL_eff (OE_buildSlice (vs := [(0, agg (Ins.mk 1 1)), (1, agg (Ins.mk 1 2)), (2, agg (Ins.mk 24 0))]) rfl (buildIns3 _ _ _ )) rfl ?_
  rintro x2 w24 hN
  have s_x2 : SlV [] w24 x2 ([(Ins.mk 1 1), (Ins.mk 1 2), (Ins.mk 24 0)] : List Ins) := hN.slv (by simp) rfl rfl (by simp [maxLen])
  have hT := NewSl.stp hN
  clear hN
  replace e10' := e10'.up hT
  replace e11' := e11'.up hT
  replace hS := hS.trans hT
  clear hT
  refine W ?_
  refine WL_eff (OE_call rfl (evs1 rfl) (bad_any _ _ _ s_x2 (by decide))) rfl ?_
  rintro _ w25 ⟨rfl, hT⟩
  replace e10' := e10'.up hT
  replace e11' := e11'.up hT
  replace hS := hS.trans hT
  clear hT
  refine W ?_
  apply WL_build (vs := [(0, .int .i64 2), (1, .int .i64 1)]) rfl (buildI _ _) rfl
  refine W ?_
  apply WL_build (vs := [(0, .int .i64 14), (1, .int .i64 1)]) rfl (buildI _ _) rfl
  refine W ?_
  refine WL_eff (OE_buildSlice (vs := [(0, agg (Ins.mk 2 1)), (1, agg (Ins.mk 14 1)), (2, agg (Ins.mk 24 0))]) rfl (buildIns3 _ _ _ )) rfl ?_
  rintro x3 w26 hN
  have s_x3 : SlV [] w26 x3 ([(Ins.mk 2 1), (Ins.mk 14 1), (Ins.mk 24 0)] : List Ins) := hN.slv (by simp) rfl rfl (by simp [maxLen])
  have hT := NewSl.stp hN
  clear hN
  replace e10' := e10'.up hT
  replace e11' := e11'.up hT
  replace hS := hS.trans hT
  clear hT
  refine W ?_
  refine WL_eff (OE_call rfl (evs1 rfl) (bad_any _ _ _ s_x3 (by decide))) rfl ?_
  rintro _ w27 ⟨rfl, hT⟩
  replace e10' := e10'.up hT
  replace e11' := e11'.up hT
  replace hS := hS.trans hT
  clear hT
  refine W ?_
  apply WL_build (vs := [(0, .int .i64 13), (1, .int .i64 3)]) rfl (buildI _ _) rfl
  refine W ?_
  apply WL_build (vs := [(0, .int .i64 8)]) rfl (buildI0 _) rfl
  refine W ?_
  refine WL_eff (OE_buildSlice (vs := [(0, agg (Ins.mk 1 1)), (1, agg (Ins.mk 13 3)), (2, agg (Ins.mk 8 0)), (3, agg (Ins.mk 24 0))]) rfl (buildIns4 _ _ _ _ )) rfl ?_
  rintro x4 w28 hN
  have s_x4 : SlV [] w28 x4 ([(Ins.mk 1 1), (Ins.mk 13 3), (Ins.mk 8 0), (Ins.mk 24 0)] : List Ins) := hN.slv (by simp) rfl rfl (by simp [maxLen])
  have hT := NewSl.stp hN
  clear hN
  replace e10' := e10'.up hT
  replace e11' := e11'.up hT
  replace hS := hS.trans hT
  clear hT
  refine W ?_
  refine WL_eff (OE_call rfl (evs1 rfl) (bad_any _ _ _ s_x4 (by decide))) rfl ?_
  rintro _ w29 ⟨rfl, hT⟩
  replace e10' := e10'.up hT
  replace e11' := e11'.up hT
  replace hS := hS.trans hT
  clear hT
  refine W ?_
  first | refine WQ_ret1 rfl rfl ?_ | refine WQ_ret2 rfl rfl rfl ?_ | refine WQ_ret3 rfl rfl rfl rfl ?_ | refine WQ_ret0 rfl ?_ | refine WQ_end0 rfl ?_
  exact .mk ⟨rfl, hS⟩
end Go.Proofs.YtgpibcgebpgmiaaDoor


/-
The wrap of a law whose row lists a variable: what the contract is handed: the condition on the variable, and the world's shape.
-/
namespace Go.Eng
open Go Go.RowKit Go.Proofs Go.ChangeShapes Go.WideShapes Go.Deep
set_option linter.unusedVariables false
section
variable {H : Type} {enc : TypeId × Value → H}
theorem ret_and_shaped {a : Assume} {C : Checked} {os : Os} {f : FuncId} {fn : Func} {s : ChangeSpec} {conds : List PathCond} {apart fresh handsOn again : Bool} {X : World → Array Value → Prop}
    (hX : ∀ (w w' : World) (args : Array Value), w.heap = w'.heap → X w args → X w' args)
    (own : ownKnob C.prog.godebug = none) (started : os.Started) (noInit : C.prog.inits.idxOf? f = none) (hfn : C.prog.funcs[f]? = some fn)
    (witness : ∃ (w : World) (tape : Tape) (i : Input), w.os = os ∧ (w.forCall tape i).Shaped C.prog ∧ i.vars = [] ∧ Input.okWide C.prog (w.forCall tape i) .any w.heap.size f i ∧
      ((s.pre enc C.prog fn conds apart (w.forCall tape i).memory i.args ∧ X (w.forCall tape i).memory i.args) ∧ sizedMet enc C.prog fn (OpenSpec.ofChange s) apart (w.forCall tape i).memory i.args) ∧ a.holds C.prog (lone (Frame.enter C.prog f i.args .normal) [] (w.forCall tape i)))
    (contract : ∀ (W : World) (base : Nat) (args : Array Value) (ds gs : List (DataW H)) (before : List MemPlace),
      (∀ (j : Nat) t v, fn.params[j]? = some t → args[j]? = some v → Value.okWide C.prog W .any base t v) →
      DataW.Whole enc C.prog fn.params.toList s.vars apart W args.toList ds gs before →
      (DataW.weightsEach C.prog (fn.params.toList ++ s.plain.varTypes C.prog) (ds ++ gs)).all (· ≤ reachBytes) = true → X W args → W.ShapedOpen C.prog →
      Calls C.prog f args W fun e W' => ∃ v, e = .returned v ∧ s.post enc C.prog fn apart fresh handsOn again W args v W') :
    ReturnsInHanded a C os f .any (fun w args => (s.pre enc C.prog fn conds apart w args ∧ X w args) ∧ sizedMet enc C.prog fn (OpenSpec.ofChange s) apart w args) (s.post enc C.prog fn apart fresh handsOn again) := by
  refine returnsInHanded_of_calls own started noInit witness ?_
  intro w tape i _ hsh _ hok hpre hholds
  obtain ⟨_, _, _, fn', hfn', _, _, _, _, hval⟩ := hok
  have e : fn' = fn := Option.some.inj (hfn'.symm.trans hfn)
  subst e
  obtain ⟨⟨⟨ds, gs, before, hw, hc⟩, hx⟩, hz⟩ := hpre
  have hw' := DataW.Whole.of_heap (w' := w.forCall tape i) (by rfl) hw
  refine (contract (w.forCall tape i) w.heap.size i.args ds gs before hval hw' (hz.weights hw) (hX _ _ _ (by rfl) hx) hsh).mono fun e W' ⟨v, he, hp⟩ => ?_
  subst he
  exact ChangeSpec.post_blind hp
/-- a listed array of strings: its cells -/
theorem laid_strs {P : Program} {W : World} {name : String} {g t e n : Nat} {ss : List Str} (hg : P.globalNamed name = some g) (ht : (P.globals[g]?).map (·.type) = some t) (hu : P.underlying t = some (.array n e)) (he : P.underlying e = some .string) (hc : P.cellsOf e = 1)
    (hn : ss.length = n) (hh : ((([(name, DataW.agg (ss.map (fun s => DataW.lit (.string s))))] : List (String × DataW Unit)).all fun x => x.2.handleName?.isNone)) = true) (h : laidMetH P [(name, .agg (ss.map (fun s => DataW.lit (.string s))))] W) :
    ∀ i (hi : i < ss.length), W.cell? ⟨g, i, none⟩ = some (str ss[i]) := by
  rw [MakeChecks.laidMetH_plain _ _ _ hh] at h
  obtain ⟨ps, ⟨g0, t0, cs0, f0, p0, q0, hg0, ht0, hv0, hd0, _, _⟩, _, _⟩ := h
  obtain rfl := Option.some.inj (hg.symm.trans hg0)
  obtain rfl := Option.some.inj (ht.symm.trans ht0)
  obtain ⟨xs, m1, rfl, hx1, hlen, hn3, hel⟩ := DataW.trod_array hu hd0
  intro i hi
  have h1 := hel i (by omega)
  rw [hc, Nat.mul_one] at h1
  have hxi : xs[i]? = some (xs[i]'(by omega)) := List.getElem?_eq_getElem (by omega)
  rw [hxi] at h1
  obtain ⟨s, e1, e2, _⟩ := DataW.trod_string he h1
  have e3 : DataW.agg (ss.map (fun s => DataW.lit (.string s))) = (DataW.agg (xs.map (·.1)) : DataW Unit) := congrArg Prod.fst hx1
  simp only [DataW.agg.injEq] at e3
  have e4 : (DataW.lit (.string ss[i]) : DataW Unit) = (xs[i]'(by omega)).1 := by
    have h2 := congrArg (fun l => l[i]?) e3
    simp only [List.getElem?_map, hxi, List.getElem?_eq_getElem hi, Option.map_some, Option.some.injEq] at h2
    exact h2
  rw [e2] at e4
  simp only [DataW.lit.injEq, Lit.string.injEq] at e4
  have hv := World.var?_cell hg0 hv0 i
  rw [hv]
  have h5 : cs0.toList[i]? = some (.string s) := by
    have h6 := congrArg (fun l => l[0]?) e1
    simpa [List.getElem?_take, List.getElem?_drop] using h6
  rw [← Array.getElem?_toList, h5]
  congr 1
  simp only [str, e4]
end
end Go.Eng


namespace Go.Proofs.YtgpibcgebpgmiaaDoor
open Go Go.Eng Go.RowKit Go.Proofs Go.ChangeShapes Go.WideShapes Go.Deep
set_option linter.unusedVariables false

theorem law_own : ownKnob Tryd.prog.godebug = none := by kernel_rfl
theorem law_laid : laidOutB Tryd.prog = true := by kernel_rfl
theorem flds_of_laid {W : World} (h : laidMetH Tryd.prog [("rollbook/types.fields", Rows.laid_rollbook_types_fields)] W) : SlV [] W flds fieldNames := by
  have hc := laid_strs (g := 0) (t := 122) (e := 9) (n := 7) (ss := fieldNames) (by kernel_rfl) (by kernel_rfl) Tryd.underlying122 Tryd.underlying9 (by kernel_rfl) rfl (by kernel_rfl) h
  have hlt : 0 < W.heap.size := block_lt_of_cell (a := ⟨0, 0, none⟩) (hc 0 (by decide))
  refine ⟨some ⟨0, 0, none⟩, 7, rfl, by decide, by decide, (fun h => by cases h), fun i hi => ⟨0, 0, [str fieldNames[i]], rfl, hlt, by simp, rfl, fun j u hu => ?_⟩⟩
  have hj : j = 0 := by
    have := (List.getElem?_eq_some_iff.1 hu).1
    simp at this
    exact this
  subst hj
  simp at hu
  subst hu
  have := hc i hi
  simpa [GoRep.k, Flat.k] using this
section
variable {H : Type} {enc : TypeId × Value → H} {w : World} {base : Nat} {spare : Nat → Bool} {held : Bool}
set_option maxRecDepth 100000 in
theorem open_i64 {r : Reach} {b0 : Nat} {v : Value} {d : DataW H} {p : List MemPlace} (hv : Value.okWide Tryd.prog w r b0 3 v) (h : DataW.Trod enc Tryd.prog w base spare held 3 v d p) : ∃ z : Int, v = .int .i64 z ∧ I64 z := by
  obtain ⟨z, rfl, _, _, hw⟩ := open_int Tryd.underlying3 hv h
  exact ⟨z, rfl, by simpa [I64, Lit.wf, IntKind.min, IntKind.max, IntKind.signed, IntKind.bits] using hw⟩
set_option maxRecDepth 100000 in
theorem ints_read {r : Reach} {b0 : Nat} {v : Value} {d : DataW H} {p : List MemPlace} (hv : Value.okWide Tryd.prog w r b0 22 v) (h : DataW.Trod enc Tryd.prog w base spare held 22 v d p) :
    ∃ l : List Int, SlV [] w v l ∧ (∀ x ∈ l, I64 x) ∧ dlen d = l.length := by
  obtain ⟨fuel, h⟩ := h
  obtain ⟨u, l, hu, hs, hok, hln⟩ := slv_ints Tryd.underlying22 (by kernel_rfl) Tryd.underlying3 h
  obtain ⟨a, m, c, rfl⟩ := okWide_slice Tryd.underlying22 hv
  have hu' : Value.slice a m c = u := by simpa [Value.cells] using hu
  subst hu'
  exact ⟨l, hs, hok, hln⟩
end
end Go.Proofs.YtgpibcgebpgmiaaDoor


namespace Go.Eng
open Go Go.RowKit Go.Proofs Go.ChangeShapes Go.WideShapes Go.Deep
set_option linter.unusedVariables false
section
variable {H : Type} {enc : TypeId × Value → H} {P : Program} {w : World} {base : Nat} {spare : Nat → Bool} {held : Bool}
end
end Go.Eng
namespace Go.Proofs.YtgpibcgebpgmiaaDoor
open Go Go.Eng Go.RowKit Go.Proofs Go.ChangeShapes Go.WideShapes Go.Deep
set_option linter.unusedVariables false
section
variable {H : Type} {enc : TypeId × Value → H} {w : World} {base : Nat} {spare : Nat → Bool} {held : Bool}
theorem k3 : Tryd.prog.cellsOf 3 = 1 := by kernel_rfl
theorem k9 : Tryd.prog.cellsOf 9 = 1 := by kernel_rfl
end
end Go.Proofs.YtgpibcgebpgmiaaDoor


namespace Go.Proofs.YtgpibcgebpgmiaaDoor
open Go Go.Eng Go.RowKit
set_option linter.unusedVariables false

/-! ### what a valid code is -/
structure Good (code : List Ins) (st : List (Option Shp)) (i : Nat) (s nx : Shp) : Prop where
  at_ : st.getD i none = some s
  next : nextM (code.getD i ⟨0, 0⟩) s = some nx
  stop : (code.getD i ⟨0, 0⟩).op = 24 → i + 1 = st.length ∧ s.length = 1
  jump : (code.getD i ⟨0, 0⟩).op = 13 ∨ (code.getD i ⟨0, 0⟩).op = 14 → (i : Int) < (code.getD i ⟨0, 0⟩).n ∧ (code.getD i ⟨0, 0⟩).n < st.length ∧ st.getD (code.getD i ⟨0, 0⟩).n.toNat none = some nx
  on : (code.getD i ⟨0, 0⟩).op ≠ 24 → (code.getD i ⟨0, 0⟩).op ≠ 13 → i + 1 < st.length ∧ st.getD (i + 1) none = some nx
end Go.Proofs.YtgpibcgebpgmiaaDoor


namespace Go.Proofs.YtgpibcgebpgmiaaDoor
open Go Go.Eng Go.RowKit
set_option linter.unusedVariables false

theorem Around03_any (z : Int) (m : Int) (w : World) (hm : 0 < m) (hz : I64 z) : Calls Tryd.prog 25 #[.int .i64 z, .int .i64 m] w (Ret fun r w' => r = .int .i64 ((if z < 0 then -(z + 1) else z) % m) ∧ Stp [] w w') := by
  unfold I64 at hz
  refine calls_of_WC2 (n := 13) Tryd.func25 rfl rfl rfl ?_
  by_cases h : z < 0
  · repeat' (first | refine W1 ?_ | (exfalso; omega) | refine WL_split rfl rfl (fun hg => ?_) (fun hg => ?_) | refine WL_splitB rfl rfl (fun hg => ?_) (fun hg => ?_) | refine WC_cond rfl (fun hc => ?_) (fun hc => ?_) | refine WC_condB rfl (fun hc => ?_) (fun hc => ?_))
    first | refine WQ_ret1 rfl rfl ?_ | refine WQ_ret2 rfl rfl rfl ?_ | refine WQ_ret3 rfl rfl rfl rfl ?_ | refine WQ_ret0 rfl ?_ | refine WQ_end0 rfl ?_
    exact .mk ⟨by rw [if_pos h], Stp.refl _ _⟩
  · repeat' (first | refine W1 ?_ | (exfalso; omega) | refine WL_split rfl rfl (fun hg => ?_) (fun hg => ?_) | refine WL_splitB rfl rfl (fun hg => ?_) (fun hg => ?_) | refine WC_cond rfl (fun hc => ?_) (fun hc => ?_) | refine WC_condB rfl (fun hc => ?_) (fun hc => ?_))
    first | refine WQ_ret1 rfl rfl ?_ | refine WQ_ret2 rfl rfl rfl ?_ | refine WQ_ret3 rfl rfl rfl rfl ?_ | refine WQ_ret0 rfl ?_ | refine WQ_end0 rfl ?_
    exact .mk ⟨by rw [if_neg h], Stp.refl _ _⟩
end Go.Proofs.YtgpibcgebpgmiaaDoor


/-
The walk engine, part 17: bytes of a string.
-/
namespace Go.Eng
open Go Go.RowKit Go.Proofs
set_option linter.unusedVariables false
instance : Flat UInt8 where
  k := 1
  enc := fun b => [.int .u8 (b.toNat : Int)]
  len := fun _ => rfl
  one := by intro x u hu; simp at hu; subst hu; rfl
section
variable {P : Program} {n : Nat} {e : Env} {w : World} {d : Option Nat} {ty : TypeId} {pos : String} {af : Array Edge} {g : Option (Nat × Bool)}
theorem OE_convS {src dst el : TypeId} {x : Operand} {s : Str} [hs : Und P src .string] [hd : Und P dst (.slice el)] [he : Und P el (.int .u8)] (hx : ev e x = some (str s)) (hl : s.length ≤ 1000000) :
    OE P n ⟨d, .convert src dst x, ty, pos, af, g⟩ e w (fun v w' => (∀ X : List Nat, (∀ b ∈ X, b < w.heap.size) → SlV X w' v s) ∧ Stp [] w w') := by
  refine OE_value (v := .slice (some ⟨w.heap.size, 0, none⟩) s.length (grownCap w s.length 0 el)) (w' := Go.Lib.bytesWorld w el ⟨s.toArray⟩) (fun a ha => ?_) ⟨fun X hX => ?_, ?_⟩
  · have h := Go.Lib.run_convert_string_bytes (P := P) w src dst el ⟨s.toArray⟩ hs.h hd.h he.h
    simp only [str_size] at h
    simp [execOp, ha.ev hx, h]
  · refine ⟨some ⟨w.heap.size, 0, none⟩, _, rfl, grownCap_ge w _ _ _, grownCap_le_maxLen w _ _ _ (by simp [maxLen]; omega), (fun h => by cases h), fun i hi => ⟨w.heap.size, 0, Flat.enc s[i], rfl, ?_, fun h => by have := hX _ h; omega, rfl, fun j u hu => ?_⟩⟩
    · rw [Go.Lib.bytesWorld_size]; omega
    · have hj : j = 0 := by
        have := (List.getElem?_eq_some_iff.1 hu).1
        simp [Flat.enc] at this
        exact this
      subst hj
      have hc := Go.Lib.bytesWorld_cell w el ⟨s.toArray⟩ i (by rw [str_size]; exact hi)
      simp only [Flat.enc, List.getElem?_cons_zero, Option.some.injEq] at hu
      subst hu
      have e1 : (0 + i * GoRep.k UInt8 + 0) = i := by show 0 + i * 1 + 0 = i; omega
      rw [e1, hc]
      simp [List.getD, hi]
  · refine ⟨rfl, rfl, rfl, ?_, fun b hb _ => Go.Lib.bytesWorld_at_old w el _ b hb⟩
    rw [Go.Lib.bytesWorld_size]; omega
end
end Go.Eng

/-
  DERIVED: THE SHELF's CONTRACTS AT THIS DUMP, IN PLAIN WORDS (tools/lay-plain.mjs out of 'TrydShelf.lean', which tools/lay-shelf.mjs wrote): THE SAME DECLARATIONS UNDER THE SAME NAMES: 'import', 'namespace', 'open', 'def', 'theorem' AND NOTHING ELSE: no command of the shelf's: FOR A HAND-IN. Each laying: the table of numbers ('.._ren') and one theorem, a field a fact of the dump's own or the kernel's comparison; each contract: ONE APPLICATION.
-/
namespace Go.Proofs
open Go.Shelf
def Tryd.lays144_ren : Go.Shelf.Ren := ⟨fun | 144 => 111 | 143 => 130 | 219 => 133 | 217 => 134 | 225 => 135 | 224 => 136 | 267 => 137 | 266 => 138 | 314 => 139 | n => n, fun | 9 => 9 | 4 => 4 | 3 => 3 | 5 => 5 | 46 => 125 | 146 => 188 | 51 => 163 | n => n, fun | 1 => 1 | n => n⟩
theorem Tryd.lays144 : Go.Proofs.Lays.n144 Tryd.prog Tryd.lays144_ren := {
  mixed := by kernel_rfl
  f143 := Tryd.func130.trans (congrArg some (by kernel_rfl))
  f144 := Tryd.func111.trans (congrArg some (by kernel_rfl))
  f217 := Tryd.func134.trans (congrArg some (by kernel_rfl))
  f219 := Tryd.func133.trans (congrArg some (by kernel_rfl))
  f224 := Tryd.func136.trans (congrArg some (by kernel_rfl))
  f225 := Tryd.func135.trans (congrArg some (by kernel_rfl))
  f266 := Tryd.func138.trans (congrArg some (by kernel_rfl))
  f267 := Tryd.func137.trans (congrArg some (by kernel_rfl))
  f314 := Tryd.func139.trans (congrArg some (by kernel_rfl))
  t3 := Tryd.underlying3
  a3 := Tryd.isAgg3
  z3 := Tryd.sizeOf3
  v3 := Tryd.zeroValue3
  t4 := Tryd.underlying4
  a4 := Tryd.isAgg4
  z4 := Tryd.sizeOf4
  v4 := Tryd.zeroValue4
  t5 := Tryd.underlying5
  a5 := Tryd.isAgg5
  z5 := Tryd.sizeOf5
  v5 := Tryd.zeroValue5
  t9 := Tryd.underlying9
  a9 := Tryd.isAgg9
  z9 := Tryd.sizeOf9
  v9 := Tryd.zeroValue9
  t46 := Tryd.underlying125
  a46 := Tryd.isAgg125
  z46 := Tryd.sizeOf125
  v46 := Tryd.zeroValue125
  t51 := Tryd.underlying163
  a51 := Tryd.isAgg163
  z51 := Tryd.sizeOf163
  v51 := Tryd.zeroValue163
  t146 := Tryd.underlying188
  a146 := Tryd.isAgg188
  z146 := Tryd.sizeOf188
  v146 := Tryd.zeroValue188
  g1 := by kernel_rfl }
open Go.RowKit Go.Lib in
/-- strings.Contains: "Contains reports whether substr is within s.": IT RETURNS 'Lib.contains s substr'; the world is as it was. (LAID: no walk: one application.) -/
theorem Tryd.strings_Contains (s sub : ByteArray) (m : Int) (w : World) (hs : s.size < 4294967281) (hm : w.cell? ⟨1, 0, none⟩ = some (.int .i64 m)) :
    Calls Tryd.prog 111 #[.string s, .string sub] w fun e w' => e = .returned (.bool (Lib.contains s.data.toList sub.data.toList)) ∧ w' = w := Any.strings_Contains Tryd.lays144 s sub m w hs hm
def Tryd.laysM144_ren : Go.Shelf.Ren := ⟨fun | 144 => 111 | 143 => 130 | 219 => 133 | 217 => 134 | 225 => 135 | 224 => 136 | 267 => 137 | 266 => 138 | 314 => 139 | n => n, fun | 9 => 9 | 4 => 4 | 3 => 3 | 5 => 5 | 46 => 125 | 146 => 188 | 51 => 163 | n => n, fun | 1 => 1 | n => n⟩
theorem Tryd.laysM144 : Go.Proofs.LaysM.n144 Tryd.prog Tryd.laysM144_ren := {
  mixed := by kernel_rfl
  f143 := Tryd.func130.trans (congrArg some (by kernel_rfl))
  f144 := Tryd.func111.trans (congrArg some (by kernel_rfl))
  f217 := Tryd.func134.trans (congrArg some (by kernel_rfl))
  f219 := Tryd.func133.trans (congrArg some (by kernel_rfl))
  f224 := Tryd.func136.trans (congrArg some (by kernel_rfl))
  f225 := Tryd.func135.trans (congrArg some (by kernel_rfl))
  f266 := Tryd.func138.trans (congrArg some (by kernel_rfl))
  f267 := Tryd.func137.trans (congrArg some (by kernel_rfl))
  f314 := Tryd.func139.trans (congrArg some (by kernel_rfl))
  t3 := Tryd.underlying3
  a3 := Tryd.isAgg3
  z3 := Tryd.sizeOf3
  v3 := Tryd.zeroValue3
  t4 := Tryd.underlying4
  a4 := Tryd.isAgg4
  z4 := Tryd.sizeOf4
  v4 := Tryd.zeroValue4
  t5 := Tryd.underlying5
  a5 := Tryd.isAgg5
  z5 := Tryd.sizeOf5
  v5 := Tryd.zeroValue5
  t9 := Tryd.underlying9
  a9 := Tryd.isAgg9
  z9 := Tryd.sizeOf9
  v9 := Tryd.zeroValue9
  t46 := Tryd.underlying125
  a46 := Tryd.isAgg125
  z46 := Tryd.sizeOf125
  v46 := Tryd.zeroValue125
  t51 := Tryd.underlying163
  a51 := Tryd.isAgg163
  z51 := Tryd.sizeOf163
  v51 := Tryd.zeroValue163
  t146 := Tryd.underlying188
  a146 := Tryd.isAgg188
  z146 := Tryd.sizeOf188
  v146 := Tryd.zeroValue188
  g1 := by kernel_rfl
  i3 := by kernel_rfl
  i4 := by kernel_rfl
  i5 := by kernel_rfl
  i9 := by kernel_rfl
  i46 := by kernel_rfl
  i51 := by kernel_rfl
  i146 := by kernel_rfl
  m1 := by kernel_rfl
  s1_3 := fun w h => Go.Proofs.cell_of_shapedOpen_int (zero := #[.int .i64 0]) (t := 3) h (of_decide_eq_true (by kernel_rfl)) (by kernel_rfl) rfl (by kernel_rfl) (by kernel_rfl) Tryd.underlying3 }
end Go.Proofs


namespace Go.Proofs.YtgpibcgebpgmiaaDoor
open Go Go.Eng Go.RowKit
set_option linter.unusedVariables false

/-! ### names -/
def resC : Str := [32, 114, 117, 108, 101, 32, 102, 114, 111, 109, 32, 111, 110, 32, 105, 102, 32, 100, 117, 101, 32, 117, 110, 108, 101, 115, 115, 32, 101, 108, 115, 101, 32, 111, 114, 32, 97, 110, 100, 32, 110, 111, 116, 32, 116, 114, 117, 101, 32, 102, 97, 108, 115, 101, 32, 116, 104, 101, 110, 32, 101, 110, 100, 32, 100, 97, 121, 115, 32, 119, 101, 101, 107, 115, 32, 109, 111, 110, 116, 104, 115, 32, 99, 111, 117, 114, 116, 100, 97, 121, 115, 32, 110, 101, 120, 116, 32, 112, 114, 101, 118, 32, 108, 97, 116, 101, 114, 32, 101, 97, 114, 108, 105, 101, 114, 32, 98, 101, 116, 119, 101, 101, 110, 32]
def resW : List Str := [[114, 117, 108, 101], [102, 114, 111, 109], [111, 110], [105, 102], [100, 117, 101], [117, 110, 108, 101, 115, 115], [101, 108, 115, 101], [111, 114], [97, 110, 100], [110, 111, 116], [116, 114, 117, 101], [102, 97, 108, 115, 101], [116, 104, 101, 110], [101, 110, 100], [100, 97, 121, 115], [119, 101, 101, 107, 115], [109, 111, 110, 116, 104, 115], [99, 111, 117, 114, 116, 100, 97, 121, 115], [110, 101, 120, 116], [112, 114, 101, 118], [108, 97, 116, 101, 114], [101, 97, 114, 108, 105, 101, 114], [98, 101, 116, 119, 101, 101, 110]]
theorem index_iff : ∀ (s sub : List UInt8), 0 ≤ Lib.index s sub ↔ ∃ i, i ≤ s.length ∧ sub.isPrefixOf (s.drop i) = true
  | [], sub => by
    unfold Lib.index
    cases sub with
    | nil => simp
    | cons a l => simp
  | b :: l, sub => by
    have ih := index_iff l sub
    have hge := Lib.index_ge l sub
    unfold Lib.index
    by_cases hp : sub.isPrefixOf (b :: l) = true
    · rw [if_pos hp]
      exact ⟨fun _ => ⟨0, by omega, hp⟩, fun _ => by omega⟩
    · rw [if_neg hp]
      have e : (0 : Int) ≤ (if (Lib.index l sub == -1) = true then -1 else Lib.index l sub + 1) ↔ 0 ≤ Lib.index l sub := by
        by_cases h1 : Lib.index l sub = -1
        · rw [if_pos (by simpa using h1)]; omega
        · rw [if_neg (by simpa using h1)]; omega
      rw [e, ih]
      constructor
      · rintro ⟨i, hi, h⟩
        exact ⟨i + 1, by simpa using hi, h⟩
      · rintro ⟨i, hi, h⟩
        cases i with
        | zero => exact absurd h hp
        | succ i => exact ⟨i, by simpa using hi, h⟩
theorem take_word : ∀ (t r : List UInt8), (∀ c ∈ t, c ≠ 32) → (t ++ [32]).isPrefixOf r = true → r.takeWhile (fun c => decide (c ≠ 32)) = t
  | [], r, _, h => by
    cases r with
    | nil => simp at h
    | cons a l =>
      simp [List.isPrefixOf] at h
      subst h
      rfl
  | c :: t, r, hc, h => by
    cases r with
    | nil => simp at h
    | cons a l =>
      simp only [List.cons_append, List.isPrefixOf, Bool.and_eq_true, beq_iff_eq] at h
      obtain ⟨rfl, h⟩ := h
      have h1 := hc c (by simp)
      rw [List.takeWhile_cons_of_pos (by simpa using h1), take_word t l (fun x hx => hc x (by simp [hx])) h]
theorem res_words : ∀ i ∈ List.range (resC.length + 1), (resC.drop i).head? = some 32 → (resC.drop (i + 1)).takeWhile (fun c => decide (c ≠ 32)) ∈ resW ∨ (resC.drop (i + 1)).takeWhile (fun c => decide (c ≠ 32)) = [] := by decide +kernel
theorem res_has : ∀ t ∈ resW, Lib.contains resC (32 :: t ++ [32]) = true := by decide +kernel
theorem res_iff {t : Str} (h0 : t ≠ []) (hc : ∀ c ∈ t, c ≠ 32) : Lib.contains resC (32 :: t ++ [32]) = decide (t ∈ resW) := by
  by_cases ht : t ∈ resW
  · rw [res_has t ht, decide_eq_true ht]
  · rw [decide_eq_false ht]
    unfold Lib.contains
    rw [decide_eq_false_iff_not, index_iff]
    rintro ⟨i, hi, h⟩
    cases hd : resC.drop i with
    | nil => rw [hd] at h; simp at h
    | cons a l =>
      rw [hd] at h
      simp only [List.cons_append, List.isPrefixOf, Bool.and_eq_true, beq_iff_eq] at h
      obtain ⟨rfl, h⟩ := h
      have hl : resC.drop (i + 1) = l := by
        have := congrArg List.tail hd
        simpa [List.tail_drop] using this
      have hw := take_word t l hc h
      have := res_words i (List.mem_range.2 (by omega)) (by rw [hd]; rfl)
      rw [hl, hw] at this
      exact this.elim ht h0
end Go.Proofs.YtgpibcgebpgmiaaDoor


namespace Go.Proofs.YtgpibcgebpgmiaaDoor
open Go Go.Eng Go.RowKit
set_option linter.unusedVariables false

abbrev lett (c : Int) : Prop := (97 ≤ c ∧ c ≤ 122) ∨ (48 ≤ c ∧ c ≤ 57)
def nameOk (s : Str) : Bool := decide (0 < s.length ∧ s.length ≤ 12 ∧ 97 ≤ byte s 0 ∧ byte s 0 ≤ 122 ∧ ∀ i, i < s.length → lett (byte s i))
/-- a string is a name -/
def namedT (s : Str) : Bool := nameOk s && decide (s ∉ resW ∧ s ∉ fieldNames)
theorem contains_any (a b : Str) (m : Int) (w : World) (ha : a.length < 4294967281) (hm : w.cell? ⟨1, 0, none⟩ = some (.int .i64 m)) :
    Calls Tryd.prog 111 #[str a, str b] w (Ret fun r w' => r = .bool (Lib.contains a b) ∧ Stp [] w w') := by
  refine (Tryd.strings_Contains ⟨a.toArray⟩ ⟨b.toArray⟩ m w (by rw [str_size]; exact ha) hm).mono ?_
  rintro e w' ⟨rfl, rfl⟩
  exact .mk ⟨rfl, Stp.refl _ _⟩
theorem idx_memS {l : List Str} {s : Str} : 0 ≤ idx (isS s) l ↔ s ∈ l := by
  unfold idx
  cases h : l.findIdx? (isS s) with
  | none =>
    rw [List.findIdx?_eq_none_iff] at h
    simp only
    constructor
    · intro h1; omega
    · intro h1
      have := h s h1
      simp [isS] at this
  | some i =>
    obtain ⟨hi, hp, _⟩ := List.findIdx?_eq_some_iff_getElem.1 h
    simp only
    constructor
    · intro _
      have : l[i] = s := by simpa [isS] using hp
      rw [← this]; exact List.getElem_mem hi
    · intro _; omega
theorem containsS_any (X : List Nat) (v : Value) (l : List Str) (a : Str) (w : World) (hs : SlV X w v l) :
    Calls Tryd.prog 112 #[v, str a] w (Ret fun r w' => r = .bool (decide (a ∈ l)) ∧ Stp [] w w') := by
  refine calls_of_WC2 (n := 9) Tryd.func112 rfl rfl rfl ?_
  refine W ?_
  refine WL_eff (OE_call rfl (evs2 rfl rfl) (index_any X v l a _ hs)) rfl ?_
  rintro _ w1 ⟨rfl, hS⟩
  refine W ?_
  first | refine WQ_ret1 rfl rfl ?_ | refine WQ_ret2 rfl rfl rfl ?_ | refine WQ_ret3 rfl rfl rfl rfl ?_ | refine WQ_ret0 rfl ?_ | refine WQ_end0 rfl ?_
  exact .mk ⟨by congr 1; exact decide_eq_decide.2 idx_memS, hS⟩
theorem named_any (s : Str) (m : Int) (w : World) (hF : SlV [] w flds fieldNames) (hm : w.cell? ⟨1, 0, none⟩ = some (.int .i64 m)) :
    Calls Tryd.prog 79 #[str s] w (Ret fun r w' => r = .bool (namedT s) ∧ Stp [] w w') := by
  refine calls_of_WC1 (n := 55) Tryd.func79 rfl rfl rfl ?_
  refine W ?_
  by_cases h0 : s.length ≠ 0 ∧ s.length ≤ 12 ∧ 97 ≤ byte s 0 ∧ byte s 0 ≤ 122
  case neg =>
    have hn : namedT s = false := by
      unfold namedT nameOk
      rw [decide_eq_false (fun h => h0 ⟨by omega, h.2.1, h.2.2.1, h.2.2.2.1⟩)]
      rfl
    by_cases hl : s.length ≠ 0
    · repeat' (first | refine W1 ?_ | (exfalso; omega) | refine WL_split rfl rfl (fun hg => ?_) (fun hg => ?_) | refine WL_splitB rfl rfl (fun hg => ?_) (fun hg => ?_) | refine WC_cond rfl (fun hc => ?_) (fun hc => ?_) | refine WC_condB rfl (fun hc => ?_) (fun hc => ?_))
      · first | refine WQ_ret1 rfl rfl ?_ | refine WQ_ret2 rfl rfl rfl ?_ | refine WQ_ret3 rfl rfl rfl rfl ?_ | refine WQ_ret0 rfl ?_ | refine WQ_end0 rfl ?_
        exact .mk ⟨by rw [hn], Stp.refl _ _⟩
      · first | refine WQ_ret1 rfl rfl ?_ | refine WQ_ret2 rfl rfl rfl ?_ | refine WQ_ret3 rfl rfl rfl rfl ?_ | refine WQ_ret0 rfl ?_ | refine WQ_end0 rfl ?_
        exact .mk ⟨by rw [hn], Stp.refl _ _⟩
      refine WL_indexT (i := 0) rfl rfl rfl (by omega) rfl ?_
      repeat' (first | refine W1 ?_ | (exfalso; omega) | refine WL_split rfl rfl (fun hg => ?_) (fun hg => ?_) | refine WL_splitB rfl rfl (fun hg => ?_) (fun hg => ?_) | refine WC_cond rfl (fun hc => ?_) (fun hc => ?_) | refine WC_condB rfl (fun hc => ?_) (fun hc => ?_))
      · first | refine WQ_ret1 rfl rfl ?_ | refine WQ_ret2 rfl rfl rfl ?_ | refine WQ_ret3 rfl rfl rfl rfl ?_ | refine WQ_ret0 rfl ?_ | refine WQ_end0 rfl ?_
        exact .mk ⟨by rw [hn], Stp.refl _ _⟩
      refine WL_indexT (i := 0) rfl rfl rfl (by omega) rfl ?_
      repeat' (first | refine W1 ?_ | (exfalso; omega) | refine WL_split rfl rfl (fun hg => ?_) (fun hg => ?_) | refine WL_splitB rfl rfl (fun hg => ?_) (fun hg => ?_) | refine WC_cond rfl (fun hc => ?_) (fun hc => ?_) | refine WC_condB rfl (fun hc => ?_) (fun hc => ?_))
      first | refine WQ_ret1 rfl rfl ?_ | refine WQ_ret2 rfl rfl rfl ?_ | refine WQ_ret3 rfl rfl rfl rfl ?_ | refine WQ_ret0 rfl ?_ | refine WQ_end0 rfl ?_
      exact .mk ⟨by rw [hn], Stp.refl _ _⟩
    · obtain rfl : s = [] := List.length_eq_zero_iff.1 (by omega)
      repeat' (first | refine W1 ?_ | (exfalso; omega) | refine WL_split rfl rfl (fun hg => ?_) (fun hg => ?_) | refine WL_splitB rfl rfl (fun hg => ?_) (fun hg => ?_) | refine WC_cond rfl (fun hc => ?_) (fun hc => ?_) | refine WC_condB rfl (fun hc => ?_) (fun hc => ?_))
      first | refine WQ_ret1 rfl rfl ?_ | refine WQ_ret2 rfl rfl rfl ?_ | refine WQ_ret3 rfl rfl rfl rfl ?_ | refine WQ_ret0 rfl ?_ | refine WQ_end0 rfl ?_
      exact .mk ⟨by rw [hn], Stp.refl _ _⟩
  obtain ⟨h1, h2, h3, h4⟩ := h0
  have hne : ¬ s = [] := fun h => by rw [h] at h1; exact h1 rfl
  repeat' (first | refine W1 ?_ | (exfalso; omega) | refine WL_split rfl rfl (fun hg => ?_) (fun hg => ?_) | refine WL_splitB rfl rfl (fun hg => ?_) (fun hg => ?_) | refine WC_cond rfl (fun hc => ?_) (fun hc => ?_) | refine WC_condB rfl (fun hc => ?_) (fun hc => ?_))
  · exact absurd (by assumption) hne
  refine WL_indexT (i := 0) rfl rfl rfl (by omega) rfl ?_
  repeat' (first | refine W1 ?_ | (exfalso; omega) | refine WL_split rfl rfl (fun hg => ?_) (fun hg => ?_) | refine WL_splitB rfl rfl (fun hg => ?_) (fun hg => ?_) | refine WC_cond rfl (fun hc => ?_) (fun hc => ?_) | refine WC_condB rfl (fun hc => ?_) (fun hc => ?_))
  refine WL_indexT (i := 0) rfl rfl rfl (by omega) rfl ?_
  repeat' (first | refine W1 ?_ | (exfalso; omega) | refine WL_split rfl rfl (fun hg => ?_) (fun hg => ?_) | refine WL_splitB rfl rfl (fun hg => ?_) (fun hg => ?_) | refine WC_cond rfl (fun hc => ?_) (fun hc => ?_) | refine WC_condB rfl (fun hc => ?_) (fun hc => ?_))
  refine WL_eff (OE_convS rfl (by omega)) rfl ?_
  rintro bv w1 ⟨hb, hS⟩
  replace hb := hb [] (by simp)
  have hmx := hb.max
  repeat' (first | refine W1 ?_ | (exfalso; omega) | refine WL_split rfl rfl (fun hg => ?_) (fun hg => ?_) | refine WL_splitB rfl rfl (fun hg => ?_) (fun hg => ?_) | refine WC_cond rfl (fun hc => ?_) (fun hc => ?_) | refine WC_condB rfl (fun hc => ?_) (fun hc => ?_))
  refine WC_loop (σ := Nat) (fun i => [(0, str s), (23, bv), (24, .int .i64 (s.length : Int)), (25, .int .i64 (i : Int))]) (fun i w' => i ≤ s.length ∧ Stp [] w1 w' ∧ ∀ j, j < i → lett (byte s j)) (fun i => s.length - i) 0 ⟨rfl, rfl, rfl, rfl, trivial⟩ ⟨Nat.zero_le _, Stp.refl _ _, fun j hj => absurd hj (Nat.not_lt_zero _)⟩ ?_
  rintro i w2 ⟨hi, hS2, hall⟩
  try dsimp only at hi hall ⊢
  replace hb := hb.up hS2
  replace hS := hS.trans hS2
  by_cases hlt : i < s.length
  · have hbi : byte s i = (s[i].toNat : Int) := Go.Eng.byte_at hlt
    by_cases hle : (97 ≤ (s[i].toNat : Int) ∧ (s[i].toNat : Int) ≤ 122) ∨ (48 ≤ (s[i].toNat : Int) ∧ (s[i].toNat : Int) ≤ 57)
    · have hall' : ∀ j, j < i + 1 → lett (byte s j) := fun j hj => by
        by_cases e : j = i
        · subst e; rw [hbi]; exact hle
        · exact hall j (by omega)
      repeat' (first | refine W1 ?_ | (exfalso; omega) | refine WL_split rfl rfl (fun hg => ?_) (fun hg => ?_) | refine WL_splitB rfl rfl (fun hg => ?_) (fun hg => ?_) | refine WC_cond rfl (fun hc => ?_) (fun hc => ?_) | refine WC_condB rfl (fun hc => ?_) (fun hc => ?_))
      all_goals exact WQ_loop (i + 1) ⟨rfl, rfl, rfl, rfl, trivial⟩ ⟨hlt, hS2, hall'⟩ (Nat.sub_lt_sub_left hlt (Nat.lt_succ_self i))
    · have hn : namedT s = false := by
        unfold namedT nameOk
        rw [decide_eq_false (fun h => hle (by have := h.2.2.2.2 i hlt; rw [hbi] at this; exact this))]
        rfl
      repeat' (first | refine W1 ?_ | (exfalso; omega) | refine WL_split rfl rfl (fun hg => ?_) (fun hg => ?_) | refine WL_splitB rfl rfl (fun hg => ?_) (fun hg => ?_) | refine WC_cond rfl (fun hc => ?_) (fun hc => ?_) | refine WC_condB rfl (fun hc => ?_) (fun hc => ?_))
      all_goals
        first | refine WQ_ret1 rfl rfl ?_ | refine WQ_ret2 rfl rfl rfl ?_ | refine WQ_ret3 rfl rfl rfl rfl ?_ | refine WQ_ret0 rfl ?_ | refine WQ_end0 rfl ?_
        exact .mk ⟨by rw [hn], hS⟩
  obtain rfl : i = s.length := by omega
  have hok : nameOk s = true := decide_eq_true ⟨by omega, h2, h3, h4, hall⟩
  have hsp : ∀ c ∈ s, c ≠ 32 := fun c hc h => by
    obtain ⟨j, hj, rfl⟩ := List.getElem_of_mem hc
    have h5 := hall j hj
    rw [Go.Eng.byte_at hj, h] at h5
    exact absurd h5 (by decide)
  have hrl : resC.length < 4294967281 := by
    have : resC.length ≤ 200 := by decide +kernel
    omega
  have hres : Lib.contains resC ([32] ++ s ++ [32]) = decide (s ∈ resW) := res_iff hne hsp
  repeat' (first | refine W1 ?_ | (exfalso; omega) | refine WL_split rfl rfl (fun hg => ?_) (fun hg => ?_) | refine WL_splitB rfl rfl (fun hg => ?_) (fun hg => ?_) | refine WC_cond rfl (fun hc => ?_) (fun hc => ?_) | refine WC_condB rfl (fun hc => ?_) (fun hc => ?_))
  refine WL_addT rfl rfl (by simp; omega) rfl ?_
  repeat' (first | refine W1 ?_ | (exfalso; omega) | refine WL_split rfl rfl (fun hg => ?_) (fun hg => ?_) | refine WL_splitB rfl rfl (fun hg => ?_) (fun hg => ?_) | refine WC_cond rfl (fun hc => ?_) (fun hc => ?_) | refine WC_condB rfl (fun hc => ?_) (fun hc => ?_))
  refine WL_addT rfl rfl (by simp; omega) rfl ?_
  repeat' (first | refine W1 ?_ | (exfalso; omega) | refine WL_split rfl rfl (fun hg => ?_) (fun hg => ?_) | refine WL_splitB rfl rfl (fun hg => ?_) (fun hg => ?_) | refine WC_cond rfl (fun hc => ?_) (fun hc => ?_) | refine WC_condB rfl (fun hc => ?_) (fun hc => ?_))
  refine WL_eff (OE_call rfl (evs2 rfl rfl) (contains_any resC ([32] ++ s ++ [32]) m _ hrl (hS.cell (by simp) hm))) rfl ?_
  rintro _ w3 ⟨rfl, hS3⟩
  rw [hres]
  replace hS := hS.trans hS3
  by_cases hr : s ∈ resW
  · have hn : namedT s = false := by
      unfold namedT
      rw [decide_eq_false (fun h => h.1 hr), Bool.and_false]
    rw [decide_eq_true hr]
    repeat' (first | refine W1 ?_ | (exfalso; omega) | refine WL_split rfl rfl (fun hg => ?_) (fun hg => ?_) | refine WL_splitB rfl rfl (fun hg => ?_) (fun hg => ?_) | refine WC_cond rfl (fun hc => ?_) (fun hc => ?_) | refine WC_condB rfl (fun hc => ?_) (fun hc => ?_))
    first | refine WQ_ret1 rfl rfl ?_ | refine WQ_ret2 rfl rfl rfl ?_ | refine WQ_ret3 rfl rfl rfl rfl ?_ | refine WQ_ret0 rfl ?_ | refine WQ_end0 rfl ?_
    exact .mk ⟨by rw [hn], hS⟩
  rw [decide_eq_false hr]
  repeat' (first | refine W1 ?_ | (exfalso; omega) | refine WL_split rfl rfl (fun hg => ?_) (fun hg => ?_) | refine WL_splitB rfl rfl (fun hg => ?_) (fun hg => ?_) | refine WC_cond rfl (fun hc => ?_) (fun hc => ?_) | refine WC_condB rfl (fun hc => ?_) (fun hc => ?_))
  refine WL_sliceA rfl rfl ?_
  refine W ?_
  refine WL_eff (OE_call rfl (evs2 rfl rfl) (containsS_any [] _ fieldNames s _ (hF.up hS))) rfl ?_
  rintro _ w4 ⟨rfl, hS4⟩
  repeat' (first | refine W1 ?_ | (exfalso; omega) | refine WL_split rfl rfl (fun hg => ?_) (fun hg => ?_) | refine WL_splitB rfl rfl (fun hg => ?_) (fun hg => ?_) | refine WC_cond rfl (fun hc => ?_) (fun hc => ?_) | refine WC_condB rfl (fun hc => ?_) (fun hc => ?_))
  first | refine WQ_ret1 rfl rfl ?_ | refine WQ_ret2 rfl rfl rfl ?_ | refine WQ_ret3 rfl rfl rfl rfl ?_ | refine WQ_ret0 rfl ?_ | refine WQ_end0 rfl ?_
  refine .mk ⟨?_, hS.trans hS4⟩
  unfold namedT
  rw [hok]
  by_cases hf : s ∈ fieldNames <;> simp [hr, hf]
end Go.Proofs.YtgpibcgebpgmiaaDoor


namespace Go.Proofs.YtgpibcgebpgmiaaDoor
open Go Go.Eng Go.RowKit
set_option linter.unusedVariables false

/-- the error of an expression that must have a type -/
def mustF (x : Nd) (want : Int) : Int := if nestN x ≤ 12 then (if typeT x = 0 then 21 else if typeT x = want then 0 else 21) else 2
theorem must_any (v : Value) (x : Nd) (want : Int) (w : World) (hx : NdV [] w v x) (hF : SlV [] w flds fieldNames) : Calls Tryd.prog 80 #[v, .int .i64 want] w (Ret fun r w' => r = .int .i64 (mustF x want) ∧ Stp [] w w') := by
  obtain ⟨kv, rfl, hs⟩ := hx
  refine calls_of_WC2 (n := 20) Tryd.func80 rfl rfl rfl ?_
  refine W ?_
  refine WL_eff (OE_box rfl) rfl ?_
  rintro _ w1 ⟨b, rfl, hb, hblk, hS⟩
  replace hblk : Blk w1 b _ (ndC x kv) := hblk
  refine W ?_
  refine WL_eff (OE_call rfl (evs1 rfl) (Of_any [] [] _ x _ ⟨kv, rfl, hs.up hS⟩ (hF.up hS))) rfl ?_
  rintro _ w2 ⟨rfl, hS2⟩
  replace hS := hS.trans hS2
  unfold mustF
  by_cases hn : nestN x ≤ 12
  · rw [if_pos hn, if_pos hn, if_pos hn]
    by_cases ht : typeT x = 0
    · rw [if_pos ht, if_pos ht]
      repeat' (first | refine W1 ?_ | (exfalso; omega) | refine WL_split rfl rfl (fun hg => ?_) (fun hg => ?_) | refine WL_splitB rfl rfl (fun hg => ?_) (fun hg => ?_) | refine WC_cond rfl (fun hc => ?_) (fun hc => ?_) | refine WC_condB rfl (fun hc => ?_) (fun hc => ?_))
      first | refine WQ_ret1 rfl rfl ?_ | refine WQ_ret2 rfl rfl rfl ?_ | refine WQ_ret3 rfl rfl rfl rfl ?_ | refine WQ_ret0 rfl ?_ | refine WQ_end0 rfl ?_
      exact .mk ⟨rfl, hS⟩
    · rw [if_neg ht, if_neg ht]
      by_cases hw : typeT x = want
      · rw [if_pos hw]
        repeat' (first | refine W1 ?_ | (exfalso; omega) | refine WL_split rfl rfl (fun hg => ?_) (fun hg => ?_) | refine WL_splitB rfl rfl (fun hg => ?_) (fun hg => ?_) | refine WC_cond rfl (fun hc => ?_) (fun hc => ?_) | refine WC_condB rfl (fun hc => ?_) (fun hc => ?_))
        first | refine WQ_ret1 rfl rfl ?_ | refine WQ_ret2 rfl rfl rfl ?_ | refine WQ_ret3 rfl rfl rfl rfl ?_ | refine WQ_ret0 rfl ?_ | refine WQ_end0 rfl ?_
        exact .mk ⟨rfl, hS⟩
      · rw [if_neg hw]
        repeat' (first | refine W1 ?_ | (exfalso; omega) | refine WL_split rfl rfl (fun hg => ?_) (fun hg => ?_) | refine WL_splitB rfl rfl (fun hg => ?_) (fun hg => ?_) | refine WC_cond rfl (fun hc => ?_) (fun hc => ?_) | refine WC_condB rfl (fun hc => ?_) (fun hc => ?_))
        first | refine WQ_ret1 rfl rfl ?_ | refine WQ_ret2 rfl rfl rfl ?_ | refine WQ_ret3 rfl rfl rfl rfl ?_ | refine WQ_ret0 rfl ?_ | refine WQ_end0 rfl ?_
        exact .mk ⟨rfl, hS⟩
  · rw [if_neg hn, if_neg hn, if_neg hn]
    repeat' (first | refine W1 ?_ | (exfalso; omega) | refine WL_split rfl rfl (fun hg => ?_) (fun hg => ?_) | refine WL_splitB rfl rfl (fun hg => ?_) (fun hg => ?_) | refine WC_cond rfl (fun hc => ?_) (fun hc => ?_) | refine WC_condB rfl (fun hc => ?_) (fun hc => ?_))
    first | refine WQ_ret1 rfl rfl ?_ | refine WQ_ret2 rfl rfl rfl ?_ | refine WQ_ret3 rfl rfl rfl rfl ?_ | refine WQ_ret0 rfl ?_ | refine WQ_end0 rfl ?_
    exact .mk ⟨rfl, hS⟩
end Go.Proofs.YtgpibcgebpgmiaaDoor


namespace Go.Proofs.YtgpibcgebpgmiaaDoor
open Go Go.Eng Go.RowKit
set_option linter.unusedVariables false

/-! ### rules -/
structure Rul where
  name : Str
  frm : Int
  on : Str
  cnd : Nd
  due : Nd
  unl : Str
  els : Str
abbrev rlC (r : Rul) (ki kd : Value) : List Value := [str r.name, .int .i64 r.frm, str r.on, .int .i64 r.cnd.kind, .int .i64 r.cnd.num, str r.cnd.word, ki, .int .i64 r.due.kind, .int .i64 r.due.num, str r.due.word, kd, str r.unl, str r.els]
/-- the value of a rule -/
def RulV (X : List Nat) (w : World) (v : Value) (r : Rul) : Prop := ∃ ki kd, v = .agg (rlC r ki kd).toArray ∧ SlV X w ki r.cnd.kids ∧ SlV X w kd r.due.kids
theorem RulV.up {X : List Nat} {w w' : World} {v : Value} {r : Rul} (h : RulV X w v r) (hS : Stp [] w w') : RulV X w' v r := by
  obtain ⟨ki, kd, rfl, h1, h2⟩ := h
  exact ⟨ki, kd, rfl, h1.up hS, h2.up hS⟩
/-- the names are good -/
def namesT (r : Rul) : Bool := namedT r.name && namedT r.on && (decide (r.unl = []) || namedT r.unl) && (decide (r.els = []) || namedT r.els)
/-- the error of a rule -/
def checkT (r : Rul) : Int := if namesT r = false then 7 else if r.frm < 0 ∨ r.frm > 3652058 then 5 else if mustF r.cnd 2 ≠ 0 then mustF r.cnd 2 else mustF r.due 3
theorem Check14_any (v : Value) (r : Rul) (m : Int) (w : World) (hv : RulV [] w v r) (hF : SlV [] w flds fieldNames) (hm : w.cell? ⟨1, 0, none⟩ = some (.int .i64 m)) :
    Calls Tryd.prog 41 #[v] w (Ret fun r' w' => r' = .int .i64 (checkT r) ∧ Stp [] w w') := by
  obtain ⟨ki, kd, rfl, hi, hd⟩ := hv
  refine calls_of_WC1 (n := 55) Tryd.func41 rfl rfl rfl ?_
  refine W ?_
  refine WL_eff (OE_box rfl) rfl ?_
  rintro _ w1 ⟨b, rfl, hb, hblk, hS⟩
  replace hblk : Blk w1 b _ (rlC r ki kd) := hblk
  refine W ?_
  refine WL_eff (OE_call rfl (evs1 rfl) (named_any r.name m _ (hF.up hS) (hS.cell (by simp) hm))) rfl ?_
  rintro _ w2 ⟨rfl, hT⟩
  replace hblk := hblk.up hT
  replace hS := hS.trans hT
  clear hT
  refine WL_cutQ (σ := Bool) (fun q => [(1, .pointer (some ⟨b, 0, none⟩)), (2, .int .i64 0), (4, .bool q)]) (fun q w' => Blk w' b 51 (rlC r ki kd) ∧ Stp [] w w' ∧ q = !namesT r) ?_ ?_
  · cases hA : namedT r.name with
    | false =>
      refine W ?_
      exact WQ_cut true ⟨rfl, rfl, rfl, trivial⟩ ⟨hblk, hS, by simp [namesT, *]⟩
    | true =>
      refine W ?_
      refine WL_eff (OE_call rfl (evs1 rfl) (named_any r.on m _ (hF.up hS) (hS.cell (by simp) hm))) rfl ?_
      rintro _ w2 ⟨rfl, hT⟩
      replace hblk := hblk.up hT
      replace hS := hS.trans hT
      clear hT
      cases hB : namedT r.on with
      | false =>
        refine W ?_
        exact WQ_cut true ⟨rfl, rfl, rfl, trivial⟩ ⟨hblk, hS, by simp [namesT, *]⟩
      | true =>
        repeat' (first | refine W1 ?_ | (exfalso; omega) | refine WL_split rfl rfl (fun hg => ?_) (fun hg => ?_) | refine WL_splitB rfl rfl (fun hg => ?_) (fun hg => ?_) | refine WC_cond rfl (fun hc => ?_) (fun hc => ?_) | refine WC_condB rfl (fun hc => ?_) (fun hc => ?_))
        · refine WL_eff (OE_call rfl (evs1 rfl) (named_any r.unl m _ (hF.up hS) (hS.cell (by simp) hm))) rfl ?_
          rintro _ w2 ⟨rfl, hT⟩
          replace hblk := hblk.up hT
          replace hS := hS.trans hT
          clear hT
          cases hC : namedT r.unl with
          | false =>
            refine W ?_
            exact WQ_cut true ⟨rfl, rfl, rfl, trivial⟩ ⟨hblk, hS, by simp [namesT, *]⟩
          | true =>
            repeat' (first | refine W1 ?_ | (exfalso; omega) | refine WL_split rfl rfl (fun hg => ?_) (fun hg => ?_) | refine WL_splitB rfl rfl (fun hg => ?_) (fun hg => ?_) | refine WC_cond rfl (fun hc => ?_) (fun hc => ?_) | refine WC_condB rfl (fun hc => ?_) (fun hc => ?_))
            · refine WL_eff (OE_call rfl (evs1 rfl) (named_any r.els m _ (hF.up hS) (hS.cell (by simp) hm))) rfl ?_
              rintro _ w2 ⟨rfl, hT⟩
              replace hblk := hblk.up hT
              replace hS := hS.trans hT
              clear hT
              cases hD : namedT r.els with
              | false =>
                refine W ?_
                exact WQ_cut true ⟨rfl, rfl, rfl, trivial⟩ ⟨hblk, hS, by simp [namesT, *]⟩
              | true =>
                refine W ?_
                exact WQ_cut false ⟨rfl, rfl, rfl, trivial⟩ ⟨hblk, hS, by simp [namesT, *]⟩
            · exact WQ_cut false ⟨rfl, rfl, rfl, trivial⟩ ⟨hblk, hS, by simp [namesT, *]⟩
        · refine WL_eff (OE_call rfl (evs1 rfl) (named_any r.els m _ (hF.up hS) (hS.cell (by simp) hm))) rfl ?_
          rintro _ w2 ⟨rfl, hT⟩
          replace hblk := hblk.up hT
          replace hS := hS.trans hT
          clear hT
          cases hD : namedT r.els with
          | false =>
            refine W ?_
            exact WQ_cut true ⟨rfl, rfl, rfl, trivial⟩ ⟨hblk, hS, by simp [namesT, *]⟩
          | true =>
            refine W ?_
            exact WQ_cut false ⟨rfl, rfl, rfl, trivial⟩ ⟨hblk, hS, by simp [namesT, *]⟩
        · exact WQ_cut false ⟨rfl, rfl, rfl, trivial⟩ ⟨hblk, hS, by simp [namesT, *]⟩
  rintro q w3 ⟨hblk, hS, hq⟩
  try dsimp only at hq ⊢
  unfold checkT
  cases hnm : namesT r with
  | false =>
    rw [hnm] at hq
    subst hq
    refine W ?_
    first | refine WQ_ret1 rfl rfl ?_ | refine WQ_ret2 rfl rfl rfl ?_ | refine WQ_ret3 rfl rfl rfl rfl ?_ | refine WQ_ret0 rfl ?_ | refine WQ_end0 rfl ?_
    exact .mk ⟨rfl, hS⟩
  | true =>
    rw [hnm] at hq
    subst hq
    refine W ?_
    by_cases hr : r.frm < 0 ∨ r.frm > 3652058
    · repeat' (first | refine W1 ?_ | (exfalso; omega) | refine WL_split rfl rfl (fun hg => ?_) (fun hg => ?_) | refine WL_splitB rfl rfl (fun hg => ?_) (fun hg => ?_) | refine WC_cond rfl (fun hc => ?_) (fun hc => ?_) | refine WC_condB rfl (fun hc => ?_) (fun hc => ?_))
      all_goals
        first | refine WQ_ret1 rfl rfl ?_ | refine WQ_ret2 rfl rfl rfl ?_ | refine WQ_ret3 rfl rfl rfl rfl ?_ | refine WQ_ret0 rfl ?_ | refine WQ_end0 rfl ?_
        exact .mk ⟨by rw [if_neg (by decide), if_pos hr], hS⟩
    repeat' (first | refine W1 ?_ | (exfalso; omega) | refine WL_split rfl rfl (fun hg => ?_) (fun hg => ?_) | refine WL_splitB rfl rfl (fun hg => ?_) (fun hg => ?_) | refine WC_cond rfl (fun hc => ?_) (fun hc => ?_) | refine WC_condB rfl (fun hc => ?_) (fun hc => ?_))
    apply WL_pure (PR_loadN_blk (us := ndC r.cnd ki) rfl rfl hblk rfl rfl) rfl
    refine W ?_
    refine WL_eff (OE_call rfl (evs2 rfl rfl) (must_any _ r.cnd 2 _ ⟨ki, rfl, hi.up hS⟩ (hF.up hS))) rfl ?_
    rintro _ w4 ⟨rfl, hT⟩
    replace hblk := hblk.up hT
    replace hS := hS.trans hT
    clear hT
    by_cases h2 : mustF r.cnd 2 = 0
    · repeat' (first | refine W1 ?_ | (exfalso; omega) | refine WL_split rfl rfl (fun hg => ?_) (fun hg => ?_) | refine WL_splitB rfl rfl (fun hg => ?_) (fun hg => ?_) | refine WC_cond rfl (fun hc => ?_) (fun hc => ?_) | refine WC_condB rfl (fun hc => ?_) (fun hc => ?_))
      apply WL_pure (PR_loadN_blk (us := ndC r.due kd) rfl rfl hblk rfl rfl) rfl
      refine W ?_
      refine WL_eff (OE_call rfl (evs2 rfl rfl) (must_any _ r.due 3 _ ⟨kd, rfl, hd.up hS⟩ (hF.up hS))) rfl ?_
      rintro _ w5 ⟨rfl, hT⟩
      refine W ?_
      first | refine WQ_ret1 rfl rfl ?_ | refine WQ_ret2 rfl rfl rfl ?_ | refine WQ_ret3 rfl rfl rfl rfl ?_ | refine WQ_ret0 rfl ?_ | refine WQ_end0 rfl ?_
      exact .mk ⟨by rw [if_neg (by decide), if_neg hr, if_neg (by simpa using h2)], hS.trans hT⟩
    · repeat' (first | refine W1 ?_ | (exfalso; omega) | refine WL_split rfl rfl (fun hg => ?_) (fun hg => ?_) | refine WL_splitB rfl rfl (fun hg => ?_) (fun hg => ?_) | refine WC_cond rfl (fun hc => ?_) (fun hc => ?_) | refine WC_condB rfl (fun hc => ?_) (fun hc => ?_))
      first | refine WQ_ret1 rfl rfl ?_ | refine WQ_ret2 rfl rfl rfl ?_ | refine WQ_ret3 rfl rfl rfl rfl ?_ | refine WQ_ret0 rfl ?_ | refine WQ_end0 rfl ?_
      exact .mk ⟨by rw [if_neg (by decide), if_neg hr, if_pos h2], hS⟩
end Go.Proofs.YtgpibcgebpgmiaaDoor

