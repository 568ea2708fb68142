/-
Merged by program out of own texts: Ver2, Ver3, Ver4, Liv1, Ver5, Eng13, Eng14, Ver6, Ver7a, Ver7b, Ver7c, Eng15, Ver8, Ver9, Ver10, Ver11, Liv2, Eng16, Arg15, Arg16, Wlk1, Eng17, Shl, Nam1, Nam2, Nam3, Nam4, Rg1, Rul1, Rul2.
-/
import Derived.Test.YtgpibcgebpgmiaaDoorM2
import Derived.Laws.OwnMore
import Derived.HandedShaped
import Derived.LaidMore
import Derived.OpenShut
import Derived.ProofKit
import Derived.Stop.Joined
import Derived.SevenTiedAt
import Derived.MakeChecks
import Derived.Test.YtgpibcgebpgmiaaDoorRows
import Derived.Test.YtgpibcgebpgmiaaDoorTie
import Derived.Test.YtgpibcgebpgmiaaDoorCards
import Derived.Lib.ConvBytes
import Derived.Laws.AppendOwn
import Derived.Shelf.Small.Bits
import Derived.Shelf.Strconv.Itoa0
import Derived.Shelf.Strings.Search1
import Derived.Shelf.Strings.Search2
import Derived.Shelf.Strings.Search3
import Derived.Shelf.LaysM
import Derived.Shelf.Strings.Shaped
import Derived.Shelf.Sort.Plain
import Derived.Ground.Names2Prog
import Derived.Shelf.Slices.CompactI
import Derived.Shelf.Slices.SearchI
import Derived.Shelf.Slices.Cells
import Derived.Shelf.Slices.In.SortNone
import Derived.Ground.SlbCloneProg
import Derived.Shelf.Bytes.SlClone
import Derived.Test.YtgpibcgebpgmiaaDoorProg

namespace Go.Proofs.YtgpibcgebpgmiaaDoor
open Go Go.Eng Go.RowKit
set_option linter.unusedVariables false

abbrev RwZ (w w' : World) (v : Value) (xs : List Int) : Prop := RowF 3 w w' v xs
/-- slices.Grow of nil -/
theorem GrowI_any (k : Nat) (w : World) (hk : k ≤ 1000000) : Calls Tryd.prog 123 #[.slice none 0 0, .int .i64 (k : Int)] w (Ret fun r w' => RwZ w w' r []) := by
  refine calls_of_WC2 (n := 27) Tryd.func123 rfl rfl rfl ?_
  refine W ?_
  have h0 : SlV (α := Int) [] w (.slice none 0 0) [] := nilSlv _ _
  have hl0 : ([] : List Int).length = 0 := rfl
  repeat' (first | refine W1 ?_ | (exfalso; omega) | refine WL_split rfl rfl (fun hg => ?_) (fun hg => ?_) | refine WL_splitB rfl rfl (fun hg => ?_) (fun hg => ?_) | refine WC_cond rfl (fun hc => ?_) (fun hc => ?_) | refine WC_condB rfl (fun hc => ?_) (fun hc => ?_))
  apply WL_pure (PR_cap rfl) rfl
  by_cases hk0 : k = 0
  · subst hk0
    repeat' (first | refine W1 ?_ | (exfalso; omega) | refine WL_split rfl rfl (fun hg => ?_) (fun hg => ?_) | refine WL_splitB rfl rfl (fun hg => ?_) (fun hg => ?_) | refine WC_cond rfl (fun hc => ?_) (fun hc => ?_) | refine WC_condB rfl (fun hc => ?_) (fun hc => ?_))
    first | refine WQ_ret1 rfl rfl ?_ | refine WQ_ret2 rfl rfl rfl ?_ | refine WQ_ret3 rfl rfl rfl rfl ?_ | refine WQ_ret0 rfl ?_ | refine WQ_end0 rfl ?_
    exact .mk RowF.nil
  repeat' (first | refine W1 ?_ | (exfalso; omega) | refine WL_split rfl rfl (fun hg => ?_) (fun hg => ?_) | refine WL_splitB rfl rfl (fun hg => ?_) (fun hg => ?_) | refine WC_cond rfl (fun hc => ?_) (fun hc => ?_) | refine WC_condB rfl (fun hc => ?_) (fun hc => ?_))
  apply WL_pure (PR_cap rfl) rfl
  apply WL_pure (PR_slice0n rfl rfl) rfl
  refine W ?_
  refine WL_eff (OE_appZ (k := k) rfl rfl rfl (by omega) (by simp [maxLen]; omega) (by omega)) rfl ?_
  rintro _ w1 ⟨c, rfl, hown, hS⟩
  replace h0 := h0.up hS
  have hr : RwZ w w1 (.slice (some ⟨w.heap.size, 0, none⟩) 0 c) [] := ⟨⟨[], rfl, fun i h => absurd h (Nat.not_lt_zero _), hown⟩, hS⟩
  refine W ?_
  apply WL_pure (PR_slice0 rfl rfl) rfl
  refine W ?_
  first | refine WQ_ret1 rfl rfl ?_ | refine WQ_ret2 rfl rfl rfl ?_ | refine WQ_ret3 rfl rfl rfl rfl ?_ | refine WQ_ret0 rfl ?_ | refine WQ_end0 rfl ?_
  exact .mk hr
/-- slices.Concat of slices of ints -/
theorem ConcatI_any (v : Value) (xss : List (Sl Int)) (w : World) (hs : SlV [] w v xss) (hl : xss.length ≤ 1000) (hlen : (xss.flatMap Sl.l).length ≤ 100000) : Calls Tryd.prog 98 #[v] w (Ret fun r w' => RwZ w w' r (xss.flatMap Sl.l)) := by
  have hpre : ∀ j, ((xss.take j).flatMap Sl.l).length ≤ (xss.flatMap Sl.l).length := fun j => by
    rw [← List.take_append_drop j xss, List.flatMap_append, List.length_append]
    simp only [List.take_append_drop]
    have : (xss.take j).flatMap Sl.l = ((xss.take j ++ xss.drop j).take j).flatMap Sl.l := by rw [List.take_append_drop]
    omega
  have hstep : ∀ j (h : j < xss.length), (xss.take (j + 1)).flatMap Sl.l = (xss.take j).flatMap Sl.l ++ xss[j].l := fun j h => by
    rw [List.take_succ_eq_append_getElem h, List.flatMap_append]
    simp
  refine calls_of_WC1 (n := 36) Tryd.func98 rfl rfl rfl ?_
  refine W ?_
  refine WC_cutB (σ := Unit) (fun _ => [(0, v), (3, .int .i64 ((xss.flatMap Sl.l).length : Int))]) (fun _ w' => w' = w) ?_ ?_
  · refine WC_loop (σ := Nat) (fun j => [(0, v), (9, v), (10, .int .i64 (xss.length : Int)), (3, .int .i64 (((xss.take j).flatMap Sl.l).length : Int)), (11, .int .i64 (j : Int))]) (fun j w' => j ≤ xss.length ∧ w' = w) (fun j => xss.length - j) 0 ⟨rfl, rfl, rfl, rfl, rfl, trivial⟩ ⟨Nat.zero_le _, rfl⟩ ?_
    rintro j w2 ⟨hj, rfl⟩
    by_cases hlt : j < xss.length
    · obtain ⟨u, hcell, hsu⟩ := hs.sub hlt
      have hum := hsu.max
      have h1 := hpre j
      have h2 := hpre (j + 1)
      have h3 := hstep j hlt
      have h4 : ((xss.take (j + 1)).flatMap Sl.l).length = ((xss.take j).flatMap Sl.l).length + xss[j].l.length := by rw [h3, List.length_append]
      repeat' (first | refine W1 ?_ | (exfalso; omega) | refine WL_split rfl rfl (fun hg => ?_) (fun hg => ?_) | refine WL_splitB rfl rfl (fun hg => ?_) (fun hg => ?_) | refine WC_cond rfl (fun hc => ?_) (fun hc => ?_) | refine WC_condB rfl (fun hc => ?_) (fun hc => ?_))
      apply WL_pure (PR_load1 rfl rfl hcell) rfl
      repeat' (first | refine W1 ?_ | (exfalso; omega) | refine WL_split rfl rfl (fun hg => ?_) (fun hg => ?_) | refine WL_splitB rfl rfl (fun hg => ?_) (fun hg => ?_) | refine WC_cond rfl (fun hc => ?_) (fun hc => ?_) | refine WC_condB rfl (fun hc => ?_) (fun hc => ?_))
      refine WQ_loop (j + 1) ⟨rfl, rfl, rfl, by rw [h4, Int.natCast_add]; rfl, rfl, trivial⟩ ⟨hlt, rfl⟩ (by omega)
    · have hje : j = xss.length := by omega
      subst hje
      rw [List.take_length]
      repeat' (first | refine W1 ?_ | (exfalso; omega) | refine WL_split rfl rfl (fun hg => ?_) (fun hg => ?_) | refine WL_splitB rfl rfl (fun hg => ?_) (fun hg => ?_) | refine WC_cond rfl (fun hc => ?_) (fun hc => ?_) | refine WC_condB rfl (fun hc => ?_) (fun hc => ?_))
      exact WQ_cut () ⟨rfl, rfl, trivial⟩ rfl
  rintro _ w2 rfl
  refine W ?_
  refine WL_eff (OE_call rfl (evs2 rfl rfl) (GrowI_any _ _ (by omega))) rfl ?_
  rintro g w3 hr
  refine W ?_
  have hs3 := hs.up hr.2
  refine W ?_
  refine WC_loop (σ := Nat × Value) (fun q => [(6, q.2), (25, v), (26, .int .i64 (xss.length : Int)), (27, .int .i64 (q.1 : Int))]) (fun q w' => q.1 ≤ xss.length ∧ RwZ w2 w' q.2 ((xss.take q.1).flatMap Sl.l)) (fun q => xss.length - q.1) (0, g) ⟨rfl, rfl, rfl, rfl, trivial⟩ ⟨Nat.zero_le _, by simpa using hr⟩ ?_
  clear hr hs3
  rintro ⟨j, g⟩ w4 ⟨hj, hr⟩
  dsimp only at hj hr ⊢
  by_cases hlt : j < xss.length
  · have hs4 : SlV (ob g) w4 v xss := hs.ext hr.2 (by simp) (fun b hb => .inr (hr.ob_le b hb).1)
    obtain ⟨u, hcell, hsu⟩ := hs4.sub hlt
    have h1 := hpre j
    have h2 := hpre (j + 1)
    have h3 := hstep j hlt
    have h4 : ((xss.take (j + 1)).flatMap Sl.l).length = ((xss.take j).flatMap Sl.l).length + xss[j].l.length := by rw [h3, List.length_append]
    repeat' (first | refine W1 ?_ | (exfalso; omega) | refine WL_split rfl rfl (fun hg => ?_) (fun hg => ?_) | refine WL_splitB rfl rfl (fun hg => ?_) (fun hg => ?_) | refine WC_cond rfl (fun hc => ?_) (fun hc => ?_) | refine WC_condB rfl (fun hc => ?_) (fun hc => ?_))
    apply WL_pure (PR_load1 rfl rfl hcell) rfl
    repeat' (first | refine W1 ?_ | (exfalso; omega) | refine WL_split rfl rfl (fun hg => ?_) (fun hg => ?_) | refine WL_splitB rfl rfl (fun hg => ?_) (fun hg => ?_) | refine WC_cond rfl (fun hc => ?_) (fun hc => ?_) | refine WC_condB rfl (fun hc => ?_) (fun hc => ?_))
    refine WL_eff (OE_appF rfl (by decide) rfl rfl hr hsu (by omega) (by simp only [maxLen]; omega)) rfl ?_
    rintro g' w5 ⟨hr', -, -⟩
    refine W ?_
    exact WQ_loop (j + 1, g') ⟨rfl, rfl, rfl, rfl, trivial⟩ ⟨hlt, by dsimp only; rw [h3]; exact hr'⟩ (by dsimp only; omega)
  · have hje : j = xss.length := by omega
    subst hje
    rw [List.take_length] at hr
    repeat' (first | refine W1 ?_ | (exfalso; omega) | refine WL_split rfl rfl (fun hg => ?_) (fun hg => ?_) | refine WL_splitB rfl rfl (fun hg => ?_) (fun hg => ?_) | refine WC_cond rfl (fun hc => ?_) (fun hc => ?_) | refine WC_condB rfl (fun hc => ?_) (fun hc => ?_))
    first | refine WQ_ret1 rfl rfl ?_ | refine WQ_ret2 rfl rfl rfl ?_ | refine WQ_ret3 rfl rfl rfl rfl ?_ | refine WQ_ret0 rfl ?_ | refine WQ_end0 rfl ?_
    exact .mk hr
end Go.Proofs.YtgpibcgebpgmiaaDoor


namespace Go.Eng
open Go
theorem WQ_ret4 {P : Program} {n : Nat} {fn : Func} {R : Ending → World → Prop} {e : Env} {w : World} {t u s q : Nat} {v x y z : Value} (hr : fn.results = #[.tmp t, .tmp u, .tmp s, .tmp q]) (ht : look e t = some v) (hu : look e u = some x) (hs : look e s = some y) (hq : look e q = some z) (h : R (.returned (.tuple #[v, x, y, z])) w) : WQ n (bodyPost P fn R) .ret e w :=
  ⟨fun a ha => ⟨ha.defers, .tuple #[v, x, y, z], by simp [results, hr]; simpa [Array.getD_eq_getD_getElem?] using And.intro (ha.vals t v ht) (And.intro (ha.vals u x hu) (And.intro (ha.vals s y hs) (ha.vals q z hq))), h⟩⟩
end Go.Eng
namespace Go.Proofs.YtgpibcgebpgmiaaDoor
open Go Go.Eng Go.RowKit
set_option linter.unusedVariables false

/-- what an operation takes, takes else, gives, and whether it is well formed -/
def effF (x : Ins) : List Int × List Int × List Int × Bool :=
  if x.op = 1 then ([], [], [1], decide (-2147483647 ≤ x.n ∧ x.n ≤ 2147483647))
  else if x.op = 2 then ([], [], [2], decide (x.n = 0 ∨ x.n = 1))
  else if x.op = 3 then ([], [], [3], decide (0 ≤ x.n ∧ x.n ≤ 3652058))
  else if x.op = 4 then ([], [], [if x.n = 0 ∨ x.n = 1 then 3 else 1], decide (0 ≤ x.n ∧ x.n < 7))
  else if x.op = 13 then ([], [], [], true)
  else if x.op = 14 then ([2], [], [], true)
  else if x.op = 5 ∨ x.op = 6 ∨ x.op = 7 then ([1, 1], [], [1], decide (x.n = 0))
  else if x.op = 8 then ([1], [], [1], decide (x.n = 0))
  else if x.op = 9 ∨ x.op = 10 ∨ x.op = 11 then ([1, 1], [3, 3], [2], decide (x.n = 0))
  else if x.op = 12 then ([2], [], [2], decide (x.n = 0))
  else if x.op = 15 ∨ x.op = 16 ∨ x.op = 17 ∨ x.op = 18 then ([3, 1], [], [3], decide (x.n = 0))
  else if x.op = 19 ∨ x.op = 20 then ([3], [], [3], decide (x.n = 0))
  else if x.op = 21 ∨ x.op = 22 then ([3, 3], [], [3], decide (x.n = 0))
  else if x.op = 23 then ([3, 3], [], [1], decide (x.n = 0))
  else if x.op = 24 then ([], [], [], decide (x.n = 0))
  else ([], [], [], false)
def EffR (X : List Nat) (w : World) (x : Ins) (r : Value) (w' : World) : Prop := ∃ a b c, r = .tuple #[a, b, c, .bool (effF x).2.2.2] ∧ SlV X w' a (effF x).1 ∧ SlV X w' b (effF x).2.1 ∧ SlV X w' c (effF x).2.2.1 ∧ Stp [] w w'
theorem effPost {X : List Nat} {w w' : World} {x : Ins} {a b c : Value} {p ok : Bool} {ta al gi : List Int} (heq : effF x = (ta, al, gi, ok)) (hp : p = ok) (ha : SlV X w' a ta) (hb : SlV X w' b al) (hc : SlV X w' c gi) (hS : Stp [] w w') : Ret (EffR X w x) (.returned (.tuple #[a, b, c, .bool p])) w' := by
  refine .mk ⟨a, b, c, ?_, ?_, ?_, ?_, hS⟩ <;> rw [heq]
  · rw [hp]
  · exact ha
  · exact hb
  · exact hc
set_option maxHeartbeats 2000000 in
theorem effect_any (X : List Nat) (x : Ins) (w : World) (hX0 : ∀ b ∈ X, b < w.heap.size) :
    Calls Tryd.prog 96 #[agg x] w (Ret (EffR X w x)) := by
  refine calls_of_WC1 (n := 117) Tryd.func96 rfl rfl rfl ?_
  refine W ?_
  refine WL_eff (OE_box rfl) rfl ?_
  rintro _ w0 ⟨b, rfl, hb, hblk, hS⟩
  replace hblk : Blk w0 b _ [.int .i64 x.op, .int .i64 x.n] := hblk
  have hX : ∀ b ∈ X, b < w0.heap.size := fun b hb => Nat.lt_of_lt_of_le (hX0 b hb) hS.size
  refine W ?_
  by_cases h1 : x.op = 1
  · have heq : effF x = ([], [], [1], decide (-2147483647 ≤ x.n ∧ x.n ≤ 2147483647)) := by simp [effF, h1]
    repeat' (first | refine W1 ?_ | (exfalso; omega) | refine WL_split rfl rfl (fun hg => ?_) (fun hg => ?_) | refine WL_splitB rfl rfl (fun hg => ?_) (fun hg => ?_) | refine WC_cond rfl (fun hc => ?_) (fun hc => ?_) | refine WC_condB rfl (fun hc => ?_) (fun hc => ?_))
    refine WC_drawn 13 [] [] [(1, 0), (2, 1), (3, 0), (4, 0), (5, 0), (6, 1), (7, 0), (8, 0), (9, 0), (10, 0), (0, 2), (11, 0), (12, 0)] rfl mixed (by kernel_rfl) (by kernel_rfl) (by kernel_rfl) (fun w1 hS1 => ?_)
    replace hblk := hblk.up hS1
    replace hS := hS.trans hS1
    replace hX := fun b hb => Nat.lt_of_lt_of_le (hX b hb) hS1.size
    repeat' (first | refine D1 ?_ | (exfalso; omega) | refine WD_splitN rfl rfl rfl rfl (fun hg => ?_) (fun hg => ?_) | (refine WD_splitBN rfl rfl rfl rfl (fun hg => ?_) (fun hg => ?_) <;> refine D1 ?_) | fail)
    all_goals
      refine WD_eff rfl trivial (OE_buildSlice (vs := [(0, .int .i64 1)]) rfl (buildSI1 _)) (fun _ _ h => NewSl.stp h) rfl ?_
      rintro g wq hN
      have s_g : SlV X wq g [(1 : Int)] := hN.slv hX rfl rfl (by simp [maxLen])
      have hT := NewSl.stp hN
      clear hN
      replace hblk := hblk.up hT
      replace hS := hS.trans hT
      clear hT
      refine D ?_
      refine W ?_
      refine WQ_ret4 rfl rfl rfl rfl rfl ?_
      refine effPost heq ?_ (nilSlv _ _) (nilSlv _ _) (s_g) hS
      first | rfl | (simp only [decide_eq_decide]; omega) | (symm; simp only [decide_eq_false_iff_not]; omega) | (simp only [decide_eq_false_iff_not]; omega)
  by_cases h2 : x.op = 2
  · have heq : effF x = ([], [], [2], decide (x.n = 0 ∨ x.n = 1)) := by simp [effF, h2]
    repeat' (first | refine W1 ?_ | (exfalso; omega) | refine WL_split rfl rfl (fun hg => ?_) (fun hg => ?_) | refine WL_splitB rfl rfl (fun hg => ?_) (fun hg => ?_) | refine WC_cond rfl (fun hc => ?_) (fun hc => ?_) | refine WC_condB rfl (fun hc => ?_) (fun hc => ?_))
    refine WC_drawn 13 [] [] [(1, 0), (2, 1), (3, 0), (4, 0), (5, 0), (6, 1), (7, 0), (8, 0), (9, 0), (10, 0), (0, 2), (11, 0), (12, 0)] rfl mixed (by kernel_rfl) (by kernel_rfl) (by kernel_rfl) (fun w1 hS1 => ?_)
    replace hblk := hblk.up hS1
    replace hS := hS.trans hS1
    replace hX := fun b hb => Nat.lt_of_lt_of_le (hX b hb) hS1.size
    repeat' (first | refine D1 ?_ | (exfalso; omega) | refine WD_splitN rfl rfl rfl rfl (fun hg => ?_) (fun hg => ?_) | (refine WD_splitBN rfl rfl rfl rfl (fun hg => ?_) (fun hg => ?_) <;> refine D1 ?_) | fail)
    all_goals
      refine WD_eff rfl trivial (OE_buildSlice (vs := [(0, .int .i64 2)]) rfl (buildSI1 _)) (fun _ _ h => NewSl.stp h) rfl ?_
      rintro g wq hN
      have s_g : SlV X wq g [(2 : Int)] := hN.slv hX rfl rfl (by simp [maxLen])
      have hT := NewSl.stp hN
      clear hN
      replace hblk := hblk.up hT
      replace hS := hS.trans hT
      clear hT
      refine D ?_
      refine W ?_
      refine WQ_ret4 rfl rfl rfl rfl rfl ?_
      refine effPost heq ?_ (nilSlv _ _) (nilSlv _ _) (s_g) hS
      first | rfl | (simp only [decide_eq_decide]; omega) | (symm; simp only [decide_eq_true_eq]; omega) | (simp only [decide_eq_true_eq]; omega)
  by_cases h3 : x.op = 3
  · have heq : effF x = ([], [], [3], decide (0 ≤ x.n ∧ x.n ≤ 3652058)) := by simp [effF, h3]
    repeat' (first | refine W1 ?_ | (exfalso; omega) | refine WL_split rfl rfl (fun hg => ?_) (fun hg => ?_) | refine WL_splitB rfl rfl (fun hg => ?_) (fun hg => ?_) | refine WC_cond rfl (fun hc => ?_) (fun hc => ?_) | refine WC_condB rfl (fun hc => ?_) (fun hc => ?_))
    refine WC_drawn 13 [] [] [(1, 0), (2, 1), (3, 0), (4, 0), (5, 0), (6, 1), (7, 0), (8, 0), (9, 0), (10, 0), (0, 2), (11, 0), (12, 0)] rfl mixed (by kernel_rfl) (by kernel_rfl) (by kernel_rfl) (fun w1 hS1 => ?_)
    replace hblk := hblk.up hS1
    replace hS := hS.trans hS1
    replace hX := fun b hb => Nat.lt_of_lt_of_le (hX b hb) hS1.size
    repeat' (first | refine D1 ?_ | (exfalso; omega) | refine WD_splitN rfl rfl rfl rfl (fun hg => ?_) (fun hg => ?_) | (refine WD_splitBN rfl rfl rfl rfl (fun hg => ?_) (fun hg => ?_) <;> refine D1 ?_) | fail)
    all_goals
      refine WD_eff rfl trivial (OE_buildSlice (vs := [(0, .int .i64 3)]) rfl (buildSI1 _)) (fun _ _ h => NewSl.stp h) rfl ?_
      rintro g wq hN
      have s_g : SlV X wq g [(3 : Int)] := hN.slv hX rfl rfl (by simp [maxLen])
      have hT := NewSl.stp hN
      clear hN
      replace hblk := hblk.up hT
      replace hS := hS.trans hT
      clear hT
      refine D ?_
      refine W ?_
      refine WQ_ret4 rfl rfl rfl rfl rfl ?_
      refine effPost heq ?_ (nilSlv _ _) (nilSlv _ _) (s_g) hS
      first | rfl | (simp only [decide_eq_decide]; omega) | (symm; simp only [decide_eq_false_iff_not]; omega) | (simp only [decide_eq_false_iff_not]; omega)
  by_cases h4 : x.op = 4
  · by_cases h01 : x.n = 0 ∨ x.n = 1
    · have heq : effF x = ([], [], [3], decide (0 ≤ x.n ∧ x.n < 7)) := by simp [effF, h4, h01]
      repeat' (first | refine W1 ?_ | (exfalso; omega) | refine WL_split rfl rfl (fun hg => ?_) (fun hg => ?_) | refine WL_splitB rfl rfl (fun hg => ?_) (fun hg => ?_) | refine WC_cond rfl (fun hc => ?_) (fun hc => ?_) | refine WC_condB rfl (fun hc => ?_) (fun hc => ?_))
      all_goals
        refine WC_drawn 14 [] [] [(0, 0), (2, 0), (3, 1), (4, 0), (5, 0), (6, 0), (7, 1), (8, 0), (9, 0), (10, 0), (11, 0), (1, 2), (12, 0), (13, 0)] rfl mixed (by kernel_rfl) (by kernel_rfl) (by kernel_rfl) (fun w1 hS1 => ?_)
        replace hblk := hblk.up hS1
        replace hS := hS.trans hS1
        replace hX := fun b hb => Nat.lt_of_lt_of_le (hX b hb) hS1.size
        repeat' (first | refine D1 ?_ | (exfalso; omega) | refine WD_splitN rfl rfl rfl rfl (fun hg => ?_) (fun hg => ?_) | (refine WD_splitBN rfl rfl rfl rfl (fun hg => ?_) (fun hg => ?_) <;> refine D1 ?_) | fail)
        all_goals
          refine WD_eff rfl trivial (OE_buildSlice (vs := [(0, .int .i64 3)]) rfl (buildSI1 _)) (fun _ _ h => NewSl.stp h) rfl ?_
          rintro g wq hN
          have s_g : SlV X wq g [(3 : Int)] := hN.slv hX rfl rfl (by simp [maxLen])
          have hT := NewSl.stp hN
          clear hN
          replace hblk := hblk.up hT
          replace hS := hS.trans hT
          clear hT
          refine D ?_
          refine W ?_
          refine WQ_ret4 rfl rfl rfl rfl rfl ?_
          refine effPost heq ?_ (nilSlv _ _) (nilSlv _ _) (s_g) hS
          first | rfl | (simp only [decide_eq_decide]; omega) | (symm; simp only [decide_eq_true_eq, decide_eq_false_iff_not]; omega) | (simp only [decide_eq_true_eq, decide_eq_false_iff_not]; omega)
    · have heq : effF x = ([], [], [1], decide (0 ≤ x.n ∧ x.n < 7)) := by simp [effF, h4, h01]
      repeat' (first | refine W1 ?_ | (exfalso; omega) | refine WL_split rfl rfl (fun hg => ?_) (fun hg => ?_) | refine WL_splitB rfl rfl (fun hg => ?_) (fun hg => ?_) | refine WC_cond rfl (fun hc => ?_) (fun hc => ?_) | refine WC_condB rfl (fun hc => ?_) (fun hc => ?_))
      all_goals
        refine WC_drawn 14 [] [] [(0, 0), (2, 0), (3, 1), (4, 0), (5, 0), (6, 0), (7, 1), (8, 0), (9, 0), (10, 0), (11, 0), (1, 2), (12, 0), (13, 0)] rfl mixed (by kernel_rfl) (by kernel_rfl) (by kernel_rfl) (fun w1 hS1 => ?_)
        replace hblk := hblk.up hS1
        replace hS := hS.trans hS1
        replace hX := fun b hb => Nat.lt_of_lt_of_le (hX b hb) hS1.size
        repeat' (first | refine D1 ?_ | (exfalso; omega) | refine WD_splitN rfl rfl rfl rfl (fun hg => ?_) (fun hg => ?_) | (refine WD_splitBN rfl rfl rfl rfl (fun hg => ?_) (fun hg => ?_) <;> refine D1 ?_) | fail)
        all_goals
          refine WD_eff rfl trivial (OE_buildSlice (vs := [(0, .int .i64 1)]) rfl (buildSI1 _)) (fun _ _ h => NewSl.stp h) rfl ?_
          rintro g wq hN
          have s_g : SlV X wq g [(1 : Int)] := hN.slv hX rfl rfl (by simp [maxLen])
          have hT := NewSl.stp hN
          clear hN
          replace hblk := hblk.up hT
          replace hS := hS.trans hT
          clear hT
          refine D ?_
          refine W ?_
          refine WQ_ret4 rfl rfl rfl rfl rfl ?_
          refine effPost heq ?_ (nilSlv _ _) (nilSlv _ _) (s_g) hS
          first | rfl | (simp only [decide_eq_decide]; omega) | (symm; simp only [decide_eq_false_iff_not]; omega) | (simp only [decide_eq_false_iff_not]; omega)
  by_cases h13 : x.op = 13
  · have heq : effF x = ([], [], [], true) := by simp [effF, h13]
    repeat' (first | refine W1 ?_ | (exfalso; omega) | refine WL_split rfl rfl (fun hg => ?_) (fun hg => ?_) | refine WL_splitB rfl rfl (fun hg => ?_) (fun hg => ?_) | refine WC_cond rfl (fun hc => ?_) (fun hc => ?_) | refine WC_condB rfl (fun hc => ?_) (fun hc => ?_))
    refine WQ_ret4 rfl rfl rfl rfl rfl ?_
    refine effPost heq ?_ (nilSlv _ _) (nilSlv _ _) (nilSlv _ _) hS
    first | rfl | (simp only [decide_eq_decide]; omega) | (symm; simp only [decide_eq_true_eq, decide_eq_false_iff_not]; omega) | (simp only [decide_eq_true_eq, decide_eq_false_iff_not]; omega)
  by_cases h14 : x.op = 14
  · have heq : effF x = ([2], [], [], true) := by simp [effF, h14]
    repeat' (first | refine W1 ?_ | (exfalso; omega) | refine WL_split rfl rfl (fun hg => ?_) (fun hg => ?_) | refine WL_splitB rfl rfl (fun hg => ?_) (fun hg => ?_) | refine WC_cond rfl (fun hc => ?_) (fun hc => ?_) | refine WC_condB rfl (fun hc => ?_) (fun hc => ?_))
    refine WL_eff (OE_buildSlice (vs := [(0, .int .i64 2)]) rfl (buildSI1 _)) rfl ?_
    rintro t wq hN
    have s_t : SlV X wq t [(2 : Int)] := hN.slv hX rfl rfl (by simp [maxLen])
    have hT := NewSl.stp hN
    clear hN
    replace hblk := hblk.up hT
    replace hS := hS.trans hT
    replace hX := fun b hb => Nat.lt_of_lt_of_le (hX b hb) hT.size
    clear hT
    refine W ?_
    refine WQ_ret4 rfl rfl rfl rfl rfl ?_
    refine effPost heq ?_ (s_t) (nilSlv _ _) (nilSlv _ _) hS
    first | rfl | (simp only [decide_eq_decide]; omega) | (symm; simp only [decide_eq_true_eq, decide_eq_false_iff_not]; omega) | (simp only [decide_eq_true_eq, decide_eq_false_iff_not]; omega)
  by_cases h5 : x.op = 5 ∨ x.op = 6 ∨ x.op = 7
  · have heq : effF x = ([1, 1], [], [1], decide (x.n = 0)) := by rcases h5 with h | h | h <;> simp [effF, h]
    repeat' (first | refine W1 ?_ | (exfalso; omega) | refine WL_split rfl rfl (fun hg => ?_) (fun hg => ?_) | refine WL_splitB rfl rfl (fun hg => ?_) (fun hg => ?_) | refine WC_cond rfl (fun hc => ?_) (fun hc => ?_) | refine WC_condB rfl (fun hc => ?_) (fun hc => ?_))
    all_goals
      refine WL_eff (OE_buildSlice (vs := [(0, .int .i64 1), (1, .int .i64 1)]) rfl (buildSI2 _ _)) rfl ?_
      rintro t wq hN
      have s_t : SlV X wq t [(1 : Int), (1 : Int)] := hN.slv hX rfl rfl (by simp [maxLen])
      have hT := NewSl.stp hN
      clear hN
      replace hblk := hblk.up hT
      replace hS := hS.trans hT
      replace hX := fun b hb => Nat.lt_of_lt_of_le (hX b hb) hT.size
      clear hT
      refine WL_eff (OE_buildSlice (vs := [(0, .int .i64 1)]) rfl (buildSI1 _)) rfl ?_
      rintro g wq hN
      have s_g : SlV X wq g [(1 : Int)] := hN.slv hX rfl rfl (by simp [maxLen])
      have hT := NewSl.stp hN
      clear hN
      replace hblk := hblk.up hT
      replace hS := hS.trans hT
      replace hX := fun b hb => Nat.lt_of_lt_of_le (hX b hb) hT.size
      replace s_t := s_t.up hT
      clear hT
      refine W ?_
      refine WC_drawn 10 [] [] [(0, 0), (1, 0), (2, 0), (3, 0), (4, 1), (5, 0), (6, 0), (7, 0), (8, 0), (9, 0)] rfl mixed (by kernel_rfl) (by kernel_rfl) (by kernel_rfl) (fun w1 hS1 => ?_)
      replace hblk := hblk.up hS1
      replace hS := hS.trans hS1
      replace s_t := s_t.up hS1
      replace s_g := s_g.up hS1
      refine D ?_
      refine W ?_
      refine WQ_ret4 rfl rfl rfl rfl rfl ?_
      refine effPost heq ?_ (s_t) (nilSlv _ _) (s_g) hS
      first | rfl | (simp only [decide_eq_decide]; omega) | (symm; simp only [decide_eq_true_eq, decide_eq_false_iff_not]; omega) | (simp only [decide_eq_true_eq, decide_eq_false_iff_not]; omega)
  by_cases h8 : x.op = 8
  · have heq : effF x = ([1], [], [1], decide (x.n = 0)) := by simp [effF, h8]
    repeat' (first | refine W1 ?_ | (exfalso; omega) | refine WL_split rfl rfl (fun hg => ?_) (fun hg => ?_) | refine WL_splitB rfl rfl (fun hg => ?_) (fun hg => ?_) | refine WC_cond rfl (fun hc => ?_) (fun hc => ?_) | refine WC_condB rfl (fun hc => ?_) (fun hc => ?_))
    all_goals
      refine WL_eff (OE_buildSlice (vs := [(0, .int .i64 1)]) rfl (buildSI1 _)) rfl ?_
      rintro t wq hN
      have s_t : SlV X wq t [(1 : Int)] := hN.slv hX rfl rfl (by simp [maxLen])
      have hT := NewSl.stp hN
      clear hN
      replace hblk := hblk.up hT
      replace hS := hS.trans hT
      replace hX := fun b hb => Nat.lt_of_lt_of_le (hX b hb) hT.size
      clear hT
      refine WL_eff (OE_buildSlice (vs := [(0, .int .i64 1)]) rfl (buildSI1 _)) rfl ?_
      rintro g wq hN
      have s_g : SlV X wq g [(1 : Int)] := hN.slv hX rfl rfl (by simp [maxLen])
      have hT := NewSl.stp hN
      clear hN
      replace hblk := hblk.up hT
      replace hS := hS.trans hT
      replace hX := fun b hb => Nat.lt_of_lt_of_le (hX b hb) hT.size
      replace s_t := s_t.up hT
      clear hT
      refine W ?_
      refine WC_drawn 10 [] [] [(0, 0), (1, 0), (2, 0), (3, 0), (4, 1), (5, 0), (6, 0), (7, 0), (8, 0), (9, 0)] rfl mixed (by kernel_rfl) (by kernel_rfl) (by kernel_rfl) (fun w1 hS1 => ?_)
      replace hblk := hblk.up hS1
      replace hS := hS.trans hS1
      replace s_t := s_t.up hS1
      replace s_g := s_g.up hS1
      refine D ?_
      refine W ?_
      refine WQ_ret4 rfl rfl rfl rfl rfl ?_
      refine effPost heq ?_ (s_t) (nilSlv _ _) (s_g) hS
      first | rfl | (simp only [decide_eq_decide]; omega) | (symm; simp only [decide_eq_true_eq, decide_eq_false_iff_not]; omega) | (simp only [decide_eq_true_eq, decide_eq_false_iff_not]; omega)
  by_cases h9 : x.op = 9 ∨ x.op = 10 ∨ x.op = 11
  · have heq : effF x = ([1, 1], [3, 3], [2], decide (x.n = 0)) := by rcases h9 with h | h | h <;> simp [effF, h]
    repeat' (first | refine W1 ?_ | (exfalso; omega) | refine WL_split rfl rfl (fun hg => ?_) (fun hg => ?_) | refine WL_splitB rfl rfl (fun hg => ?_) (fun hg => ?_) | refine WC_cond rfl (fun hc => ?_) (fun hc => ?_) | refine WC_condB rfl (fun hc => ?_) (fun hc => ?_))
    all_goals
      refine WL_eff (OE_buildSlice (vs := [(0, .int .i64 1), (1, .int .i64 1)]) rfl (buildSI2 _ _)) rfl ?_
      rintro t wq hN
      have s_t : SlV X wq t [(1 : Int), (1 : Int)] := hN.slv hX rfl rfl (by simp [maxLen])
      have hT := NewSl.stp hN
      clear hN
      replace hblk := hblk.up hT
      replace hS := hS.trans hT
      replace hX := fun b hb => Nat.lt_of_lt_of_le (hX b hb) hT.size
      clear hT
      refine WL_eff (OE_buildSlice (vs := [(0, .int .i64 3), (1, .int .i64 3)]) rfl (buildSI2 _ _)) rfl ?_
      rintro a wq hN
      have s_a : SlV X wq a [(3 : Int), (3 : Int)] := hN.slv hX rfl rfl (by simp [maxLen])
      have hT := NewSl.stp hN
      clear hN
      replace hblk := hblk.up hT
      replace hS := hS.trans hT
      replace hX := fun b hb => Nat.lt_of_lt_of_le (hX b hb) hT.size
      replace s_t := s_t.up hT
      clear hT
      refine WL_eff (OE_buildSlice (vs := [(0, .int .i64 2)]) rfl (buildSI1 _)) rfl ?_
      rintro g wq hN
      have s_g : SlV X wq g [(2 : Int)] := hN.slv hX rfl rfl (by simp [maxLen])
      have hT := NewSl.stp hN
      clear hN
      replace hblk := hblk.up hT
      replace hS := hS.trans hT
      replace hX := fun b hb => Nat.lt_of_lt_of_le (hX b hb) hT.size
      replace s_t := s_t.up hT
      replace s_a := s_a.up hT
      clear hT
      refine W ?_
      refine WC_drawn 10 [] [] [(0, 0), (1, 0), (2, 0), (3, 0), (4, 1), (5, 0), (6, 0), (7, 0), (8, 0), (9, 0)] rfl mixed (by kernel_rfl) (by kernel_rfl) (by kernel_rfl) (fun w1 hS1 => ?_)
      replace hblk := hblk.up hS1
      replace hS := hS.trans hS1
      replace s_t := s_t.up hS1
      replace s_a := s_a.up hS1
      replace s_g := s_g.up hS1
      refine D ?_
      refine W ?_
      refine WQ_ret4 rfl rfl rfl rfl rfl ?_
      refine effPost heq ?_ (s_t) (s_a) (s_g) hS
      first | rfl | (simp only [decide_eq_decide]; omega) | (symm; simp only [decide_eq_true_eq, decide_eq_false_iff_not]; omega) | (simp only [decide_eq_true_eq, decide_eq_false_iff_not]; omega)
  by_cases h12 : x.op = 12
  · have heq : effF x = ([2], [], [2], decide (x.n = 0)) := by simp [effF, h12]
    repeat' (first | refine W1 ?_ | (exfalso; omega) | refine WL_split rfl rfl (fun hg => ?_) (fun hg => ?_) | refine WL_splitB rfl rfl (fun hg => ?_) (fun hg => ?_) | refine WC_cond rfl (fun hc => ?_) (fun hc => ?_) | refine WC_condB rfl (fun hc => ?_) (fun hc => ?_))
    all_goals
      refine WL_eff (OE_buildSlice (vs := [(0, .int .i64 2)]) rfl (buildSI1 _)) rfl ?_
      rintro t wq hN
      have s_t : SlV X wq t [(2 : Int)] := hN.slv hX rfl rfl (by simp [maxLen])
      have hT := NewSl.stp hN
      clear hN
      replace hblk := hblk.up hT
      replace hS := hS.trans hT
      replace hX := fun b hb => Nat.lt_of_lt_of_le (hX b hb) hT.size
      clear hT
      refine WL_eff (OE_buildSlice (vs := [(0, .int .i64 2)]) rfl (buildSI1 _)) rfl ?_
      rintro g wq hN
      have s_g : SlV X wq g [(2 : Int)] := hN.slv hX rfl rfl (by simp [maxLen])
      have hT := NewSl.stp hN
      clear hN
      replace hblk := hblk.up hT
      replace hS := hS.trans hT
      replace hX := fun b hb => Nat.lt_of_lt_of_le (hX b hb) hT.size
      replace s_t := s_t.up hT
      clear hT
      refine W ?_
      refine WC_drawn 10 [] [] [(0, 0), (1, 0), (2, 0), (3, 0), (4, 1), (5, 0), (6, 0), (7, 0), (8, 0), (9, 0)] rfl mixed (by kernel_rfl) (by kernel_rfl) (by kernel_rfl) (fun w1 hS1 => ?_)
      replace hblk := hblk.up hS1
      replace hS := hS.trans hS1
      replace s_t := s_t.up hS1
      replace s_g := s_g.up hS1
      refine D ?_
      refine W ?_
      refine WQ_ret4 rfl rfl rfl rfl rfl ?_
      refine effPost heq ?_ (s_t) (nilSlv _ _) (s_g) hS
      first | rfl | (simp only [decide_eq_decide]; omega) | (symm; simp only [decide_eq_true_eq, decide_eq_false_iff_not]; omega) | (simp only [decide_eq_true_eq, decide_eq_false_iff_not]; omega)
  by_cases h15 : x.op = 15 ∨ x.op = 16 ∨ x.op = 17 ∨ x.op = 18
  · have heq : effF x = ([3, 1], [], [3], decide (x.n = 0)) := by rcases h15 with h | h | h | h <;> simp [effF, h]
    repeat' (first | refine W1 ?_ | (exfalso; omega) | refine WL_split rfl rfl (fun hg => ?_) (fun hg => ?_) | refine WL_splitB rfl rfl (fun hg => ?_) (fun hg => ?_) | refine WC_cond rfl (fun hc => ?_) (fun hc => ?_) | refine WC_condB rfl (fun hc => ?_) (fun hc => ?_))
    all_goals
      refine WL_eff (OE_buildSlice (vs := [(0, .int .i64 3), (1, .int .i64 1)]) rfl (buildSI2 _ _)) rfl ?_
      rintro t wq hN
      have s_t : SlV X wq t [(3 : Int), (1 : Int)] := hN.slv hX rfl rfl (by simp [maxLen])
      have hT := NewSl.stp hN
      clear hN
      replace hblk := hblk.up hT
      replace hS := hS.trans hT
      replace hX := fun b hb => Nat.lt_of_lt_of_le (hX b hb) hT.size
      clear hT
      refine WL_eff (OE_buildSlice (vs := [(0, .int .i64 3)]) rfl (buildSI1 _)) rfl ?_
      rintro g wq hN
      have s_g : SlV X wq g [(3 : Int)] := hN.slv hX rfl rfl (by simp [maxLen])
      have hT := NewSl.stp hN
      clear hN
      replace hblk := hblk.up hT
      replace hS := hS.trans hT
      replace hX := fun b hb => Nat.lt_of_lt_of_le (hX b hb) hT.size
      replace s_t := s_t.up hT
      clear hT
      refine W ?_
      refine WC_drawn 10 [] [] [(0, 0), (1, 0), (2, 0), (3, 0), (4, 1), (5, 0), (6, 0), (7, 0), (8, 0), (9, 0)] rfl mixed (by kernel_rfl) (by kernel_rfl) (by kernel_rfl) (fun w1 hS1 => ?_)
      replace hblk := hblk.up hS1
      replace hS := hS.trans hS1
      replace s_t := s_t.up hS1
      replace s_g := s_g.up hS1
      refine D ?_
      refine W ?_
      refine WQ_ret4 rfl rfl rfl rfl rfl ?_
      refine effPost heq ?_ (s_t) (nilSlv _ _) (s_g) hS
      first | rfl | (simp only [decide_eq_decide]; omega) | (symm; simp only [decide_eq_true_eq, decide_eq_false_iff_not]; omega) | (simp only [decide_eq_true_eq, decide_eq_false_iff_not]; omega)
  by_cases h19 : x.op = 19 ∨ x.op = 20
  · have heq : effF x = ([3], [], [3], decide (x.n = 0)) := by rcases h19 with h | h <;> simp [effF, h]
    repeat' (first | refine W1 ?_ | (exfalso; omega) | refine WL_split rfl rfl (fun hg => ?_) (fun hg => ?_) | refine WL_splitB rfl rfl (fun hg => ?_) (fun hg => ?_) | refine WC_cond rfl (fun hc => ?_) (fun hc => ?_) | refine WC_condB rfl (fun hc => ?_) (fun hc => ?_))
    all_goals
      refine WL_eff (OE_buildSlice (vs := [(0, .int .i64 3)]) rfl (buildSI1 _)) rfl ?_
      rintro t wq hN
      have s_t : SlV X wq t [(3 : Int)] := hN.slv hX rfl rfl (by simp [maxLen])
      have hT := NewSl.stp hN
      clear hN
      replace hblk := hblk.up hT
      replace hS := hS.trans hT
      replace hX := fun b hb => Nat.lt_of_lt_of_le (hX b hb) hT.size
      clear hT
      refine WL_eff (OE_buildSlice (vs := [(0, .int .i64 3)]) rfl (buildSI1 _)) rfl ?_
      rintro g wq hN
      have s_g : SlV X wq g [(3 : Int)] := hN.slv hX rfl rfl (by simp [maxLen])
      have hT := NewSl.stp hN
      clear hN
      replace hblk := hblk.up hT
      replace hS := hS.trans hT
      replace hX := fun b hb => Nat.lt_of_lt_of_le (hX b hb) hT.size
      replace s_t := s_t.up hT
      clear hT
      refine W ?_
      refine WC_drawn 10 [] [] [(0, 0), (1, 0), (2, 0), (3, 0), (4, 1), (5, 0), (6, 0), (7, 0), (8, 0), (9, 0)] rfl mixed (by kernel_rfl) (by kernel_rfl) (by kernel_rfl) (fun w1 hS1 => ?_)
      replace hblk := hblk.up hS1
      replace hS := hS.trans hS1
      replace s_t := s_t.up hS1
      replace s_g := s_g.up hS1
      refine D ?_
      refine W ?_
      refine WQ_ret4 rfl rfl rfl rfl rfl ?_
      refine effPost heq ?_ (s_t) (nilSlv _ _) (s_g) hS
      first | rfl | (simp only [decide_eq_decide]; omega) | (symm; simp only [decide_eq_true_eq, decide_eq_false_iff_not]; omega) | (simp only [decide_eq_true_eq, decide_eq_false_iff_not]; omega)
  by_cases h21 : x.op = 21 ∨ x.op = 22
  · have heq : effF x = ([3, 3], [], [3], decide (x.n = 0)) := by rcases h21 with h | h <;> simp [effF, h]
    repeat' (first | refine W1 ?_ | (exfalso; omega) | refine WL_split rfl rfl (fun hg => ?_) (fun hg => ?_) | refine WL_splitB rfl rfl (fun hg => ?_) (fun hg => ?_) | refine WC_cond rfl (fun hc => ?_) (fun hc => ?_) | refine WC_condB rfl (fun hc => ?_) (fun hc => ?_))
    all_goals
      refine WL_eff (OE_buildSlice (vs := [(0, .int .i64 3), (1, .int .i64 3)]) rfl (buildSI2 _ _)) rfl ?_
      rintro t wq hN
      have s_t : SlV X wq t [(3 : Int), (3 : Int)] := hN.slv hX rfl rfl (by simp [maxLen])
      have hT := NewSl.stp hN
      clear hN
      replace hblk := hblk.up hT
      replace hS := hS.trans hT
      replace hX := fun b hb => Nat.lt_of_lt_of_le (hX b hb) hT.size
      clear hT
      refine WL_eff (OE_buildSlice (vs := [(0, .int .i64 3)]) rfl (buildSI1 _)) rfl ?_
      rintro g wq hN
      have s_g : SlV X wq g [(3 : Int)] := hN.slv hX rfl rfl (by simp [maxLen])
      have hT := NewSl.stp hN
      clear hN
      replace hblk := hblk.up hT
      replace hS := hS.trans hT
      replace hX := fun b hb => Nat.lt_of_lt_of_le (hX b hb) hT.size
      replace s_t := s_t.up hT
      clear hT
      refine W ?_
      refine WC_drawn 10 [] [] [(0, 0), (1, 0), (2, 0), (3, 0), (4, 1), (5, 0), (6, 0), (7, 0), (8, 0), (9, 0)] rfl mixed (by kernel_rfl) (by kernel_rfl) (by kernel_rfl) (fun w1 hS1 => ?_)
      replace hblk := hblk.up hS1
      replace hS := hS.trans hS1
      replace s_t := s_t.up hS1
      replace s_g := s_g.up hS1
      refine D ?_
      refine W ?_
      refine WQ_ret4 rfl rfl rfl rfl rfl ?_
      refine effPost heq ?_ (s_t) (nilSlv _ _) (s_g) hS
      first | rfl | (simp only [decide_eq_decide]; omega) | (symm; simp only [decide_eq_true_eq, decide_eq_false_iff_not]; omega) | (simp only [decide_eq_true_eq, decide_eq_false_iff_not]; omega)
  by_cases h23 : x.op = 23
  · have heq : effF x = ([3, 3], [], [1], decide (x.n = 0)) := by simp [effF, h23]
    repeat' (first | refine W1 ?_ | (exfalso; omega) | refine WL_split rfl rfl (fun hg => ?_) (fun hg => ?_) | refine WL_splitB rfl rfl (fun hg => ?_) (fun hg => ?_) | refine WC_cond rfl (fun hc => ?_) (fun hc => ?_) | refine WC_condB rfl (fun hc => ?_) (fun hc => ?_))
    all_goals
      refine WL_eff (OE_buildSlice (vs := [(0, .int .i64 3), (1, .int .i64 3)]) rfl (buildSI2 _ _)) rfl ?_
      rintro t wq hN
      have s_t : SlV X wq t [(3 : Int), (3 : Int)] := hN.slv hX rfl rfl (by simp [maxLen])
      have hT := NewSl.stp hN
      clear hN
      replace hblk := hblk.up hT
      replace hS := hS.trans hT
      replace hX := fun b hb => Nat.lt_of_lt_of_le (hX b hb) hT.size
      clear hT
      refine WL_eff (OE_buildSlice (vs := [(0, .int .i64 1)]) rfl (buildSI1 _)) rfl ?_
      rintro g wq hN
      have s_g : SlV X wq g [(1 : Int)] := hN.slv hX rfl rfl (by simp [maxLen])
      have hT := NewSl.stp hN
      clear hN
      replace hblk := hblk.up hT
      replace hS := hS.trans hT
      replace hX := fun b hb => Nat.lt_of_lt_of_le (hX b hb) hT.size
      replace s_t := s_t.up hT
      clear hT
      refine W ?_
      refine WC_drawn 10 [] [] [(0, 0), (1, 0), (2, 0), (3, 0), (4, 1), (5, 0), (6, 0), (7, 0), (8, 0), (9, 0)] rfl mixed (by kernel_rfl) (by kernel_rfl) (by kernel_rfl) (fun w1 hS1 => ?_)
      replace hblk := hblk.up hS1
      replace hS := hS.trans hS1
      replace s_t := s_t.up hS1
      replace s_g := s_g.up hS1
      refine D ?_
      refine W ?_
      refine WQ_ret4 rfl rfl rfl rfl rfl ?_
      refine effPost heq ?_ (s_t) (nilSlv _ _) (s_g) hS
      first | rfl | (simp only [decide_eq_decide]; omega) | (symm; simp only [decide_eq_true_eq, decide_eq_false_iff_not]; omega) | (simp only [decide_eq_true_eq, decide_eq_false_iff_not]; omega)
  by_cases h24 : x.op = 24
  · have heq : effF x = ([], [], [], decide (x.n = 0)) := by simp [effF, h24]
    repeat' (first | refine W1 ?_ | (exfalso; omega) | refine WL_split rfl rfl (fun hg => ?_) (fun hg => ?_) | refine WL_splitB rfl rfl (fun hg => ?_) (fun hg => ?_) | refine WC_cond rfl (fun hc => ?_) (fun hc => ?_) | refine WC_condB rfl (fun hc => ?_) (fun hc => ?_))
    refine WC_drawn 10 [] [] [(0, 0), (1, 0), (2, 0), (3, 0), (4, 1), (5, 0), (6, 0), (7, 0), (8, 0), (9, 0)] rfl mixed (by kernel_rfl) (by kernel_rfl) (by kernel_rfl) (fun w1 hS1 => ?_)
    replace hblk := hblk.up hS1
    replace hS := hS.trans hS1
    refine D ?_
    refine W ?_
    refine WQ_ret4 rfl rfl rfl rfl rfl ?_
    refine effPost heq ?_ (nilSlv _ _) (nilSlv _ _) (nilSlv _ _) hS
    first | rfl | (simp only [decide_eq_decide]; omega) | (symm; simp only [decide_eq_true_eq, decide_eq_false_iff_not]; omega) | (simp only [decide_eq_true_eq, decide_eq_false_iff_not]; omega)
  have heq : effF x = ([], [], [], false) := by simp [effF, h1, h2, h3, h4, h13, h14, h5, h8, h9, h12, h15, h19, h21, h23, h24]
  repeat' (first | refine W1 ?_ | (exfalso; omega) | refine WL_split rfl rfl (fun hg => ?_) (fun hg => ?_) | refine WL_splitB rfl rfl (fun hg => ?_) (fun hg => ?_) | refine WC_cond rfl (fun hc => ?_) (fun hc => ?_) | refine WC_condB rfl (fun hc => ?_) (fun hc => ?_))
  refine WQ_ret4 rfl rfl rfl rfl rfl ?_
  refine effPost heq ?_ (nilSlv _ _) (nilSlv _ _) (nilSlv _ _) hS
  first | rfl | (simp only [decide_eq_decide]; omega) | (symm; simp only [decide_eq_true_eq, decide_eq_false_iff_not]; omega) | (simp only [decide_eq_true_eq, decide_eq_false_iff_not]; omega)
end Go.Proofs.YtgpibcgebpgmiaaDoor


namespace Go.Eng
open Go
/-- a row of the reference's table: for which numbers, what it takes, what it gives -/
structure RwT where
  lo : Int
  hi : Int
  t : Str
  g : Str
instance : Flat RwT where
  k := 4
  enc := fun x => [.int .i64 x.lo, .int .i64 x.hi, str x.t, str x.g]
  len := fun _ => rfl
  one := by intro x u hu; simp at hu; rcases hu with rfl | rfl | rfl | rfl <;> rfl
end Go.Eng
namespace Go.Proofs.YtgpibcgebpgmiaaDoor
open Go Go.Eng Go.RowKit
set_option linter.unusedVariables false

theorem buildR4 (a b : Int) (s t : Str) (w : World) : (Instr.build 183 #[(0, .int .i64 a), (1, .int .i64 b), (2, str s), (3, str t)]).run Tryd.prog w = .ok (agg (RwT.mk a b s t)) w := by kernel_rfl
theorem buildSRw (x : RwT) (w : World) : (Instr.buildSlice 180 1 #[(0, agg x)]).run Tryd.prog w = .ok (.slice (some ⟨w.heap.size, 0, none⟩) 1 1) (w.alloc (.cells (Flat.enc x).toArray 183)) := by kernel_rfl
theorem buildSRw2 (x y : RwT) (w : World) : (Instr.buildSlice 180 2 #[(0, agg x), (1, agg y)]).run Tryd.prog w = .ok (.slice (some ⟨w.heap.size, 0, none⟩) 2 2) (w.alloc (.cells (Flat.enc x ++ Flat.enc y).toArray 183)) := by kernel_rfl
theorem buildSS7 (a b c d e f g : Str) (w : World) : (Instr.buildSlice 100 7 #[(0, str a), (1, str b), (2, str c), (3, str d), (4, str e), (5, str f), (6, str g)]).run Tryd.prog w = .ok (.slice (some ⟨w.heap.size, 0, none⟩) 7 7) (w.alloc (.cells #[str a, str b, str c, str d, str e, str f, str g] 9)) := by kernel_rfl
def fieldS : List Str := [[100], [100], [110], [110], [110], [110], [110]]
def rowsF (x : Ins) (a z : Nat) : List RwT :=
  if x.op = 1 then [⟨-2147483647, 2147483647, [], [110]⟩]
  else if x.op = 2 then [⟨0, 1, [], [98]⟩]
  else if x.op = 3 then [⟨0, 3652058, [], [100]⟩]
  else if x.op = 4 then (if 0 ≤ x.n ∧ x.n < 7 then [⟨0, 6, [], fieldS.getD x.n.toNat []⟩] else [])
  else if x.op = 5 ∨ x.op = 6 ∨ x.op = 7 then [⟨0, 0, [110, 110], [110]⟩]
  else if x.op = 8 then [⟨0, 0, [110], [110]⟩]
  else if x.op = 9 ∨ x.op = 10 ∨ x.op = 11 then [⟨0, 0, [110, 110], [98]⟩, ⟨0, 0, [100, 100], [98]⟩]
  else if x.op = 12 then [⟨0, 0, [98], [98]⟩]
  else if x.op = 13 then [⟨(a : Int) + 1, (z : Int) - 1, [], []⟩]
  else if x.op = 14 then [⟨(a : Int) + 1, (z : Int) - 1, [98], []⟩]
  else if x.op = 15 ∨ x.op = 16 ∨ x.op = 17 ∨ x.op = 18 then [⟨0, 0, [100, 110], [100]⟩]
  else if x.op = 19 ∨ x.op = 20 then [⟨0, 0, [100], [100]⟩]
  else if x.op = 21 ∨ x.op = 22 then [⟨0, 0, [100, 100], [100]⟩]
  else if x.op = 23 then [⟨0, 0, [100, 100], [110]⟩]
  else if x.op = 24 then [⟨0, 0, [], []⟩]
  else []
set_option maxHeartbeats 2000000 in
theorem rows_any (X : List Nat) (x : Ins) (a z : Nat) (w : World) (ha : a ≤ 100000) (hz : z ≤ 100000) (hX0 : ∀ b ∈ X, b < w.heap.size) :
    Calls Tryd.prog 131 #[agg x, .int .i64 (a : Int), .int .i64 (z : Int)] w (Ret fun r w' => SlV X w' r (rowsF x a z) ∧ Stp [] w w') := by
  refine calls_of_WC3 (n := 102) Tryd.func131 rfl rfl rfl ?_
  refine W ?_
  refine WL_eff (OE_box rfl) rfl ?_
  rintro _ w0 ⟨b, rfl, hb, hblk, hS⟩
  replace hblk : Blk w0 b _ [.int .i64 x.op, .int .i64 x.n] := hblk
  have hX : ∀ b ∈ X, b < w0.heap.size := fun b hb => Nat.lt_of_lt_of_le (hX0 b hb) hS.size
  refine W ?_
  refine WL_eff (OE_buildSlice (vs := [(0, str [100]), (1, str [100]), (2, str [110]), (3, str [110]), (4, str [110]), (5, str [110]), (6, str [110])]) rfl (buildSS7 _ _ _ _ _ _ _)) rfl ?_
  rintro fv w1 hN
  have s_f : SlV X w1 fv fieldS := hN.slv hX rfl rfl (by simp [fieldS, maxLen])
  have hT := NewSl.stp hN
  clear hN
  replace hblk := hblk.up hT
  replace hS := hS.trans hT
  replace hX := fun b hb => Nat.lt_of_lt_of_le (hX b hb) hT.size
  clear hT
  refine W ?_
  by_cases h1 : x.op = 1
  · have heq : rowsF x a z = [⟨-2147483647, 2147483647, [], [110]⟩] := by simp [rowsF, h1]
    repeat' (first | refine W1 ?_ | (exfalso; omega) | refine WL_split rfl rfl (fun hg => ?_) (fun hg => ?_) | refine WL_splitB rfl rfl (fun hg => ?_) (fun hg => ?_) | refine WC_cond rfl (fun hc => ?_) (fun hc => ?_) | refine WC_condB rfl (fun hc => ?_) (fun hc => ?_))
    all_goals
      refine W ?_
      apply WL_build (vs := [(0, .int .i64 _), (1, .int .i64 _), (2, str []), (3, str [110])]) rfl (buildR4 _ _ _ _) rfl
      refine WL_eff (OE_buildSlice (vs := [(0, agg (⟨-2147483647, 2147483647, [], [110]⟩ : RwT))]) rfl (buildSRw _)) rfl ?_
      rintro g wq hN
      have s_g : SlV X wq g [(⟨-2147483647, 2147483647, [], [110]⟩ : RwT)] := hN.slv hX rfl (by simp) (by simp [maxLen])
      have hT := NewSl.stp hN
      clear hN
      refine W ?_
      first | refine WQ_ret1 rfl rfl ?_ | refine WQ_ret2 rfl rfl rfl ?_ | refine WQ_ret3 rfl rfl rfl rfl ?_ | refine WQ_ret0 rfl ?_ | refine WQ_end0 rfl ?_
      refine .mk ⟨?_, hS.trans hT⟩
      rw [heq]
      exact s_g
  by_cases h2 : x.op = 2
  · have heq : rowsF x a z = [⟨0, 1, [], [98]⟩] := by simp [rowsF, h2]
    repeat' (first | refine W1 ?_ | (exfalso; omega) | refine WL_split rfl rfl (fun hg => ?_) (fun hg => ?_) | refine WL_splitB rfl rfl (fun hg => ?_) (fun hg => ?_) | refine WC_cond rfl (fun hc => ?_) (fun hc => ?_) | refine WC_condB rfl (fun hc => ?_) (fun hc => ?_))
    all_goals
      refine W ?_
      apply WL_build (vs := [(0, .int .i64 _), (1, .int .i64 _), (2, str []), (3, str [98])]) rfl (buildR4 _ _ _ _) rfl
      refine WL_eff (OE_buildSlice (vs := [(0, agg (⟨0, 1, [], [98]⟩ : RwT))]) rfl (buildSRw _)) rfl ?_
      rintro g wq hN
      have s_g : SlV X wq g [(⟨0, 1, [], [98]⟩ : RwT)] := hN.slv hX rfl (by simp) (by simp [maxLen])
      have hT := NewSl.stp hN
      clear hN
      refine W ?_
      first | refine WQ_ret1 rfl rfl ?_ | refine WQ_ret2 rfl rfl rfl ?_ | refine WQ_ret3 rfl rfl rfl rfl ?_ | refine WQ_ret0 rfl ?_ | refine WQ_end0 rfl ?_
      refine .mk ⟨?_, hS.trans hT⟩
      rw [heq]
      exact s_g
  by_cases h3 : x.op = 3
  · have heq : rowsF x a z = [⟨0, 3652058, [], [100]⟩] := by simp [rowsF, h3]
    repeat' (first | refine W1 ?_ | (exfalso; omega) | refine WL_split rfl rfl (fun hg => ?_) (fun hg => ?_) | refine WL_splitB rfl rfl (fun hg => ?_) (fun hg => ?_) | refine WC_cond rfl (fun hc => ?_) (fun hc => ?_) | refine WC_condB rfl (fun hc => ?_) (fun hc => ?_))
    all_goals
      refine W ?_
      apply WL_build (vs := [(0, .int .i64 _), (1, .int .i64 _), (2, str []), (3, str [100])]) rfl (buildR4 _ _ _ _) rfl
      refine WL_eff (OE_buildSlice (vs := [(0, agg (⟨0, 3652058, [], [100]⟩ : RwT))]) rfl (buildSRw _)) rfl ?_
      rintro g wq hN
      have s_g : SlV X wq g [(⟨0, 3652058, [], [100]⟩ : RwT)] := hN.slv hX rfl (by simp) (by simp [maxLen])
      have hT := NewSl.stp hN
      clear hN
      refine W ?_
      first | refine WQ_ret1 rfl rfl ?_ | refine WQ_ret2 rfl rfl rfl ?_ | refine WQ_ret3 rfl rfl rfl rfl ?_ | refine WQ_ret0 rfl ?_ | refine WQ_end0 rfl ?_
      refine .mk ⟨?_, hS.trans hT⟩
      rw [heq]
      exact s_g
  by_cases h4 : x.op = 4
  · by_cases hn : 0 ≤ x.n ∧ x.n < 7
    · have hlt : x.n.toNat < fieldS.length := by show x.n.toNat < 7; omega
      have hnn : x.n = (x.n.toNat : Int) := by omega
      have heq : rowsF x a z = [⟨0, 6, [], fieldS[x.n.toNat]⟩] := by
        unfold rowsF
        rw [if_neg h1, if_neg h2, if_neg h3, if_pos h4, if_pos hn]
        simp [List.getD, hlt]
      repeat' (first | refine W1 ?_ | (exfalso; omega) | refine WL_split rfl rfl (fun hg => ?_) (fun hg => ?_) | refine WL_splitB rfl rfl (fun hg => ?_) (fun hg => ?_) | refine WC_cond rfl (fun hc => ?_) (fun hc => ?_) | refine WC_condB rfl (fun hc => ?_) (fun hc => ?_))
      all_goals
        refine W ?_
        apply WL_build (vs := [(0, .int .i64 0), (1, .int .i64 6), (2, str []), (3, str _)]) rfl (buildR4 _ _ _ _) rfl
        refine WL_eff (OE_buildSlice (vs := [(0, agg (⟨0, 6, [], fieldS[x.n.toNat]⟩ : RwT))]) rfl (buildSRw _)) rfl ?_
        rintro g wq hN
        have s_g : SlV X wq g [(⟨0, 6, [], fieldS[x.n.toNat]⟩ : RwT)] := hN.slv hX rfl (by simp) (by simp [maxLen])
        have hT := NewSl.stp hN
        clear hN
        refine W ?_
        first | refine WQ_ret1 rfl rfl ?_ | refine WQ_ret2 rfl rfl rfl ?_ | refine WQ_ret3 rfl rfl rfl rfl ?_ | refine WQ_ret0 rfl ?_ | refine WQ_end0 rfl ?_
        refine .mk ⟨?_, hS.trans hT⟩
        rw [heq]
        exact s_g
    · have heq : rowsF x a z = [] := by
        unfold rowsF
        rw [if_neg h1, if_neg h2, if_neg h3, if_pos h4, if_neg hn]
      repeat' (first | refine W1 ?_ | (exfalso; omega) | refine WL_split rfl rfl (fun hg => ?_) (fun hg => ?_) | refine WL_splitB rfl rfl (fun hg => ?_) (fun hg => ?_) | refine WC_cond rfl (fun hc => ?_) (fun hc => ?_) | refine WC_condB rfl (fun hc => ?_) (fun hc => ?_))
      all_goals
        first | refine WQ_ret1 rfl rfl ?_ | refine WQ_ret2 rfl rfl rfl ?_ | refine WQ_ret3 rfl rfl rfl rfl ?_ | refine WQ_ret0 rfl ?_ | refine WQ_end0 rfl ?_
        refine .mk ⟨?_, hS⟩
        rw [heq]
        exact nilSlv _ _
  by_cases h5 : x.op = 5 ∨ x.op = 6 ∨ x.op = 7
  · have heq : rowsF x a z = [⟨0, 0, [110, 110], [110]⟩] := by rcases h5 with h | h | h <;> simp [rowsF, h]
    repeat' (first | refine W1 ?_ | (exfalso; omega) | refine WL_split rfl rfl (fun hg => ?_) (fun hg => ?_) | refine WL_splitB rfl rfl (fun hg => ?_) (fun hg => ?_) | refine WC_cond rfl (fun hc => ?_) (fun hc => ?_) | refine WC_condB rfl (fun hc => ?_) (fun hc => ?_))
    all_goals
      refine W ?_
      apply WL_build (vs := [(0, .int .i64 _), (1, .int .i64 _), (2, str [110, 110]), (3, str [110])]) rfl (buildR4 _ _ _ _) rfl
      refine WL_eff (OE_buildSlice (vs := [(0, agg (⟨0, 0, [110, 110], [110]⟩ : RwT))]) rfl (buildSRw _)) rfl ?_
      rintro g wq hN
      have s_g : SlV X wq g [(⟨0, 0, [110, 110], [110]⟩ : RwT)] := hN.slv hX rfl (by simp) (by simp [maxLen])
      have hT := NewSl.stp hN
      clear hN
      refine W ?_
      first | refine WQ_ret1 rfl rfl ?_ | refine WQ_ret2 rfl rfl rfl ?_ | refine WQ_ret3 rfl rfl rfl rfl ?_ | refine WQ_ret0 rfl ?_ | refine WQ_end0 rfl ?_
      refine .mk ⟨?_, hS.trans hT⟩
      rw [heq]
      exact s_g
  by_cases h8 : x.op = 8
  · have heq : rowsF x a z = [⟨0, 0, [110], [110]⟩] := by simp [rowsF, h8]
    repeat' (first | refine W1 ?_ | (exfalso; omega) | refine WL_split rfl rfl (fun hg => ?_) (fun hg => ?_) | refine WL_splitB rfl rfl (fun hg => ?_) (fun hg => ?_) | refine WC_cond rfl (fun hc => ?_) (fun hc => ?_) | refine WC_condB rfl (fun hc => ?_) (fun hc => ?_))
    all_goals
      refine W ?_
      apply WL_build (vs := [(0, .int .i64 _), (1, .int .i64 _), (2, str [110]), (3, str [110])]) rfl (buildR4 _ _ _ _) rfl
      refine WL_eff (OE_buildSlice (vs := [(0, agg (⟨0, 0, [110], [110]⟩ : RwT))]) rfl (buildSRw _)) rfl ?_
      rintro g wq hN
      have s_g : SlV X wq g [(⟨0, 0, [110], [110]⟩ : RwT)] := hN.slv hX rfl (by simp) (by simp [maxLen])
      have hT := NewSl.stp hN
      clear hN
      refine W ?_
      first | refine WQ_ret1 rfl rfl ?_ | refine WQ_ret2 rfl rfl rfl ?_ | refine WQ_ret3 rfl rfl rfl rfl ?_ | refine WQ_ret0 rfl ?_ | refine WQ_end0 rfl ?_
      refine .mk ⟨?_, hS.trans hT⟩
      rw [heq]
      exact s_g
  by_cases h9 : x.op = 9 ∨ x.op = 10 ∨ x.op = 11
  · have heq : rowsF x a z = [⟨0, 0, [110, 110], [98]⟩, ⟨0, 0, [100, 100], [98]⟩] := by rcases h9 with h | h | h <;> simp [rowsF, h]
    repeat' (first | refine W1 ?_ | (exfalso; omega) | refine WL_split rfl rfl (fun hg => ?_) (fun hg => ?_) | refine WL_splitB rfl rfl (fun hg => ?_) (fun hg => ?_) | refine WC_cond rfl (fun hc => ?_) (fun hc => ?_) | refine WC_condB rfl (fun hc => ?_) (fun hc => ?_))
    all_goals
      refine W ?_
      apply WL_build (vs := [(0, .int .i64 _), (1, .int .i64 _), (2, str [110, 110]), (3, str [98])]) rfl (buildR4 _ _ _ _) rfl
      refine W ?_
      apply WL_build (vs := [(0, .int .i64 _), (1, .int .i64 _), (2, str [100, 100]), (3, str [98])]) rfl (buildR4 _ _ _ _) rfl
      refine WL_eff (OE_buildSlice (vs := [(0, agg (⟨0, 0, [110, 110], [98]⟩ : RwT)), (1, agg (⟨0, 0, [100, 100], [98]⟩ : RwT))]) rfl (buildSRw2 _ _)) rfl ?_
      rintro g wq hN
      have s_g : SlV X wq g [(⟨0, 0, [110, 110], [98]⟩ : RwT), (⟨0, 0, [100, 100], [98]⟩ : RwT)] := hN.slv hX rfl (by simp) (by simp [maxLen])
      have hT := NewSl.stp hN
      clear hN
      refine W ?_
      first | refine WQ_ret1 rfl rfl ?_ | refine WQ_ret2 rfl rfl rfl ?_ | refine WQ_ret3 rfl rfl rfl rfl ?_ | refine WQ_ret0 rfl ?_ | refine WQ_end0 rfl ?_
      refine .mk ⟨?_, hS.trans hT⟩
      rw [heq]
      exact s_g
  by_cases h12 : x.op = 12
  · have heq : rowsF x a z = [⟨0, 0, [98], [98]⟩] := by simp [rowsF, h12]
    repeat' (first | refine W1 ?_ | (exfalso; omega) | refine WL_split rfl rfl (fun hg => ?_) (fun hg => ?_) | refine WL_splitB rfl rfl (fun hg => ?_) (fun hg => ?_) | refine WC_cond rfl (fun hc => ?_) (fun hc => ?_) | refine WC_condB rfl (fun hc => ?_) (fun hc => ?_))
    all_goals
      refine W ?_
      apply WL_build (vs := [(0, .int .i64 _), (1, .int .i64 _), (2, str [98]), (3, str [98])]) rfl (buildR4 _ _ _ _) rfl
      refine WL_eff (OE_buildSlice (vs := [(0, agg (⟨0, 0, [98], [98]⟩ : RwT))]) rfl (buildSRw _)) rfl ?_
      rintro g wq hN
      have s_g : SlV X wq g [(⟨0, 0, [98], [98]⟩ : RwT)] := hN.slv hX rfl (by simp) (by simp [maxLen])
      have hT := NewSl.stp hN
      clear hN
      refine W ?_
      first | refine WQ_ret1 rfl rfl ?_ | refine WQ_ret2 rfl rfl rfl ?_ | refine WQ_ret3 rfl rfl rfl rfl ?_ | refine WQ_ret0 rfl ?_ | refine WQ_end0 rfl ?_
      refine .mk ⟨?_, hS.trans hT⟩
      rw [heq]
      exact s_g
  by_cases h13 : x.op = 13
  · have heq : rowsF x a z = [⟨(a : Int) + 1, (z : Int) - 1, [], []⟩] := by simp [rowsF, h13]
    repeat' (first | refine W1 ?_ | (exfalso; omega) | refine WL_split rfl rfl (fun hg => ?_) (fun hg => ?_) | refine WL_splitB rfl rfl (fun hg => ?_) (fun hg => ?_) | refine WC_cond rfl (fun hc => ?_) (fun hc => ?_) | refine WC_condB rfl (fun hc => ?_) (fun hc => ?_))
    all_goals
      refine W ?_
      apply WL_build (vs := [(0, .int .i64 _), (1, .int .i64 _), (2, str []), (3, str [])]) rfl (buildR4 _ _ _ _) rfl
      refine WL_eff (OE_buildSlice (vs := [(0, agg (⟨(a : Int) + 1, (z : Int) - 1, [], []⟩ : RwT))]) rfl (buildSRw _)) rfl ?_
      rintro g wq hN
      have s_g : SlV X wq g [(⟨(a : Int) + 1, (z : Int) - 1, [], []⟩ : RwT)] := hN.slv hX rfl (by simp) (by simp [maxLen])
      have hT := NewSl.stp hN
      clear hN
      refine W ?_
      first | refine WQ_ret1 rfl rfl ?_ | refine WQ_ret2 rfl rfl rfl ?_ | refine WQ_ret3 rfl rfl rfl rfl ?_ | refine WQ_ret0 rfl ?_ | refine WQ_end0 rfl ?_
      refine .mk ⟨?_, hS.trans hT⟩
      rw [heq]
      exact s_g
  by_cases h14 : x.op = 14
  · have heq : rowsF x a z = [⟨(a : Int) + 1, (z : Int) - 1, [98], []⟩] := by simp [rowsF, h14]
    repeat' (first | refine W1 ?_ | (exfalso; omega) | refine WL_split rfl rfl (fun hg => ?_) (fun hg => ?_) | refine WL_splitB rfl rfl (fun hg => ?_) (fun hg => ?_) | refine WC_cond rfl (fun hc => ?_) (fun hc => ?_) | refine WC_condB rfl (fun hc => ?_) (fun hc => ?_))
    all_goals
      refine W ?_
      apply WL_build (vs := [(0, .int .i64 _), (1, .int .i64 _), (2, str [98]), (3, str [])]) rfl (buildR4 _ _ _ _) rfl
      refine WL_eff (OE_buildSlice (vs := [(0, agg (⟨(a : Int) + 1, (z : Int) - 1, [98], []⟩ : RwT))]) rfl (buildSRw _)) rfl ?_
      rintro g wq hN
      have s_g : SlV X wq g [(⟨(a : Int) + 1, (z : Int) - 1, [98], []⟩ : RwT)] := hN.slv hX rfl (by simp) (by simp [maxLen])
      have hT := NewSl.stp hN
      clear hN
      refine W ?_
      first | refine WQ_ret1 rfl rfl ?_ | refine WQ_ret2 rfl rfl rfl ?_ | refine WQ_ret3 rfl rfl rfl rfl ?_ | refine WQ_ret0 rfl ?_ | refine WQ_end0 rfl ?_
      refine .mk ⟨?_, hS.trans hT⟩
      rw [heq]
      exact s_g
  by_cases h15 : x.op = 15 ∨ x.op = 16 ∨ x.op = 17 ∨ x.op = 18
  · have heq : rowsF x a z = [⟨0, 0, [100, 110], [100]⟩] := by rcases h15 with h | h | h | h <;> simp [rowsF, h]
    repeat' (first | refine W1 ?_ | (exfalso; omega) | refine WL_split rfl rfl (fun hg => ?_) (fun hg => ?_) | refine WL_splitB rfl rfl (fun hg => ?_) (fun hg => ?_) | refine WC_cond rfl (fun hc => ?_) (fun hc => ?_) | refine WC_condB rfl (fun hc => ?_) (fun hc => ?_))
    all_goals
      refine W ?_
      apply WL_build (vs := [(0, .int .i64 _), (1, .int .i64 _), (2, str [100, 110]), (3, str [100])]) rfl (buildR4 _ _ _ _) rfl
      refine WL_eff (OE_buildSlice (vs := [(0, agg (⟨0, 0, [100, 110], [100]⟩ : RwT))]) rfl (buildSRw _)) rfl ?_
      rintro g wq hN
      have s_g : SlV X wq g [(⟨0, 0, [100, 110], [100]⟩ : RwT)] := hN.slv hX rfl (by simp) (by simp [maxLen])
      have hT := NewSl.stp hN
      clear hN
      refine W ?_
      first | refine WQ_ret1 rfl rfl ?_ | refine WQ_ret2 rfl rfl rfl ?_ | refine WQ_ret3 rfl rfl rfl rfl ?_ | refine WQ_ret0 rfl ?_ | refine WQ_end0 rfl ?_
      refine .mk ⟨?_, hS.trans hT⟩
      rw [heq]
      exact s_g
  by_cases h19 : x.op = 19 ∨ x.op = 20
  · have heq : rowsF x a z = [⟨0, 0, [100], [100]⟩] := by rcases h19 with h | h <;> simp [rowsF, h]
    repeat' (first | refine W1 ?_ | (exfalso; omega) | refine WL_split rfl rfl (fun hg => ?_) (fun hg => ?_) | refine WL_splitB rfl rfl (fun hg => ?_) (fun hg => ?_) | refine WC_cond rfl (fun hc => ?_) (fun hc => ?_) | refine WC_condB rfl (fun hc => ?_) (fun hc => ?_))
    all_goals
      refine W ?_
      apply WL_build (vs := [(0, .int .i64 _), (1, .int .i64 _), (2, str [100]), (3, str [100])]) rfl (buildR4 _ _ _ _) rfl
      refine WL_eff (OE_buildSlice (vs := [(0, agg (⟨0, 0, [100], [100]⟩ : RwT))]) rfl (buildSRw _)) rfl ?_
      rintro g wq hN
      have s_g : SlV X wq g [(⟨0, 0, [100], [100]⟩ : RwT)] := hN.slv hX rfl (by simp) (by simp [maxLen])
      have hT := NewSl.stp hN
      clear hN
      refine W ?_
      first | refine WQ_ret1 rfl rfl ?_ | refine WQ_ret2 rfl rfl rfl ?_ | refine WQ_ret3 rfl rfl rfl rfl ?_ | refine WQ_ret0 rfl ?_ | refine WQ_end0 rfl ?_
      refine .mk ⟨?_, hS.trans hT⟩
      rw [heq]
      exact s_g
  by_cases h21 : x.op = 21 ∨ x.op = 22
  · have heq : rowsF x a z = [⟨0, 0, [100, 100], [100]⟩] := by rcases h21 with h | h <;> simp [rowsF, h]
    repeat' (first | refine W1 ?_ | (exfalso; omega) | refine WL_split rfl rfl (fun hg => ?_) (fun hg => ?_) | refine WL_splitB rfl rfl (fun hg => ?_) (fun hg => ?_) | refine WC_cond rfl (fun hc => ?_) (fun hc => ?_) | refine WC_condB rfl (fun hc => ?_) (fun hc => ?_))
    all_goals
      refine W ?_
      apply WL_build (vs := [(0, .int .i64 _), (1, .int .i64 _), (2, str [100, 100]), (3, str [100])]) rfl (buildR4 _ _ _ _) rfl
      refine WL_eff (OE_buildSlice (vs := [(0, agg (⟨0, 0, [100, 100], [100]⟩ : RwT))]) rfl (buildSRw _)) rfl ?_
      rintro g wq hN
      have s_g : SlV X wq g [(⟨0, 0, [100, 100], [100]⟩ : RwT)] := hN.slv hX rfl (by simp) (by simp [maxLen])
      have hT := NewSl.stp hN
      clear hN
      refine W ?_
      first | refine WQ_ret1 rfl rfl ?_ | refine WQ_ret2 rfl rfl rfl ?_ | refine WQ_ret3 rfl rfl rfl rfl ?_ | refine WQ_ret0 rfl ?_ | refine WQ_end0 rfl ?_
      refine .mk ⟨?_, hS.trans hT⟩
      rw [heq]
      exact s_g
  by_cases h23 : x.op = 23
  · have heq : rowsF x a z = [⟨0, 0, [100, 100], [110]⟩] := by simp [rowsF, h23]
    repeat' (first | refine W1 ?_ | (exfalso; omega) | refine WL_split rfl rfl (fun hg => ?_) (fun hg => ?_) | refine WL_splitB rfl rfl (fun hg => ?_) (fun hg => ?_) | refine WC_cond rfl (fun hc => ?_) (fun hc => ?_) | refine WC_condB rfl (fun hc => ?_) (fun hc => ?_))
    all_goals
      refine W ?_
      apply WL_build (vs := [(0, .int .i64 _), (1, .int .i64 _), (2, str [100, 100]), (3, str [110])]) rfl (buildR4 _ _ _ _) rfl
      refine WL_eff (OE_buildSlice (vs := [(0, agg (⟨0, 0, [100, 100], [110]⟩ : RwT))]) rfl (buildSRw _)) rfl ?_
      rintro g wq hN
      have s_g : SlV X wq g [(⟨0, 0, [100, 100], [110]⟩ : RwT)] := hN.slv hX rfl (by simp) (by simp [maxLen])
      have hT := NewSl.stp hN
      clear hN
      refine W ?_
      first | refine WQ_ret1 rfl rfl ?_ | refine WQ_ret2 rfl rfl rfl ?_ | refine WQ_ret3 rfl rfl rfl rfl ?_ | refine WQ_ret0 rfl ?_ | refine WQ_end0 rfl ?_
      refine .mk ⟨?_, hS.trans hT⟩
      rw [heq]
      exact s_g
  by_cases h24 : x.op = 24
  · have heq : rowsF x a z = [⟨0, 0, [], []⟩] := by simp [rowsF, h24]
    repeat' (first | refine W1 ?_ | (exfalso; omega) | refine WL_split rfl rfl (fun hg => ?_) (fun hg => ?_) | refine WL_splitB rfl rfl (fun hg => ?_) (fun hg => ?_) | refine WC_cond rfl (fun hc => ?_) (fun hc => ?_) | refine WC_condB rfl (fun hc => ?_) (fun hc => ?_))
    all_goals
      refine W ?_
      apply WL_build (vs := [(0, .int .i64 _), (1, .int .i64 _), (2, str []), (3, str [])]) rfl (buildR4 _ _ _ _) rfl
      refine WL_eff (OE_buildSlice (vs := [(0, agg (⟨0, 0, [], []⟩ : RwT))]) rfl (buildSRw _)) rfl ?_
      rintro g wq hN
      have s_g : SlV X wq g [(⟨0, 0, [], []⟩ : RwT)] := hN.slv hX rfl (by simp) (by simp [maxLen])
      have hT := NewSl.stp hN
      clear hN
      refine W ?_
      first | refine WQ_ret1 rfl rfl ?_ | refine WQ_ret2 rfl rfl rfl ?_ | refine WQ_ret3 rfl rfl rfl rfl ?_ | refine WQ_ret0 rfl ?_ | refine WQ_end0 rfl ?_
      refine .mk ⟨?_, hS.trans hT⟩
      rw [heq]
      exact s_g
  have heq : rowsF x a z = [] := by simp [rowsF, h1, h2, h3, h4, h5, h8, h9, h12, h13, h14, h15, h19, h21, h23, h24]
  repeat' (first | refine W1 ?_ | (exfalso; omega) | refine WL_split rfl rfl (fun hg => ?_) (fun hg => ?_) | refine WL_splitB rfl rfl (fun hg => ?_) (fun hg => ?_) | refine WC_cond rfl (fun hc => ?_) (fun hc => ?_) | refine WC_condB rfl (fun hc => ?_) (fun hc => ?_))
  first | refine WQ_ret1 rfl rfl ?_ | refine WQ_ret2 rfl rfl rfl ?_ | refine WQ_ret3 rfl rfl rfl rfl ?_ | refine WQ_ret0 rfl ?_ | refine WQ_end0 rfl ?_
  refine .mk ⟨?_, hS⟩
  rw [heq]
  exact nilSlv _ _
end Go.Proofs.YtgpibcgebpgmiaaDoor


namespace Go.Proofs.YtgpibcgebpgmiaaDoor
open Go Go.Eng Go.RowKit
set_option linter.unusedVariables false

theorem field15_any (s : Str) (w : World) : Calls Tryd.prog 60 #[str s] w (Ret fun r w' => (∀ X, NdV X w' r (.mk 4 0 s [])) ∧ Stp [] w w') := by
  refine calls_of_WC1 (n := 5) Tryd.func60 rfl rfl rfl ?_
  refine W ?_
  refine WL_eff OE_alloc rfl ?_
  rintro _ w1 ⟨b, rfl, hb, hblk, hS⟩
  refine W ?_
  apply WL_build (vs := [(0, .int .i64 4), (2, str s)]) rfl (buildN02 _ _) rfl
  refine WL_eff0 (OE_storeA (us := ndC (.mk 4 0 s []) (.slice none 0 0)) rfl rfl rfl rfl (ndC_one (x := .mk 4 0 s []) (nilSlv (α := Nd) [] w)) hblk rfl) ?_
  rintro _ w2 ⟨hS2, hblk2⟩
  refine W ?_
  refine WQ_retc rfl rfl rfl hblk2 rfl ?_
  exact .mk ⟨fun X => ⟨_, rfl, nilSlv _ _⟩, hS.own hS2 (fun c hc => .inr (by simp at hc; omega))⟩
theorem number15_any (n : Int) (w : World) : Calls Tryd.prog 61 #[.int .i64 n] w (Ret fun r w' => (∀ X, NdV X w' r (.mk 1 n [] [])) ∧ Stp [] w w') := by
  refine calls_of_WC1 (n := 5) Tryd.func61 rfl rfl rfl ?_
  refine W ?_
  refine WL_eff OE_alloc rfl ?_
  rintro _ w1 ⟨b, rfl, hb, hblk, hS⟩
  refine W ?_
  apply WL_build (vs := [(0, .int .i64 1), (1, .int .i64 n)]) rfl (buildN01 _ _) rfl
  refine WL_eff0 (OE_storeA (us := ndC (.mk 1 n [] []) (.slice none 0 0)) rfl rfl rfl rfl (ndC_one (x := .mk 1 n [] []) (nilSlv (α := Nd) [] w)) hblk rfl) ?_
  rintro _ w2 ⟨hS2, hblk2⟩
  refine W ?_
  refine WQ_retc rfl rfl rfl hblk2 rfl ?_
  exact .mk ⟨fun X => ⟨_, rfl, nilSlv _ _⟩, hS.own hS2 (fun c hc => .inr (by simp at hc; omega))⟩
theorem binary15_any (X : List Nat) (s : Str) (u0 u1 : Value) (y0 y1 : Nd) (w : World) (hX0 : ∀ b ∈ X, b < w.heap.size) (h0 : NdV X w u0 y0) (h1 : NdV X w u1 y1) :
    Calls Tryd.prog 62 #[str s, u0, u1] w (Ret fun r w' => NdV X w' r (.mk 6 0 s [y0, y1]) ∧ Stp [] w w') := by
  obtain ⟨k0, rfl, s0⟩ := h0
  obtain ⟨k1, rfl, s1⟩ := h1
  obtain ⟨p0, c0, rfl, -⟩ := id s0
  obtain ⟨p1, c1, rfl, -⟩ := id s1
  refine calls_of_WC3 (n := 12) Tryd.func62 rfl rfl rfl ?_
  refine W ?_
  refine WL_eff (OE_box rfl) rfl ?_
  rintro _ w1 ⟨b1, rfl, hb1, e1, hS1⟩
  replace e1 : Blk w1 b1 _ (ndC y0 (.slice p0 y0.kids.length c0)) := e1
  refine WL_eff (OE_box rfl) rfl ?_
  rintro _ w2 ⟨b2, rfl, hb2, e2, hS2⟩
  replace e2 : Blk w2 b2 _ (ndC y1 (.slice p1 y1.kids.length c1)) := e2
  replace e1 := e1.up hS2
  have hS := hS1.trans hS2
  clear hS1 hS2
  refine WL_eff OE_alloc rfl ?_
  rintro _ w3 ⟨b, rfl, hb, hblk, hS3⟩
  replace e1 := e1.up hS3
  replace e2 := e2.up hS3
  have hz := hS.size
  replace hS := hS.trans hS3
  have hw : ∀ c ∈ b :: X, c ∈ X ∨ w.heap.size ≤ c := fun c hc => by
    rcases List.mem_cons.1 hc with rfl | h
    · right; omega
    · exact .inl h
  replace s0 := s0.ext hS (by simp) hw
  replace s1 := s1.ext hS (by simp) hw
  have hX : ∀ c ∈ b :: X, c < w3.heap.size := fun c hc => by
    rcases List.mem_cons.1 hc with rfl | h
    · exact hblk.lt
    · exact Nat.lt_of_lt_of_le (hX0 c h) hS.size
  refine W ?_
  refine WL_eff (OE_buildSlice (vs := [(0, .agg #[.int .i64 y0.kind, .int .i64 y0.num, str y0.word, .slice p0 y0.kids.length c0]), (1, .agg #[.int .i64 y1.kind, .int .i64 y1.num, str y1.word, .slice p1 y1.kids.length c1])]) rfl (buildSN2 _ _ _ _ _ _ _ _ _ _ _ _)) rfl ?_
  rintro bv w4 hN
  have hbv : SlV (b :: X) w4 bv [y0, y1] := hN.slvG (css := [ndC y0 _, ndC y1 _]) hX rfl rfl rfl (reps2 s0 s1) (by simp [maxLen])
  have hT := NewSl.stp hN
  clear hN
  replace hblk := hblk.up hT
  replace hS := hS.trans hT
  obtain ⟨p, c, rfl, -⟩ := id hbv
  apply WL_build (vs := [(0, .int .i64 6), (2, str s), (3, .slice p 2 c)]) rfl (buildN023 _ _ _ _ _) rfl
  have hlt := hblk.lt
  refine WL_eff0 (OE_storeA (us := ndC (.mk 6 0 s [y0, y1]) (.slice p 2 c)) rfl rfl rfl rfl (ndC_one (x := .mk 6 0 s [y0, y1]) hbv) hblk rfl) ?_
  rintro _ w5 ⟨hS5, hblk5⟩
  refine W ?_
  refine WQ_retc rfl rfl rfl hblk5 rfl ?_
  refine .mk ⟨⟨_, rfl, ?_⟩, hS.own hS5 (fun c hc => .inr (by simp at hc; omega))⟩
  exact (hbv.ext (X' := b :: X) hS5 (by simp) (fun _ h => .inl h)).wk (fun c hc => List.mem_cons_of_mem _ hc)
end Go.Proofs.YtgpibcgebpgmiaaDoor


namespace Go.Proofs.YtgpibcgebpgmiaaDoor
open Go Go.Eng Go.RowKit
set_option linter.unusedVariables false

/-! ### what both verifiers compute -/
abbrev Shp := List Int
/-- the shape behind an operation -/
def nextM (x : Ins) (s : Shp) : Option Shp :=
  let e := effF x
  let k := s.length - e.1.length
  if e.2.2.2 = true ∧ e.1.length ≤ s.length ∧ (s.drop k = e.1 ∨ e.2.1 ≠ [] ∧ s.drop k = e.2.1) ∧ (s.take k ++ e.2.2.1).length ≤ 16 then some (s.take k ++ e.2.2.1) else none
/-- a place is reached with a shape -/
def reachM (st : List (Option Shp)) (t : Int) (sh : Shp) : Option (List (Option Shp)) :=
  if 0 ≤ t ∧ t < st.length then
    match st.getD t.toNat none with
    | some s => if s = sh then some st else none
    | none => some (st.set t.toNat (some sh))
  else none
/-- one step; none: the code is bad -/
def stepM (st : List (Option Shp)) (i : Nat) (x : Ins) : Option (List (Option Shp)) :=
  match st.getD i none with
  | none => none
  | some s =>
    match nextM x s with
    | none => none
    | some nx =>
      if x.op = 24 then (if i + 1 = st.length ∧ s.length = 1 then some st else none)
      else if x.op = 13 then (if x.n > i then reachM st x.n nx else none)
      else if x.op = 14 then (if x.n > i then (reachM st x.n nx).bind (fun st' => reachM st' ((i : Int) + 1) nx) else none)
      else reachM st ((i : Int) + 1) nx
def runM (code : List Ins) : Nat → List (Option Shp) → Option (List (Option Shp))
  | 0, st => some st
  | k + 1, st => (runM code k st).bind (fun st' => stepM st' k (code.getD k ⟨0, 0⟩))
/-- the kind and the error of a code -/
def verM (code : List Ins) : Int × Int :=
  if code.length = 0 ∨ code.length > 200 then (0, 22) else
    match runM code code.length ((some []) :: List.replicate (code.length - 1) none) with
    | none => (0, 22)
    | some st => (((st.getD (code.length - 1) none).getD []).headD 0, 0)
theorem reachM_len {st st' : List (Option Shp)} {t : Int} {sh : Shp} (h : reachM st t sh = some st') : st'.length = st.length := by
  unfold reachM at h
  split at h
  · split at h
    · split at h
      · cases h; rfl
      · cases h
    · cases h; simp
  · cases h
example : verM [⟨4, 0⟩, ⟨1, 3⟩, ⟨15, 0⟩, ⟨24, 0⟩] = (3, 0) := by decide
example : verM [⟨24, 0⟩] = (0, 22) := by decide
end Go.Proofs.YtgpibcgebpgmiaaDoor


/-
A new slice of zeros, one cell to an element.
-/
namespace Go.Eng
open Go Go.RowKit Go.Proofs
set_option linter.unusedVariables false
variable {P : Program} {n : Nat} {e : Env} {w : World} {d : Option Nat} {ty : TypeId} {pos : String} {af : Array Edge} {g : Option (Nat × Bool)}
theorem flatten_replicate_one (k : Nat) (u : Value) : (List.replicate k [u]).flatten = List.replicate k u := by
  induction k with
  | zero => rfl
  | succ k ih => rw [List.replicate_succ, List.flatten_cons, ih]; rfl
theorem OE_makeSlice1 {α : Type} [GoRep α] {t T bytes k : Nat} {x y : Operand} {z u : Value} {a0 : α} [ht : Und P t (.slice T)] [hk : Siz P T 1] [hb : Byt P T bytes] [hz : Zer P T z] (hk1 : GoRep.k α = 1) (hzu : z.cells = #[u]) (hrep : ∀ (X : List Nat) (w : World), GoRep.rep X w a0 [u])
    (hx : ev e x = some (.int .i64 (k : Int))) (hy : ev e y = some (.int .i64 (k : Int))) (hkm : k ≤ maxLen) (hbytes : bytes * k ≤ 281474976710656) :
    OE P n ⟨d, .makeSlice t x y, ty, pos, af, g⟩ e w (fun v w' => (∀ X, Row X w' w.heap.size T v (List.replicate k a0)) ∧ Stp [] w w') := by
  obtain ⟨i, hi, hi1, hi2, hi3⟩ : ∃ i, P.info? T = some i ∧ i.size = 1 ∧ i.bytes = bytes ∧ i.zero = some z := by
    have a1 := hk.h
    have a2 := hb.h
    have a3 := hz.h
    cases hi : P.info? T with
    | none => simp [hi] at a1
    | some i => exact ⟨i, rfl, by simpa [hi] using a1, by simpa [hi] using a2, by simpa [hi] using a3⟩
  obtain ⟨w', hrun, hown, hgr⟩ := run_make_full (P := P) w w.heap.size t T i z 1 ht.h hi hi3 hi1 .i64 .i64 k (by rw [hi2]; exact hbytes) hkm (Nat.le_refl _)
  rw [hzu, Nat.mul_one, toList_madeCells_one] at hown
  refine OE_value (v := .slice (some ⟨w.heap.size, 0, none⟩) k k) (w' := w') (fun a ha => ?_) ⟨fun X => ⟨List.replicate k [u], by simp, fun j hj hj' => ?_, ?_⟩, Stp.of_grown hgr⟩
  · simp [execOp, ha.ev hx, ha.ev hy, hrun]
  · rw [List.getElem_replicate, List.getElem_replicate]
    exact hrep _ _
  · rw [flatten_replicate_one, hk1, List.length_replicate]
    exact hown
end Go.Eng


/-
An element of a row is written: the other blocks may lie anywhere.
-/
namespace Go.Eng
open Go Go.RowKit Go.Proofs
set_option linter.unusedVariables false
section
variable {P : Program} {n : Nat} {e : Env} {d : Option Nat} {ty : TypeId} {pos : String} {af : Array Edge} {g : Option (Nat × Bool)}
variable {α : Type} [GoRep α] {X : List Nat} {w w' : World} {base T : Nat} {v : Value} {xs : List α}
theorem OE_storeElX {i k : Nat} {t : TypeId} {x y : Operand} {u : Value} {y' : α} [hsz : Siz P t k] (hx : ev e x = some (.pointer (some (elAddr v i k 0)))) (hy : ev e y = some u) (hk : k = GoRep.k α)
    (hr' : GoRep.rep (ob v ++ X) w y' u.cells.toList) (hrow : Row X w base T v xs) (hi : i < xs.length) :
    OE P n ⟨d, .store t x y, ty, pos, af, g⟩ e w (fun _ w' => Row X w' base T v (xs.set i y') ∧ Stp (ob v) w w') := by
  have hrow0 := hrow
  obtain ⟨css, hl, hr, ho⟩ := hrow
  have hlen : ∀ c ∈ css, c.length = GoRep.k α := by
    intro c hc
    obtain ⟨q, hq, rfl⟩ := List.getElem_of_mem hc
    exact GoRep.len (hr q (by omega) hq)
  rcases ho.2 with ⟨rfl, hn⟩ | ⟨q, cap, cur, rfl, hb, hg, hnc, hcm, hcs, ht⟩
  · omega
  · subst hk
    have hul : u.cells.toList.length = GoRep.k α := GoRep.len hr'
    have hfit : i * GoRep.k α + u.cells.toList.length ≤ cur.size := by
      rw [hul, hcs, ← Nat.succ_mul]
      exact Nat.mul_le_mul_right _ (by omega)
    have hst := run_storeCells_at P q (i * GoRep.k α) T u.cells.toList 0 cur w hg (by simpa using hfit) (GoRep.one hr')
    simp only [Nat.add_zero] at hst
    have hus : u.cells.size = GoRep.k α := by simpa using hul
    have hSt : Stp [q] w (w.setRow q (cur.toList.take (i * GoRep.k α) ++ u.cells.toList ++ cur.toList.drop (i * GoRep.k α + u.cells.toList.length)).toArray) := setRow_stp _ _ _
    refine OE_skip (w' := w.setRow q (cur.toList.take (i * GoRep.k α) ++ u.cells.toList ++ cur.toList.drop (i * GoRep.k α + u.cells.toList.length)).toArray) (fun a ha => ?_) ⟨⟨css.set i u.cells.toList, by simp [hl], fun j hj hj' => ?_, ?_, .inr ⟨q, cap, _, by simp, hb, setRow_heap w q cur _ T (0, 0) hg, by simpa using hnc, hcm, ?_, ?_⟩⟩, hSt⟩
    · have hel : elAddr (.slice (some ⟨q, 0, none⟩) xs.length cap) i (GoRep.k α) 0 = ⟨q, i * GoRep.k α, none⟩ := by simp [elAddr]
      rw [hel] at hx
      simp [execOp, ha.ev hx, ha.ev hy, Instr.storeAt, Instr.sureAddr, storeVar, Siz.run, hus, hst]
    · have hS1 : ∀ b ∈ [q], b ∈ ob (.slice (some ⟨q, 0, none⟩) xs.length cap) ++ X := by simp [ob]
      by_cases hij : i = j
      · subst hij
        simp only [List.getElem_set_self]
        exact GoRep.ext hr' hSt hS1 (fun b hb => .inl hb)
      · simp only [List.getElem_set_ne hij]
        exact GoRep.ext (hr j (by simpa using hj) (by simpa using hj')) hSt hS1 (fun b hb => .inl hb)
    · rw [flatten_set css hlen i (by omega)]
      have h1 := ho.1
      simp only [List.length_append, List.length_take, List.length_drop, List.length_set, hul, h1]
      have : (i + 1) * GoRep.k α ≤ xs.length * GoRep.k α := Nat.mul_le_mul_right _ (by omega)
      rw [Nat.succ_mul] at this
      omega
    · simp only [List.size_toArray, List.length_append, List.length_take, List.length_drop, Array.length_toList, hul, hcs]
      rw [hul, hcs] at hfit
      omega
    · rw [flatten_set css hlen i (by omega), ← ht]
      have h2 : (i + 1) * GoRep.k α ≤ xs.length * GoRep.k α := Nat.mul_le_mul_right _ (by omega)
      rw [Nat.succ_mul] at h2
      have h3 : i * GoRep.k α ≤ cur.toList.length := by simp [hcs]; exact Nat.le_trans (by omega) (Nat.mul_le_mul_right _ hnc)
      simp only [List.length_set, hul]
      rw [List.take_append, List.take_append, List.take_take, List.take_take, List.drop_take]
      simp only [List.length_append, List.length_take, hul]
      rw [Nat.min_eq_left h3, List.take_of_length_le (l := u.cells.toList) (by rw [hul]; omega)]
      rw [Nat.min_eq_right (by omega : i * GoRep.k α ≤ xs.length * GoRep.k α), Nat.min_eq_left (by omega : i * GoRep.k α ≤ xs.length * GoRep.k α)]

end
end Go.Eng


namespace Go.Eng
open Go Go.RowKit Go.Proofs
theorem Row.slvX {α : Type} [GoRep α] {X : List Nat} {w : World} {base T : Nat} {v : Value} {xs : List α} (h : Row X w base T v xs) (hX : ∀ b ∈ X, b ∉ ob v) : SlV X w v xs := by
  obtain ⟨css, hl, hr, ho⟩ := h
  have hk : ∀ c ∈ css, c.length = GoRep.k α := by
    intro c hc
    obtain ⟨i, hi, rfl⟩ := List.getElem_of_mem hc
    exact GoRep.len (hr i (by omega) hi)
  rcases ho.2 with ⟨rfl, hn⟩ | ⟨q, cap, cur, rfl, hb, hg, hnc, hcm, hcs, ht⟩
  · exact ⟨none, 0, by rw [hn], by omega, by simp [maxLen], fun _ => rfl, fun i hi => by omega⟩
  · refine ⟨some ⟨q, 0, none⟩, cap, rfl, hnc, hcm, fun h => by simp at h, fun i hi => ?_⟩
    refine ⟨q, 0, css[i]'(by omega), rfl, (Array.getElem?_eq_some_iff.1 hg).1, fun hx => hX q hx (by simp [ob]), ?_, fun j u hu => ?_⟩
    · exact GoRep.ext (hr i hi (by omega)) (Stp.refl [] w) (by simp) (fun b hb => .inl (by simp [hb]))
    · have h1 := flatten_at css hk i (by omega) j u hu
      rw [← ht, List.getElem?_take] at h1
      split at h1
      · have h2 : cur[i * GoRep.k α + j]? = some u := by simpa using h1
        rw [Nat.zero_add, cell_of_row w q _ cur T (0, 0) hg]
        exact h2
      · cases h1
end Go.Eng
namespace Go.Proofs.YtgpibcgebpgmiaaDoor
open Go Go.Eng Go.RowKit
set_option linter.unusedVariables false

abbrev shpS (st : List (Option Shp)) : List (Sl Int) := st.map (fun o => ⟨o.getD []⟩)
abbrev seenS (st : List (Option Shp)) : List Bool := st.map Option.isSome
/-- a verifier at work -/
structure Vf (w : World) (bv base : Nat) (cv hv sv : Value) (code : List Ins) (st : List (Option Shp)) : Prop where
  blk : Blk w bv 112 [cv, hv, sv]
  cod : SlV (bv :: (ob hv ++ ob sv)) w cv code
  shp : Row (bv :: ob sv) w base 22 hv (shpS st)
  seen : Row [] w base 4 sv (seenS st)
  nh : bv ∉ ob hv
  ns : bv ∉ ob sv
  hi : base ≤ w.heap.size
  apart : ∀ b ∈ ob hv, b ∉ ob sv
  len : st.length = code.length
theorem Vf.up {w w' : World} {bv base : Nat} {cv hv sv : Value} {code : List Ins} {st : List (Option Shp)} (h : Vf w bv base cv hv sv code st) (hS : Stp [] w w') : Vf w' bv base cv hv sv code st :=
  ⟨h.blk.up hS, h.cod.up hS, h.shp.up hS, h.seen.up hS, h.nh, h.ns, Nat.le_trans h.hi hS.size, h.apart, h.len⟩
theorem reach_any (bv base : Nat) (cv hv sv uv : Value) (code : List Ins) (st : List (Option Shp)) (t : Int) (s : Shp) (w : World) (h : Vf w bv base cv hv sv code st) (ht : 0 ≤ t) (hs : SlV (bv :: (ob hv ++ ob sv)) w uv s) :
    Calls Tryd.prog 99 #[.pointer (some ⟨bv, 0, none⟩), .int .i64 t, uv] w (Ret fun r w' => Stp (bv :: (ob hv ++ ob sv)) w w' ∧ r = .bool (reachM st t s).isSome ∧ ∀ st', reachM st t s = some st' → Vf w' bv base cv hv sv code st') := by
  have hblk := h.blk
  have hcode := h.cod
  have hmax := hcode.max
  have hlen := h.len
  have hbh := h.nh
  have hbs := h.ns
  have hshp := h.shp.slvX (fun b hb => by
    rcases List.mem_cons.1 hb with rfl | hb
    · exact hbh
    · exact fun hb' => h.apart b hb' hb)
  have hseen := h.seen.slv0
  have hl1 : (shpS st).length = st.length := by simp [shpS]
  have hl2 : (seenS st).length = st.length := by simp [seenS]
  refine calls_of_WC3 (n := 45) Tryd.func99 rfl rfl rfl ?_
  refine W ?_
  by_cases hlt : t < code.length
  case neg =>
    have hr : reachM st t s = none := by rw [reachM, if_neg (by omega)]
    repeat' (first | refine W1 ?_ | (exfalso; omega) | refine WL_split rfl rfl (fun hg => ?_) (fun hg => ?_) | refine WL_splitB rfl rfl (fun hg => ?_) (fun hg => ?_) | refine WC_cond rfl (fun hc => ?_) (fun hc => ?_) | refine WC_condB rfl (fun hc => ?_) (fun hc => ?_))
    first | refine WQ_ret1 rfl rfl ?_ | refine WQ_ret2 rfl rfl rfl ?_ | refine WQ_ret3 rfl rfl rfl rfl ?_ | refine WQ_ret0 rfl ?_ | refine WQ_end0 rfl ?_
    exact .mk ⟨Stp.refl _ _, by rw [hr]; rfl, fun st' h => by rw [hr] at h; cases h⟩
  obtain ⟨k, rfl⟩ : ∃ k : Nat, t = (k : Int) := ⟨t.toNat, by omega⟩
  have hk : k < st.length := by omega
  have hk1 : k < (shpS st).length := by omega
  have hk2 : k < (seenS st).length := by omega
  have hsk : (seenS st)[k] = (st[k]).isSome := by simp [seenS]
  have hgd : st.getD ((k : Int)).toNat none = st[k] := by simp [List.getD, hk]
  cases hst : st[k] with
  | some s0 =>
    have hb1 : (seenS st)[k] = true := by rw [hsk, hst]; rfl
    have hrM : reachM st (k : Int) s = if s0 = s then some st else none := by
      rw [reachM, if_pos (by omega), hgd, hst]
    repeat' (first | refine W1 ?_ | (exfalso; omega) | refine WL_split rfl rfl (fun hg => ?_) (fun hg => ?_) | refine WL_splitB rfl rfl (fun hg => ?_) (fun hg => ?_) | refine WC_cond rfl (fun hc => ?_) (fun hc => ?_) | refine WC_condB rfl (fun hc => ?_) (fun hc => ?_))
    · obtain ⟨u, hcell, hsu⟩ := hshp.sub hk1
      have hu0 : (shpS st)[k].l = s0 := by simp [shpS, hst]
      apply WL_pure (PR_load1 rfl rfl hcell) rfl
      refine W ?_
      refine WL_eff (OE_call rfl (evs2 rfl rfl) (EqualI_any _ _ _ _ _ (hsu.wk (by simp)) (hs.wk (by simp)))) rfl ?_
      rintro _ w2 ⟨rfl, hS⟩
      refine W ?_
      first | refine WQ_ret1 rfl rfl ?_ | refine WQ_ret2 rfl rfl rfl ?_ | refine WQ_ret3 rfl rfl rfl rfl ?_ | refine WQ_ret0 rfl ?_ | refine WQ_end0 rfl ?_
      rw [hu0]
      refine .mk ⟨hS.mono (by simp), ?_, fun st' h' => ?_⟩
      · rw [hrM]
        by_cases he : s0 = s <;> simp [he]
      · rw [hrM] at h'
        split at h'
        · cases h'; exact h.up hS
        · cases h'
    · rw [hb1] at hc; exact absurd hc (by simp)
  | none =>
    have hb1 : (seenS st)[k] = false := by rw [hsk, hst]; rfl
    have hrM : reachM st (k : Int) s = some (st.set k (some s)) := by
      rw [reachM, if_pos (by omega), hgd, hst]
      simp
    repeat' (first | refine W1 ?_ | (exfalso; omega) | refine WL_split rfl rfl (fun hg => ?_) (fun hg => ?_) | refine WL_splitB rfl rfl (fun hg => ?_) (fun hg => ?_) | refine WC_cond rfl (fun hc => ?_) (fun hc => ?_) | refine WC_condB rfl (fun hc => ?_) (fun hc => ?_))
    · rw [hb1] at hc; exact absurd hc (by simp)
    refine WC_drawn 15 (ob hv ++ ob sv) [] [(0, 0), (1, 0), (2, 0), (3, 1), (4, 0), (5, 0), (6, 0), (7, 0), (8, 1), (9, 0), (10, 0), (11, 0), (12, 2), (13, 0), (14, 2)] rfl mixed (by kernel_rfl) (by kernel_rfl) (by kernel_rfl) (fun w1 hS1 => ?_)
    have nb : bv ∉ ob hv ++ ob sv := fun hb => (List.mem_append.1 hb).elim hbh hbs
    replace hblk := hblk.up hS1
    have hseen1 := hseen.up hS1
    have hshp1 := hshp.up hS1
    have rs := h.seen.up hS1
    have rh := h.shp.up hS1
    refine D ?_
    try (refine WD_read rfl trivial (fun w' hS' => PR_load_blk rfl rfl (hblk.ext hS' nb) rfl) rfl ?_)
    refine D ?_
    try (refine WD_read rfl trivial (fun w' hS' => PR_load_blk rfl rfl (hblk.ext hS' nb) rfl) rfl ?_)
    refine D ?_
    refine WD_eff0 rfl trivial (OE_storeElX (α := Bool) (y' := true) (u := .bool true) rfl rfl rfl rfl rs hk2) (fun _ _ h => h.2.mono (by simp_all)) ?_
    rintro _ w3 ⟨rs3, hS3⟩
    replace rh := rh.ext (X' := bv :: ob sv) hS3 (fun b hb => ⟨List.mem_cons_of_mem _ hb, fun hb' => h.apart b hb' hb⟩) (fun _ h => .inl h)
    have hshp3 := rh.slvX (fun b hb => by
      rcases List.mem_cons.1 hb with rfl | hb
      · exact hbh
      · exact fun hb' => h.apart b hb' hb)
    have hS13 : Stp (bv :: (ob hv ++ ob sv)) w w3 := (hS1.mono (by simp)).trans (hS3.mono (fun b hb => by simp [hb]))
    have hs3 := hs.ext hS13 (fun _ h => h) (fun _ h => .inl h)
    refine D ?_
    refine WD_eff0 rfl trivial (OE_storeElX (α := Sl Int) (y' := ⟨s⟩) (u := uv) rfl rfl rfl ⟨uv, hs3.cells, hs3.wk (fun b hb => by simp at hb; rcases hb with h | h | h <;> simp [h])⟩ rh hk1) (fun _ _ h => h.2.mono (by simp_all)) ?_
    rintro _ w4 ⟨rh4, hS4⟩
    refine D ?_
    refine W ?_
    first | refine WQ_ret1 rfl rfl ?_ | refine WQ_ret2 rfl rfl rfl ?_ | refine WQ_ret3 rfl rfl rfl rfl ?_ | refine WQ_ret0 rfl ?_ | refine WQ_end0 rfl ?_
    have hS14 : Stp (bv :: (ob hv ++ ob sv)) w w4 := hS13.trans (hS4.mono (fun b hb => by simp [hb]))
    refine .mk ⟨hS14, by rw [hrM]; rfl, fun st' h' => ?_⟩
    rw [hrM] at h'
    cases h'
    have rs4 := rs3.keep hS4 (fun b hb => h.apart b hb)
    refine ⟨(hblk.ext hS3 hbs).ext hS4 hbh, h.cod.ext hS14 (fun _ h => h) (fun _ h => .inl h), ?_, ?_, hbh, hbs, Nat.le_trans h.hi hS14.size, h.apart, by simpa using h.len⟩
    · have e : shpS (st.set k (some s)) = (shpS st).set k ⟨s⟩ := by simp [shpS, List.map_set]
      rw [e]; exact rh4
    · have e : seenS (st.set k (some s)) = (seenS st).set k true := by simp [seenS, List.map_set]
      rw [e]; exact rs4
end Go.Proofs.YtgpibcgebpgmiaaDoor


namespace Go.Proofs.YtgpibcgebpgmiaaDoor
open Go Go.Eng Go.RowKit
set_option linter.unusedVariables false

/-! ### the reference's verifier in strings -/
def tyB (k : Int) : UInt8 := if k = 1 then 110 else if k = 2 then 98 else 100
def encS (s : Shp) : Str := s.map tyB
def encO : Option Shp → Str
  | none => [63]
  | some s => encS s
def okS (s : Shp) : Prop := ∀ k ∈ s, k = 1 ∨ k = 2 ∨ k = 3
theorem tyB_inj {a b : Int} (ha : a = 1 ∨ a = 2 ∨ a = 3) (hb : b = 1 ∨ b = 2 ∨ b = 3) (h : tyB a = tyB b) : a = b := by
  rcases ha with rfl | rfl | rfl <;> rcases hb with rfl | rfl | rfl <;> first | rfl | (exfalso; revert h; decide)
theorem encS_inj : ∀ {a b : Shp}, okS a → okS b → encS a = encS b → a = b
  | [], [], _, _, _ => rfl
  | [], _ :: _, _, _, h => by simp [encS] at h
  | _ :: _, [], _, _, h => by simp [encS] at h
  | x :: a, y :: b, ha, hb, h => by
    simp only [encS, List.map_cons, List.cons.injEq] at h
    rw [tyB_inj (ha x (by simp)) (hb y (by simp)) h.1, encS_inj (a := a) (b := b) (fun k hk => ha k (by simp [hk])) (fun k hk => hb k (by simp [hk])) h.2]
theorem tyB_ne (k : Int) : tyB k ≠ 63 := by
  unfold tyB
  split
  · decide
  · split <;> decide
theorem encS_ne (s : Shp) : encS s ≠ [63] := by
  intro h
  rcases s with _ | ⟨a, _ | ⟨b, r⟩⟩
  · simp [encS] at h
  · simp [encS] at h; exact tyB_ne a h
  · simp [encS] at h
theorem encS_len (s : Shp) : (encS s).length = s.length := by simp [encS]
def rowM (n : Int) (sh : Str) (r : RwT) : Option Str :=
  if r.lo ≤ n ∧ n ≤ r.hi ∧ r.t.length ≤ sh.length ∧ sh.drop (sh.length - r.t.length) = r.t ∧ sh.length - r.t.length + r.g.length ≤ 16 then some (sh.take (sh.length - r.t.length) ++ r.g) else none
def firstM (n : Int) (sh : Str) : List RwT → Option Str
  | [] => none
  | r :: l => match rowM n sh r with
    | some s => some s
    | none => firstM n sh l
def afterM (x : Ins) (a z : Nat) (sh : Str) : Option Str := firstM x.n sh (rowsF x a z)
def setR (strs : List Str) (t : Int) (nx : Str) : Option (List Str) := if strs.getD t.toNat [] ≠ [63] ∧ strs.getD t.toNat [] ≠ nx then none else some (strs.set t.toNat nx)
def targF (x : Ins) (i z : Nat) : List Int := (if x.op = 13 ∨ x.op = 14 then [x.n] else []) ++ (if x.op ≠ 13 ∧ i + 1 < z then [(i : Int) + 1] else [])
def setsR (nx : Str) : List Int → List Str → Option (List Str)
  | [], st => some st
  | t :: l, st => (setR st t nx).bind (setsR nx l)
def stepR (strs : List Str) (i : Nat) (x : Ins) : Option (List Str) :=
  match afterM x i strs.length (strs.getD i []) with
  | none => none
  | some nx => if strs.getD i [] = [63] ∨ ¬ (x.op = 24 ↔ i + 1 = strs.length) then none else setsR nx (targF x i strs.length) strs
def runR (code : List Ins) : Nat → List Str → Option (List Str)
  | 0, st => some st
  | k + 1, st => (runR code k st).bind (fun st' => stepR st' k (code.getD k ⟨0, 0⟩))
def finR (m : Nat) : Option (List Str) → Int × Int
  | none => (0, 22)
  | some st => if st.getD m [] = [110] then (1, 0) else if st.getD m [] = [98] then (2, 0) else if st.getD m [] = [100] then (3, 0) else (0, 22)
def verR (code : List Ins) : Int × Int :=
  if code.length = 0 ∨ code.length > 200 then (0, 22) else finR (code.length - 1) (runR code code.length ([] :: List.replicate (code.length - 1) [63]))

/-! ### it is the same -/
theorem okS_take {s : Shp} (h : okS s) (k : Nat) : okS (s.take k) := fun a ha => h a (List.mem_of_mem_take ha)
theorem okS_drop {s : Shp} (h : okS s) (k : Nat) : okS (s.drop k) := fun a ha => h a (List.mem_of_mem_drop ha)
theorem okS_app {s t : Shp} (h : okS s) (h' : okS t) : okS (s ++ t) := fun a ha => (List.mem_append.1 ha).elim (h a) (h' a)
theorem rowM_enc {n lo hi : Int} {s t g : Shp} (hs : okS s) (ht : okS t) :
    rowM n (encS s) ⟨lo, hi, encS t, encS g⟩ = if (lo ≤ n ∧ n ≤ hi) ∧ t.length ≤ s.length ∧ s.drop (s.length - t.length) = t ∧ (s.take (s.length - t.length) ++ g).length ≤ 16 then some (encS (s.take (s.length - t.length) ++ g)) else none := by
  unfold rowM
  have e1 : (encS s).drop (s.length - t.length) = encS (s.drop (s.length - t.length)) := by simp [encS, List.map_drop]
  have e2 : (encS s).take (s.length - t.length) ++ encS g = encS (s.take (s.length - t.length) ++ g) := by simp [encS, List.map_take]
  have e3 : (encS (s.drop (s.length - t.length)) = encS t) ↔ (s.drop (s.length - t.length) = t) := ⟨encS_inj (okS_drop hs _) ht, fun h => by rw [h]⟩
  have e4 : (s.take (s.length - t.length) ++ g).length = s.length - t.length + g.length := by simp
  dsimp only
  rw [encS_len, encS_len, encS_len, e1, e2, e4]
  by_cases c1 : lo ≤ n <;> by_cases c2 : n ≤ hi <;> by_cases c3 : t.length ≤ s.length <;> by_cases c4 : s.drop (s.length - t.length) = t <;> by_cases c5 : s.length - t.length + g.length ≤ 16 <;> simp [c1, c2, c3, c4, c5, e3]
/-- one row of the table against the program's effect without an alternative -/
theorem after_one {x : Ins} {s t g : Shp} {lo hi : Int} {ok : Bool} (hs : okS s) (ht : okS t) (he : effF x = (t, [], g, ok)) (hok : ok = true ↔ (lo ≤ x.n ∧ x.n ≤ hi)) :
    firstM x.n (encS s) [⟨lo, hi, encS t, encS g⟩] = (nextM x s).map encS := by
  simp only [firstM, rowM_enc hs ht, nextM, he]
  by_cases c1 : ok = true
  · have c1' := hok.1 c1
    by_cases c2 : t.length ≤ s.length ∧ s.drop (s.length - t.length) = t ∧ (s.take (s.length - t.length) ++ g).length ≤ 16
    · rw [if_pos ⟨c1', c2⟩, if_pos ⟨c1, c2.1, .inl c2.2.1, c2.2.2⟩]; rfl
    · rw [if_neg (fun h => c2 h.2), if_neg (fun h => c2 ⟨h.2.1, h.2.2.1.elim id (fun h => absurd rfl h.1), h.2.2.2⟩)]; rfl
  · rw [if_neg (fun h => c1 (hok.2 h.1)), if_neg (fun h => c1 h.1)]; rfl

theorem after_two {x : Ins} {s t u g : Shp} (hs : okS s) (ht : okS t) (hu : okS u) (htu : t.length = u.length) (hu0 : u ≠ []) (he : effF x = (t, u, g, decide (x.n = 0))) :
    firstM x.n (encS s) [⟨0, 0, encS t, encS g⟩, ⟨0, 0, encS u, encS g⟩] = (nextM x s).map encS := by
  simp only [firstM, rowM_enc hs ht, rowM_enc hs hu, nextM, he, ← htu]
  have hr : (0 ≤ x.n ∧ x.n ≤ 0) ↔ x.n = 0 := by omega
  by_cases c1 : x.n = 0 <;> by_cases c2 : t.length ≤ s.length <;> by_cases c3 : s.drop (s.length - t.length) = t <;> by_cases c4 : s.drop (s.length - t.length) = u <;> by_cases c5 : (s.take (s.length - t.length) ++ g).length ≤ 16 <;> simp only [hr, c1, c2, c3, c4, c5, hu0, ne_eq, not_false_eq_true, true_and, and_true, or_true, true_or, and_self, false_and, and_false, or_false, decide_true, decide_false, if_true, if_false, Option.map_some, Option.map_none, Bool.false_eq_true, Int.le_refl]
  all_goals (first | done | rfl | (split <;> simp_all) | simp_all)
theorem after_jump {x : Ins} {s t : Shp} {lo hi : Int} (hs : okS s) (ht : okS t) (he : effF x = (t, [], [], true)) :
    firstM x.n (encS s) [⟨lo, hi, encS t, encS []⟩] = if ¬ (lo ≤ x.n ∧ x.n ≤ hi) then none else (nextM x s).map encS := by
  simp only [firstM, rowM_enc hs ht, nextM, he]
  by_cases c1 : lo ≤ x.n ∧ x.n ≤ hi
  · rw [if_neg (Classical.not_not.2 c1)]
    by_cases c2 : t.length ≤ s.length ∧ s.drop (s.length - t.length) = t ∧ (s.take (s.length - t.length) ++ []).length ≤ 16
    · rw [if_pos ⟨c1, c2⟩, if_pos ⟨trivial, c2.1, .inl c2.2.1, c2.2.2⟩]; rfl
    · rw [if_neg (fun h => c2 h.2), if_neg (fun h => c2 ⟨h.2.1, h.2.2.1.elim id (fun h => absurd rfl h.1), h.2.2.2⟩)]; rfl
  · rw [if_pos c1, if_neg (fun h => c1 h.1)]
end Go.Proofs.YtgpibcgebpgmiaaDoor


namespace Go.Proofs.YtgpibcgebpgmiaaDoor
open Go Go.Eng Go.RowKit
set_option linter.unusedVariables false
theorem aft1 {n : Int} {s : Shp} {a z : Nat} (hs : okS s) : firstM n (encS s) (rowsF ⟨1, n⟩ a z) = (nextM ⟨1, n⟩ s).map encS :=
  after_one (x := ⟨1, n⟩) (t := []) (g := [1]) (lo := -2147483647) (hi := 2147483647) hs (by intro k hk; simp at hk) rfl (by simp)
theorem aft2 {n : Int} {s : Shp} {a z : Nat} (hs : okS s) : firstM n (encS s) (rowsF ⟨2, n⟩ a z) = (nextM ⟨2, n⟩ s).map encS :=
  after_one (x := ⟨2, n⟩) (t := []) (g := [2]) (lo := 0) (hi := 1) hs (by intro k hk; simp at hk) rfl (by simp; omega)
theorem aft3 {n : Int} {s : Shp} {a z : Nat} (hs : okS s) : firstM n (encS s) (rowsF ⟨3, n⟩ a z) = (nextM ⟨3, n⟩ s).map encS :=
  after_one (x := ⟨3, n⟩) (t := []) (g := [3]) (lo := 0) (hi := 3652058) hs (by intro k hk; simp at hk) rfl (by simp)
theorem aft4 {n : Int} {s : Shp} {a z : Nat} (hs : okS s) : firstM n (encS s) (rowsF ⟨4, n⟩ a z) = (nextM ⟨4, n⟩ s).map encS := by
  by_cases hr : 0 ≤ n ∧ n < 7
  · have hn : n = 0 ∨ n = 1 ∨ n = 2 ∨ n = 3 ∨ n = 4 ∨ n = 5 ∨ n = 6 := by omega
    rcases hn with rfl | rfl | rfl | rfl | rfl | rfl | rfl
    · exact after_one (x := ⟨4, 0⟩) (t := []) (g := [3]) (lo := 0) (hi := 6) hs (by intro k hk; simp at hk) rfl (by simp)
    · exact after_one (x := ⟨4, 1⟩) (t := []) (g := [3]) (lo := 0) (hi := 6) hs (by intro k hk; simp at hk) rfl (by simp)
    · exact after_one (x := ⟨4, 2⟩) (t := []) (g := [1]) (lo := 0) (hi := 6) hs (by intro k hk; simp at hk) rfl (by simp)
    · exact after_one (x := ⟨4, 3⟩) (t := []) (g := [1]) (lo := 0) (hi := 6) hs (by intro k hk; simp at hk) rfl (by simp)
    · exact after_one (x := ⟨4, 4⟩) (t := []) (g := [1]) (lo := 0) (hi := 6) hs (by intro k hk; simp at hk) rfl (by simp)
    · exact after_one (x := ⟨4, 5⟩) (t := []) (g := [1]) (lo := 0) (hi := 6) hs (by intro k hk; simp at hk) rfl (by simp)
    · exact after_one (x := ⟨4, 6⟩) (t := []) (g := [1]) (lo := 0) (hi := 6) hs (by intro k hk; simp at hk) rfl (by simp)
  · have e1 : rowsF ⟨4, n⟩ a z = [] := if_neg hr
    have e2 : nextM ⟨4, n⟩ s = none := if_neg (fun h => hr (of_decide_eq_true h.1))
    rw [e1, e2]; rfl
theorem aft5 {n : Int} {s : Shp} {a z : Nat} (hs : okS s) : firstM n (encS s) (rowsF ⟨5, n⟩ a z) = (nextM ⟨5, n⟩ s).map encS :=
  after_one (x := ⟨5, n⟩) (t := [1, 1]) (g := [1]) (lo := 0) (hi := 0) hs (by intro k hk; simp at hk; omega) rfl (by simp; omega)
theorem aft6 {n : Int} {s : Shp} {a z : Nat} (hs : okS s) : firstM n (encS s) (rowsF ⟨6, n⟩ a z) = (nextM ⟨6, n⟩ s).map encS :=
  after_one (x := ⟨6, n⟩) (t := [1, 1]) (g := [1]) (lo := 0) (hi := 0) hs (by intro k hk; simp at hk; omega) rfl (by simp; omega)
theorem aft7 {n : Int} {s : Shp} {a z : Nat} (hs : okS s) : firstM n (encS s) (rowsF ⟨7, n⟩ a z) = (nextM ⟨7, n⟩ s).map encS :=
  after_one (x := ⟨7, n⟩) (t := [1, 1]) (g := [1]) (lo := 0) (hi := 0) hs (by intro k hk; simp at hk; omega) rfl (by simp; omega)
theorem aft8 {n : Int} {s : Shp} {a z : Nat} (hs : okS s) : firstM n (encS s) (rowsF ⟨8, n⟩ a z) = (nextM ⟨8, n⟩ s).map encS :=
  after_one (x := ⟨8, n⟩) (t := [1]) (g := [1]) (lo := 0) (hi := 0) hs (by intro k hk; simp at hk; omega) rfl (by simp; omega)
theorem aft9 {n : Int} {s : Shp} {a z : Nat} (hs : okS s) : firstM n (encS s) (rowsF ⟨9, n⟩ a z) = (nextM ⟨9, n⟩ s).map encS :=
  after_two (x := ⟨9, n⟩) (t := [1, 1]) (u := [3, 3]) (g := [2]) hs (by intro k hk; simp at hk; omega) (by intro k hk; simp at hk; omega) rfl (by simp) rfl
theorem aft10 {n : Int} {s : Shp} {a z : Nat} (hs : okS s) : firstM n (encS s) (rowsF ⟨10, n⟩ a z) = (nextM ⟨10, n⟩ s).map encS :=
  after_two (x := ⟨10, n⟩) (t := [1, 1]) (u := [3, 3]) (g := [2]) hs (by intro k hk; simp at hk; omega) (by intro k hk; simp at hk; omega) rfl (by simp) rfl
theorem aft11 {n : Int} {s : Shp} {a z : Nat} (hs : okS s) : firstM n (encS s) (rowsF ⟨11, n⟩ a z) = (nextM ⟨11, n⟩ s).map encS :=
  after_two (x := ⟨11, n⟩) (t := [1, 1]) (u := [3, 3]) (g := [2]) hs (by intro k hk; simp at hk; omega) (by intro k hk; simp at hk; omega) rfl (by simp) rfl
theorem aft12 {n : Int} {s : Shp} {a z : Nat} (hs : okS s) : firstM n (encS s) (rowsF ⟨12, n⟩ a z) = (nextM ⟨12, n⟩ s).map encS :=
  after_one (x := ⟨12, n⟩) (t := [2]) (g := [2]) (lo := 0) (hi := 0) hs (by intro k hk; simp at hk; omega) rfl (by simp; omega)
theorem aft13 {n : Int} {s : Shp} {a z : Nat} (hs : okS s) : firstM n (encS s) (rowsF ⟨13, n⟩ a z) = if ¬ ((a : Int) + 1 ≤ n ∧ n ≤ (z : Int) - 1) then none else (nextM ⟨13, n⟩ s).map encS :=
  after_jump (x := ⟨13, n⟩) (t := []) (lo := (a : Int) + 1) (hi := (z : Int) - 1) hs (by intro k hk; simp at hk) rfl
theorem aft14 {n : Int} {s : Shp} {a z : Nat} (hs : okS s) : firstM n (encS s) (rowsF ⟨14, n⟩ a z) = if ¬ ((a : Int) + 1 ≤ n ∧ n ≤ (z : Int) - 1) then none else (nextM ⟨14, n⟩ s).map encS :=
  after_jump (x := ⟨14, n⟩) (t := [2]) (lo := (a : Int) + 1) (hi := (z : Int) - 1) hs (by intro k hk; simp at hk; omega) rfl
theorem aft15 {n : Int} {s : Shp} {a z : Nat} (hs : okS s) : firstM n (encS s) (rowsF ⟨15, n⟩ a z) = (nextM ⟨15, n⟩ s).map encS :=
  after_one (x := ⟨15, n⟩) (t := [3, 1]) (g := [3]) (lo := 0) (hi := 0) hs (by intro k hk; simp at hk; omega) rfl (by simp; omega)
theorem aft16 {n : Int} {s : Shp} {a z : Nat} (hs : okS s) : firstM n (encS s) (rowsF ⟨16, n⟩ a z) = (nextM ⟨16, n⟩ s).map encS :=
  after_one (x := ⟨16, n⟩) (t := [3, 1]) (g := [3]) (lo := 0) (hi := 0) hs (by intro k hk; simp at hk; omega) rfl (by simp; omega)
theorem aft17 {n : Int} {s : Shp} {a z : Nat} (hs : okS s) : firstM n (encS s) (rowsF ⟨17, n⟩ a z) = (nextM ⟨17, n⟩ s).map encS :=
  after_one (x := ⟨17, n⟩) (t := [3, 1]) (g := [3]) (lo := 0) (hi := 0) hs (by intro k hk; simp at hk; omega) rfl (by simp; omega)
theorem aft18 {n : Int} {s : Shp} {a z : Nat} (hs : okS s) : firstM n (encS s) (rowsF ⟨18, n⟩ a z) = (nextM ⟨18, n⟩ s).map encS :=
  after_one (x := ⟨18, n⟩) (t := [3, 1]) (g := [3]) (lo := 0) (hi := 0) hs (by intro k hk; simp at hk; omega) rfl (by simp; omega)
theorem aft19 {n : Int} {s : Shp} {a z : Nat} (hs : okS s) : firstM n (encS s) (rowsF ⟨19, n⟩ a z) = (nextM ⟨19, n⟩ s).map encS :=
  after_one (x := ⟨19, n⟩) (t := [3]) (g := [3]) (lo := 0) (hi := 0) hs (by intro k hk; simp at hk; omega) rfl (by simp; omega)
theorem aft20 {n : Int} {s : Shp} {a z : Nat} (hs : okS s) : firstM n (encS s) (rowsF ⟨20, n⟩ a z) = (nextM ⟨20, n⟩ s).map encS :=
  after_one (x := ⟨20, n⟩) (t := [3]) (g := [3]) (lo := 0) (hi := 0) hs (by intro k hk; simp at hk; omega) rfl (by simp; omega)
theorem aft21 {n : Int} {s : Shp} {a z : Nat} (hs : okS s) : firstM n (encS s) (rowsF ⟨21, n⟩ a z) = (nextM ⟨21, n⟩ s).map encS :=
  after_one (x := ⟨21, n⟩) (t := [3, 3]) (g := [3]) (lo := 0) (hi := 0) hs (by intro k hk; simp at hk; omega) rfl (by simp; omega)
theorem aft22 {n : Int} {s : Shp} {a z : Nat} (hs : okS s) : firstM n (encS s) (rowsF ⟨22, n⟩ a z) = (nextM ⟨22, n⟩ s).map encS :=
  after_one (x := ⟨22, n⟩) (t := [3, 3]) (g := [3]) (lo := 0) (hi := 0) hs (by intro k hk; simp at hk; omega) rfl (by simp; omega)
theorem aft23 {n : Int} {s : Shp} {a z : Nat} (hs : okS s) : firstM n (encS s) (rowsF ⟨23, n⟩ a z) = (nextM ⟨23, n⟩ s).map encS :=
  after_one (x := ⟨23, n⟩) (t := [3, 3]) (g := [1]) (lo := 0) (hi := 0) hs (by intro k hk; simp at hk; omega) rfl (by simp; omega)
theorem aft24 {n : Int} {s : Shp} {a z : Nat} (hs : okS s) : firstM n (encS s) (rowsF ⟨24, n⟩ a z) = (nextM ⟨24, n⟩ s).map encS :=
  after_one (x := ⟨24, n⟩) (t := []) (g := []) (lo := 0) (hi := 0) hs (by intro k hk; simp at hk) rfl (by simp; omega)
theorem rows_no {op n : Int} {a z : Nat} (h : ¬ (1 ≤ op ∧ op ≤ 24)) : rowsF ⟨op, n⟩ a z = [] := by
  have h1 : ∀ k : Int, 1 ≤ k → k ≤ 24 → ¬ op = k := fun k h1 h2 e => h (by omega)
  simp only [rowsF]
  rw [if_neg (h1 1 (by decide) (by decide))]
  rw [if_neg (h1 2 (by decide) (by decide))]
  rw [if_neg (h1 3 (by decide) (by decide))]
  rw [if_neg (h1 4 (by decide) (by decide))]
  rw [if_neg (not_or.2 ⟨h1 5 (by decide) (by decide), (not_or.2 ⟨h1 6 (by decide) (by decide), (h1 7 (by decide) (by decide))⟩)⟩)]
  rw [if_neg (h1 8 (by decide) (by decide))]
  rw [if_neg (not_or.2 ⟨h1 9 (by decide) (by decide), (not_or.2 ⟨h1 10 (by decide) (by decide), (h1 11 (by decide) (by decide))⟩)⟩)]
  rw [if_neg (h1 12 (by decide) (by decide))]
  rw [if_neg (h1 13 (by decide) (by decide))]
  rw [if_neg (h1 14 (by decide) (by decide))]
  rw [if_neg (not_or.2 ⟨h1 15 (by decide) (by decide), (not_or.2 ⟨h1 16 (by decide) (by decide), (not_or.2 ⟨h1 17 (by decide) (by decide), (h1 18 (by decide) (by decide))⟩)⟩)⟩)]
  rw [if_neg (not_or.2 ⟨h1 19 (by decide) (by decide), (h1 20 (by decide) (by decide))⟩)]
  rw [if_neg (not_or.2 ⟨h1 21 (by decide) (by decide), (h1 22 (by decide) (by decide))⟩)]
  rw [if_neg (h1 23 (by decide) (by decide))]
  rw [if_neg (h1 24 (by decide) (by decide))]
theorem eff_no {op n : Int} (h : ¬ (1 ≤ op ∧ op ≤ 24)) : effF ⟨op, n⟩ = ([], [], [], false) := by
  have h1 : ∀ k : Int, 1 ≤ k → k ≤ 24 → ¬ op = k := fun k h1 h2 e => h (by omega)
  simp only [effF]
  rw [if_neg (h1 1 (by decide) (by decide))]
  rw [if_neg (h1 2 (by decide) (by decide))]
  rw [if_neg (h1 3 (by decide) (by decide))]
  rw [if_neg (h1 4 (by decide) (by decide))]
  rw [if_neg (h1 13 (by decide) (by decide))]
  rw [if_neg (h1 14 (by decide) (by decide))]
  rw [if_neg (not_or.2 ⟨h1 5 (by decide) (by decide), (not_or.2 ⟨h1 6 (by decide) (by decide), (h1 7 (by decide) (by decide))⟩)⟩)]
  rw [if_neg (h1 8 (by decide) (by decide))]
  rw [if_neg (not_or.2 ⟨h1 9 (by decide) (by decide), (not_or.2 ⟨h1 10 (by decide) (by decide), (h1 11 (by decide) (by decide))⟩)⟩)]
  rw [if_neg (h1 12 (by decide) (by decide))]
  rw [if_neg (not_or.2 ⟨h1 15 (by decide) (by decide), (not_or.2 ⟨h1 16 (by decide) (by decide), (not_or.2 ⟨h1 17 (by decide) (by decide), (h1 18 (by decide) (by decide))⟩)⟩)⟩)]
  rw [if_neg (not_or.2 ⟨h1 19 (by decide) (by decide), (h1 20 (by decide) (by decide))⟩)]
  rw [if_neg (not_or.2 ⟨h1 21 (by decide) (by decide), (h1 22 (by decide) (by decide))⟩)]
  rw [if_neg (h1 23 (by decide) (by decide))]
  rw [if_neg (h1 24 (by decide) (by decide))]
theorem after_next {x : Ins} {s : Shp} {a z : Nat} (hs : okS s) :
    afterM x a z (encS s) = if (x.op = 13 ∨ x.op = 14) ∧ ¬ ((a : Int) + 1 ≤ x.n ∧ x.n ≤ (z : Int) - 1) then none else (nextM x s).map encS := by
  obtain ⟨op, n⟩ := x
  unfold afterM
  by_cases hr : 1 ≤ op ∧ op ≤ 24
  · have hn : op = 1 ∨ op = 2 ∨ op = 3 ∨ op = 4 ∨ op = 5 ∨ op = 6 ∨ op = 7 ∨ op = 8 ∨ op = 9 ∨ op = 10 ∨ op = 11 ∨ op = 12 ∨ op = 13 ∨ op = 14 ∨ op = 15 ∨ op = 16 ∨ op = 17 ∨ op = 18 ∨ op = 19 ∨ op = 20 ∨ op = 21 ∨ op = 22 ∨ op = 23 ∨ op = 24 := by omega
    rcases hn with rfl | rfl | rfl | rfl | rfl | rfl | rfl | rfl | rfl | rfl | rfl | rfl | rfl | rfl | rfl | rfl | rfl | rfl | rfl | rfl | rfl | rfl | rfl | rfl
    · rw [if_neg (by simp)]; exact aft1 hs
    · rw [if_neg (by simp)]; exact aft2 hs
    · rw [if_neg (by simp)]; exact aft3 hs
    · rw [if_neg (by simp)]; exact aft4 hs
    · rw [if_neg (by simp)]; exact aft5 hs
    · rw [if_neg (by simp)]; exact aft6 hs
    · rw [if_neg (by simp)]; exact aft7 hs
    · rw [if_neg (by simp)]; exact aft8 hs
    · rw [if_neg (by simp)]; exact aft9 hs
    · rw [if_neg (by simp)]; exact aft10 hs
    · rw [if_neg (by simp)]; exact aft11 hs
    · rw [if_neg (by simp)]; exact aft12 hs
    · simp only [true_or, true_and]; exact aft13 hs
    · simp only [or_true, true_and]; exact aft14 hs
    · rw [if_neg (by simp)]; exact aft15 hs
    · rw [if_neg (by simp)]; exact aft16 hs
    · rw [if_neg (by simp)]; exact aft17 hs
    · rw [if_neg (by simp)]; exact aft18 hs
    · rw [if_neg (by simp)]; exact aft19 hs
    · rw [if_neg (by simp)]; exact aft20 hs
    · rw [if_neg (by simp)]; exact aft21 hs
    · rw [if_neg (by simp)]; exact aft22 hs
    · rw [if_neg (by simp)]; exact aft23 hs
    · rw [if_neg (by simp)]; exact aft24 hs
  · rw [if_neg (fun h => by have := h.1; dsimp only at this; omega)]
    have e2 : nextM ⟨op, n⟩ s = none := by
      unfold nextM
      rw [eff_no hr]
      exact if_neg (fun h => by cases h.1)
    dsimp only
    rw [rows_no hr, e2]; rfl
end Go.Proofs.YtgpibcgebpgmiaaDoor


namespace Go.Proofs.YtgpibcgebpgmiaaDoor
open Go Go.Eng Go.RowKit
set_option linter.unusedVariables false
def OkSt (st : List (Option Shp)) : Prop := ∀ s, some s ∈ st → okS s
theorem getD_encO (st : List (Option Shp)) {i : Nat} (h : i < st.length) : (st.map encO).getD i [] = encO (st.getD i none) := by simp [List.getD, h]
theorem set_reach {st : List (Option Shp)} {t : Int} {nx : Shp} (hst : OkSt st) (hn : okS nx) (h0 : 0 ≤ t) (h1 : t < st.length) :
    setR (st.map encO) t (encS nx) = (reachM st t nx).map (List.map encO) := by
  obtain ⟨k, rfl⟩ : ∃ k : Nat, t = (k : Int) := ⟨t.toNat, by omega⟩
  have hk : k < st.length := by omega
  unfold setR reachM
  rw [if_pos (show 0 ≤ (k : Int) ∧ (k : Int) < (st.length : Int) from ⟨h0, h1⟩), Int.toNat_natCast, getD_encO st hk]
  have hg : st.getD k none = st[k] := by simp [List.getD, hk]
  rw [hg]
  cases hs : st[k] with
  | none =>
    rw [if_neg (by simp [encO])]
    simp [List.map_set, encO]
  | some s0 =>
    have hs0 : okS s0 := hst s0 (by rw [← hs]; exact List.getElem_mem hk)
    by_cases he : s0 = nx
    · subst he
      rw [if_neg (by simp [encO])]
      simp only [if_true, Option.map_some, Option.some.injEq]
      refine List.ext_getElem (by simp) (fun j h1 h2 => ?_)
      rw [List.getElem_set]
      split
      · rename_i hj; subst hj; simp [hs, encO]
      · rfl
    · rw [if_pos ⟨by simp only [encO]; exact encS_ne s0, fun h => he (encS_inj hs0 hn h)⟩]
      simp [he]
theorem eff_gives (x : Ins) : okS (effF x).2.2.1 := by
  obtain ⟨op, n⟩ := x
  by_cases hr : 1 ≤ op ∧ op ≤ 24
  · have hn : op = 1 ∨ op = 2 ∨ op = 3 ∨ op = 4 ∨ op = 5 ∨ op = 6 ∨ op = 7 ∨ op = 8 ∨ op = 9 ∨ op = 10 ∨ op = 11 ∨ op = 12 ∨ op = 13 ∨ op = 14 ∨ op = 15 ∨ op = 16 ∨ op = 17 ∨ op = 18 ∨ op = 19 ∨ op = 20 ∨ op = 21 ∨ op = 22 ∨ op = 23 ∨ op = 24 := by omega
    rcases hn with rfl | rfl | rfl | rfl | rfl | rfl | rfl | rfl | rfl | rfl | rfl | rfl | rfl | rfl | rfl | rfl | rfl | rfl | rfl | rfl | rfl | rfl | rfl | rfl
    · intro k hk; simp [effF] at hk; omega
    · intro k hk; simp [effF] at hk; omega
    · intro k hk; simp [effF] at hk; omega
    · show okS [if n = 0 ∨ n = 1 then 3 else 1]
      intro k hk; simp at hk; subst hk; split <;> simp
    · intro k hk; simp [effF] at hk; omega
    · intro k hk; simp [effF] at hk; omega
    · intro k hk; simp [effF] at hk; omega
    · intro k hk; simp [effF] at hk; omega
    · intro k hk; simp [effF] at hk; omega
    · intro k hk; simp [effF] at hk; omega
    · intro k hk; simp [effF] at hk; omega
    · intro k hk; simp [effF] at hk; omega
    · intro k hk; simp [effF] at hk
    · intro k hk; simp [effF] at hk
    · intro k hk; simp [effF] at hk; omega
    · intro k hk; simp [effF] at hk; omega
    · intro k hk; simp [effF] at hk; omega
    · intro k hk; simp [effF] at hk; omega
    · intro k hk; simp [effF] at hk; omega
    · intro k hk; simp [effF] at hk; omega
    · intro k hk; simp [effF] at hk; omega
    · intro k hk; simp [effF] at hk; omega
    · intro k hk; simp [effF] at hk; omega
    · intro k hk; simp [effF] at hk
  · rw [eff_no hr]; intro k hk; simp at hk
theorem next_ok {x : Ins} {s nx : Shp} (hs : okS s) (h : nextM x s = some nx) : okS nx := by
  unfold nextM at h
  dsimp only at h
  split at h
  · cases h; exact okS_app (okS_take hs _) (eff_gives x)
  · cases h
theorem reach_ok {st st' : List (Option Shp)} {t : Int} {nx : Shp} (hst : OkSt st) (hn : okS nx) (h : reachM st t nx = some st') : OkSt st' := by
  unfold reachM at h
  split at h
  · split at h
    · split at h
      · cases h; exact hst
      · cases h
    · cases h
      intro s hs
      rcases List.mem_or_eq_of_mem_set hs with h | h
      · exact hst s h
      · cases h; exact hn
  · cases h
theorem step_ok {st st' : List (Option Shp)} {i : Nat} {x : Ins} (hst : OkSt st) (h : stepM st i x = some st') : OkSt st' ∧ st'.length = st.length := by
  unfold stepM at h
  split at h
  · cases h
  · rename_i s hs
    have hs0 : okS s := by
      refine hst s ?_
      have hi : i < st.length := Nat.lt_of_not_le fun hle => by simp [List.getD, Nat.not_lt.2 hle] at hs
      have : st.getD i none = st[i] := by simp [List.getD, hi]
      rw [← hs, this]; exact List.getElem_mem hi
    split at h
    · cases h
    · rename_i nx hn
      have hnx := next_ok hs0 hn
      split at h
      · split at h
        · cases h; exact ⟨hst, rfl⟩
        · cases h
      split at h
      · split at h
        · exact ⟨reach_ok hst hnx h, reachM_len h⟩
        · cases h
      split at h
      · split at h
        · obtain ⟨s1, h1, h2⟩ := Option.bind_eq_some_iff.1 h
          exact ⟨reach_ok (reach_ok hst hnx h1) hnx h2, by rw [reachM_len h2, reachM_len h1]⟩
        · cases h
      exact ⟨reach_ok hst hnx h, reachM_len h⟩
theorem getD_ok {st : List (Option Shp)} (hst : OkSt st) {i : Nat} {s : Shp} (hi : i < st.length) (h : st.getD i none = some s) : okS s := by
  refine hst s ?_
  have : st.getD i none = st[i] := by simp [List.getD, hi]
  rw [← h, this]; exact List.getElem_mem hi
theorem reach_none {st : List (Option Shp)} {t : Int} {nx : Shp} (h : ¬ t < st.length) : reachM st t nx = none := if_neg (fun h' => h h'.2)
theorem step_eq {st : List (Option Shp)} {i : Nat} {x : Ins} (hst : OkSt st) (hi : i + 1 < st.length) : stepR (st.map encO) i x = (stepM st i x).map (List.map encO) := by
  unfold stepR stepM
  rw [getD_encO st (by omega), List.length_map]
  cases hs : st.getD i none with
  | none =>
    dsimp only [encO]
    cases afterM x i st.length [63] with
    | none => rfl
    | some nx => simp
  | some s =>
    have hs0 := getD_ok hst (by omega) hs
    rw [show encO (some s) = encS s from rfl, after_next hs0]
    dsimp only
    cases hn : nextM x s with
    | none => rw [Option.map_none, ite_self]; rfl
    | some nx =>
      have hnx := next_ok hs0 hn
      have hne := encS_ne s
      dsimp only [Option.map_some]
      by_cases h24 : x.op = 24
      · rw [if_neg (by omega), if_pos h24, if_neg (by omega)]
        dsimp only
        rw [if_pos (Or.inr (fun h => by have := h.1 h24; omega))]
        rfl
      have hiff : ¬ (encS s = [63] ∨ ¬ (x.op = 24 ↔ i + 1 = st.length)) := by
        rintro (h | h)
        · exact hne h
        · exact h ⟨fun h => absurd h h24, fun h => by omega⟩
      by_cases h13 : x.op = 13
      · rw [if_neg h24, if_pos h13]
        by_cases hb : (i : Int) + 1 ≤ x.n ∧ x.n ≤ (st.length : Int) - 1
        · rw [if_neg (fun h => h.2 hb)]
          dsimp only
          rw [if_neg hiff, if_pos (by omega), targF, if_pos (.inl h13), if_neg (by omega)]
          simp only [List.append_nil, setsR]
          rw [set_reach hst hnx (by omega) (by omega)]
          cases reachM st x.n nx <;> rfl
        · rw [if_pos ⟨.inl h13, hb⟩]
          dsimp only
          by_cases h : x.n > i
          · rw [if_pos h, reach_none (by omega)]; rfl
          · rw [if_neg h]; rfl
      by_cases h14 : x.op = 14
      · rw [if_neg h24, if_neg h13, if_pos h14]
        by_cases hb : (i : Int) + 1 ≤ x.n ∧ x.n ≤ (st.length : Int) - 1
        · rw [if_neg (fun h => h.2 hb)]
          dsimp only
          rw [if_neg hiff, if_pos (by omega), targF, if_pos (.inr h14), if_pos ⟨h13, hi⟩]
          simp only [List.cons_append, List.nil_append, setsR]
          rw [set_reach hst hnx (by omega) (by omega)]
          cases hr : reachM st x.n nx with
          | none => rfl
          | some st1 =>
            dsimp only [Option.map_some, Option.bind_some]
            have hl := reachM_len hr
            rw [set_reach (reach_ok hst hnx hr) hnx (by omega) (by omega)]
            cases reachM st1 ((i : Int) + 1) nx <;> rfl
        · rw [if_pos ⟨.inr h14, hb⟩]
          dsimp only
          by_cases h : x.n > i
          · rw [if_pos h, reach_none (by omega)]; rfl
          · rw [if_neg h]; rfl
      rw [if_neg (fun h => h.1.elim h13 h14), if_neg h24, if_neg h13, if_neg h14]
      dsimp only
      rw [if_neg hiff, targF, if_neg (fun h => h.elim h13 h14), if_pos ⟨h13, hi⟩]
      simp only [List.nil_append, setsR]
      rw [set_reach hst hnx (by omega) (by omega)]
      cases reachM st ((i : Int) + 1) nx <;> rfl
def finM (m : Nat) : Option (List (Option Shp)) → Int × Int
  | none => (0, 22)
  | some st => (((st.getD m none).getD []).headD 0, 0)
theorem last_eq {st : List (Option Shp)} {i : Nat} {x : Ins} (hst : OkSt st) (hi : i + 1 = st.length) : finR i (stepR (st.map encO) i x) = finM i (stepM st i x) := by
  unfold stepR stepM
  rw [getD_encO st (by omega), List.length_map]
  cases hs : st.getD i none with
  | none =>
    dsimp only [encO]
    cases afterM x i st.length [63] with
    | none => rfl
    | some nx => simp [finR, finM]
  | some s =>
    have hs0 := getD_ok hst (by omega) hs
    rw [show encO (some s) = encS s from rfl, after_next hs0]
    dsimp only
    cases hn : nextM x s with
    | none => rw [Option.map_none, ite_self]; rfl
    | some nx =>
      dsimp only [Option.map_some]
      by_cases h24 : x.op = 24
      · rw [if_neg (by omega), if_pos h24]
        dsimp only
        rw [if_neg (by rintro (h | h); exact encS_ne s h; exact h ⟨fun _ => hi, fun _ => h24⟩), targF, if_neg (by omega), if_neg (by omega)]
        simp only [List.nil_append, setsR, finR, getD_encO st (show i < st.length by omega), hs, encO]
        rcases s with _ | ⟨k, _ | ⟨k', r⟩⟩
        · simp [encS, finM]
        · rcases hs0 k (by simp) with rfl | rfl | rfl <;> simp [encS, tyB, finM, hi] <;> rw [← List.getD_eq_getElem?_getD, hs] <;> rfl
        · simp [encS, finM]
      refine Eq.trans (b := ((0 : Int), (22 : Int))) ?_ ?_
      · generalize (if (x.op = 13 ∨ x.op = 14) ∧ ¬ ((i : Int) + 1 ≤ x.n ∧ x.n ≤ (st.length : Int) - 1) then none else some (encS nx)) = o
        cases o with
        | none => rfl
        | some nx => dsimp only; rw [if_pos (Or.inr (fun h => h24 (h.2 hi)))]; rfl
      · rw [if_neg h24]
        by_cases h13 : x.op = 13
        · rw [if_pos h13]
          by_cases h : x.n > i
          · rw [if_pos h, reach_none (by omega)]; rfl
          · rw [if_neg h]; rfl
        by_cases h14 : x.op = 14
        · rw [if_neg h13, if_pos h14]
          by_cases h : x.n > i
          · rw [if_pos h, reach_none (by omega)]; rfl
          · rw [if_neg h]; rfl
        rw [if_neg h13, if_neg h14, reach_none (by omega)]; rfl
theorem run_ok {code : List Ins} {st0 : List (Option Shp)} (h0 : OkSt st0) : ∀ k st, runM code k st0 = some st → OkSt st ∧ st.length = st0.length
  | 0, st, h => by cases h; exact ⟨h0, rfl⟩
  | k + 1, st, h => by
    obtain ⟨s1, h1, h2⟩ := Option.bind_eq_some_iff.1 h
    obtain ⟨a, b⟩ := run_ok h0 k s1 h1
    obtain ⟨c, d⟩ := step_ok a h2
    exact ⟨c, by omega⟩
theorem run_eq {code : List Ins} {st0 : List (Option Shp)} (h0 : OkSt st0) : ∀ k, k + 1 ≤ st0.length → runR code k (st0.map encO) = (runM code k st0).map (List.map encO)
  | 0, _ => rfl
  | k + 1, hk => by
    rw [runR, runM, run_eq h0 k (by omega)]
    cases h : runM code k st0 with
    | none => rfl
    | some st =>
      obtain ⟨a, b⟩ := run_ok h0 k st h
      exact step_eq a (by omega)
theorem ver_eq (code : List Ins) : verR code = verM code := by
  unfold verR verM
  by_cases hl : code.length = 0 ∨ code.length > 200
  · rw [if_pos hl, if_pos hl]
  rw [if_neg hl, if_neg hl]
  obtain ⟨m, hm⟩ : ∃ m, code.length = m + 1 := ⟨code.length - 1, by omega⟩
  rw [hm, Nat.add_sub_cancel]
  have h0 : OkSt ((some []) :: List.replicate m none) := by
    intro s hs
    simp at hs
    subst hs
    intro k hk; cases hk
  have e0 : ([] : Str) :: List.replicate m [63] = ((some []) :: List.replicate m none).map encO := by simp [encO, encS]
  have key : finR m (runR code (m + 1) ([] :: List.replicate m [63])) = finM m (runM code (m + 1) ((some []) :: List.replicate m none)) := by
    rw [e0, runR, runM, run_eq h0 m (by simp)]
    cases h : runM code m ((some []) :: List.replicate m none) with
    | none => rfl
    | some st =>
      obtain ⟨a, b⟩ := run_ok h0 m st h
      exact last_eq a (by simp at b; omega)
  exact key
end Go.Proofs.YtgpibcgebpgmiaaDoor


/-
The walk engine, part 15: a drawn region whose world has as many blocks as the one before; a new block by its number.
-/
namespace Go.Eng
open Go Go.RowKit Go.Proofs
set_option linter.unusedVariables false
section
variable {P : Program} {n : Nat} {Q : Exit → Act → World → Prop} {e : Env} {w : World}
theorem WC_drawnE {id : Nat} {l : List Oper} (m : Nat) (S : List Nat) (Lt : List Nat) (ord : List (Nat × Nat)) (hlm : l.length = m) (hm : P.follows .mixedOrders = true) (hs : Region.noSelect l.toArray = true) (hl : Nat.beq (wt ord) l.length = true)
    (hB : checkD l.toArray Lt ord (Array.replicate m false) = true)
    (h : ∀ w', Stp [] w w' → w'.heap.size = w.heap.size → WD P n l.toArray S Lt Q ord e w') : WC P n (.region id l.toArray true) Q e w := by
  subst hlm
  refine ⟨fun a ha => wp_region_any hm ?_⟩
  have h1 := (h { w with drawn := w.drawn + 1 } (Stp.drew [] w) rfl).h _ hs hB a ha
  have h2 := wpAny_of_E (Q := Q) (fun a w hz => hz) _ _ _ _ h1
  rw [Nat.eq_of_beq_eq_true hl] at h2
  simpa using h2
def NewBlkE (w : World) (T : TypeId) (cs : List Value) (v : Value) (w' : World) : Prop := v = .pointer (some ⟨w.heap.size, 0, none⟩) ∧ Blk w' w.heap.size T cs ∧ Stp [] w w'
theorem OE_allocE {d : Option Nat} {ty : TypeId} {pos : String} {af : Array Edge} {g : Option (Nat × Bool)} {t : TypeId} {z : Value} [hz : Zer P t z] : OE P n ⟨d, .alloc t, ty, pos, af, g⟩ e w (NewBlkE w t z.cells.toList) := by
  refine OE_value (v := .pointer (some ⟨w.heap.size, 0, none⟩)) (w' := w.alloc (.cells z.cells t)) (fun a ha => ?_) ?_
  · simp [execOp, Instr.alloc, Zer.run, newVar, newRow, newObj]; rfl
  · have h := newBlk w t z.cells.toList
    obtain ⟨b, hb, hb2, h1, h2⟩ := h
    simp only [Value.pointer.injEq, Option.some.injEq, Addr.mk.injEq] at hb
    obtain ⟨rfl, -⟩ := hb
    exact ⟨rfl, by simpa using h1, by simpa using h2⟩
theorem oper_monoQ {o : Oper} {a : Act} {w : World} {K K' : Act → World → Prop} {Q' : Exit → Act → World → Prop} (h : ∀ a w, K a w → K' a w) (hq : ∀ ex a w, Q' ex a w → Q ex a w)
    (hh : o.wp P a w K Q') : o.wp P a w K' Q := by
  unfold Oper.wp at *
  generalize (execOp a.eval o).run P w = r at *
  cases r with
  | ok n w' =>
    cases n <;> simp only [Oper.upon] at hh ⊢ <;>
      first
        | exact h _ _ hh
        | exact Calls.mono hh (fun e w'' he => by cases e <;> first | exact h _ _ he | exact hq _ _ _ he | exact he.elim (fun a h => h.elim (fun w h => ⟨a, w, hq _ _ _ h⟩)))
        | exact Rows.mono hh (fun _ _ he => h _ _ he)
  | halt x w' => cases x <;> simp only [Oper.upon] at hh ⊢ <;> first | exact hq _ _ _ hh | exact hh
theorem wpList_monoQ {ops : Array Oper} {Q' : Exit → Act → World → Prop} (hq : ∀ ex a w, Q' ex a w → Q ex a w) : ∀ (l : List Oper) (a : Act) (w : World), wpList P ops Q' l a w → wpList P ops Q l a w
  | [], a, w, h => hq _ _ _ h
  | o :: rest, a, w, h => by
    unfold wpList at h ⊢
    split
    · rename_i hw
      rw [if_pos hw] at h
      rcases h with h | ⟨h1, a', w', h2⟩
      · exact .inl (oper_monoQ (fun a w h => wpList_monoQ hq rest a w h) hq h)
      · exact .inr ⟨h1, a', w', hq _ _ _ h2⟩
    · rename_i hw
      rw [if_neg hw] at h
      exact wpList_monoQ hq rest _ _ h
/-- a cut inside a region -/
theorem WL_cutQ {y : Code} {σ : Type} {ops : Array Oper} {l : List Oper} (env : σ → Env) (I : σ → World → Prop)
    (h : WL P n ops (Exit.then (fun a w => ∃ s, Has n (env s) a ∧ I s w) Q) l e w) (k : ∀ s w, I s w → WC P n y Q (env s) w) : WL P n ops (Exit.then (fun a w => y.wp P Q a w) Q) l e w :=
  ⟨fun a ha => wpList_monoQ (fun ex a w hq => by
    cases ex with
    | normal => obtain ⟨s, h1, h2⟩ := hq; exact (k s w h2).h a h1
    | _ => exact hq) l a w (h.h a ha)⟩
end
end Go.Eng


namespace Go.Proofs.YtgpibcgebpgmiaaDoor
open Go Go.Eng Go.RowKit
set_option linter.unusedVariables false

theorem buildSL2 (p q : Option Addr) (l m c d : Nat) (w : World) : (Instr.buildSlice 109 2 #[(0, .slice p l c), (1, .slice q m d)]).run Tryd.prog w = .ok (.slice (some ⟨w.heap.size, 0, none⟩) 2 2) (w.alloc (.cells #[.slice p l c, .slice q m d] 22)) := by kernel_rfl
theorem Vf.shps {w : World} {bv base : Nat} {cv hv sv : Value} {code : List Ins} {st : List (Option Shp)} (h : Vf w bv base cv hv sv code st) : SlV (bv :: ob sv) w hv (shpS st) :=
  h.shp.slvX (fun b hb => by
    rcases List.mem_cons.1 hb with rfl | hb
    · exact h.nh
    · exact fun hb' => h.apart b hb' hb)
theorem Vf.bounds {w : World} {bv base : Nat} {cv hv sv : Value} {code : List Ins} {st : List (Option Shp)} (h : Vf w bv base cv hv sv code st) : ∀ b ∈ bv :: (ob hv ++ ob sv), b < w.heap.size := fun b hb => by
  have := h.blk.lt
  simp only [List.mem_cons, List.mem_append] at hb
  rcases hb with rfl | hb | hb
  · omega
  · exact (h.shp.ob_le b hb).2
  · exact (h.seen.ob_le b hb).2
theorem eff_len (x : Ins) : (effF x).1.length ≤ 2 ∧ (effF x).2.1.length ≤ 2 ∧ (effF x).2.2.1.length ≤ 1 := by
  obtain ⟨op, n⟩ := x
  by_cases hr : 1 ≤ op ∧ op ≤ 24
  · have hn : op = 1 ∨ op = 2 ∨ op = 3 ∨ op = 4 ∨ op = 5 ∨ op = 6 ∨ op = 7 ∨ op = 8 ∨ op = 9 ∨ op = 10 ∨ op = 11 ∨ op = 12 ∨ op = 13 ∨ op = 14 ∨ op = 15 ∨ op = 16 ∨ op = 17 ∨ op = 18 ∨ op = 19 ∨ op = 20 ∨ op = 21 ∨ op = 22 ∨ op = 23 ∨ op = 24 := by omega
    rcases hn with rfl | rfl | rfl | rfl | rfl | rfl | rfl | rfl | rfl | rfl | rfl | rfl | rfl | rfl | rfl | rfl | rfl | rfl | rfl | rfl | rfl | rfl | rfl | rfl <;> simp [effF]
  · rw [eff_no hr]; simp
theorem step_any (bv base : Nat) (cv hv sv : Value) (code : List Ins) (st : List (Option Shp)) (i : Nat) (w : World) (h : Vf w bv base cv hv sv code st) (hi : i < code.length) (hn : code.length ≤ 1000) (h16 : ∀ s, some s ∈ st → s.length ≤ 16) :
    Calls Tryd.prog 70 #[.pointer (some ⟨bv, 0, none⟩), .int .i64 (i : Int)] w (Ret fun r w' => Stp (bv :: (ob hv ++ ob sv)) w w' ∧ r = .bool (stepM st i code[i]).isSome ∧ ∀ st', stepM st i code[i] = some st' → Vf w' bv base cv hv sv code st') := by
  have hlen := h.len
  have hk1 : i < (shpS st).length := by simp [shpS]; omega
  have hk2 : i < (seenS st).length := by simp [seenS]; omega
  have hist : i < st.length := by omega
  refine calls_of_WC2 (n := 140) Tryd.func70 rfl rfl rfl ?_
  refine W ?_
  refine WC_drawnE 17 ([w.heap.size]) [] [(0, 0), (1, 0), (2, 0), (3, 1), (4, 0), (5, 0), (6, 1), (7, 0), (8, 0), (9, 0), (10, 1), (11, 0), (12, 0), (13, 1), (14, 2), (15, 2), (16, 0)] rfl mixed (by kernel_rfl) (by kernel_rfl) (by kernel_rfl) (fun w1 hS1 hz1 => ?_)
  replace h := h.up hS1
  have hbd := h.bounds
  have hX : ∀ b ∈ bv :: (ob hv ++ ob sv), b ∉ [w.heap.size] := fun b hb hb' => by
    have := hbd b hb
    simp at hb'; omega
  obtain ⟨cbl, hcd, hsp⟩ : Blk w1 bv 112 [cv, hv, sv] ∧ SlV [w.heap.size] w1 cv code ∧ SlV [w.heap.size] w1 hv (shpS st) := ⟨h.blk, h.cod.ext (Stp.refl [] _) (by simp) (fun b hb => .inr (by simp at hb; omega)), h.shps.ext (Stp.refl [] _) (by simp) (fun b hb => .inr (by simp at hb; omega))⟩
  have nb : bv ∉ [w.heap.size] := hX bv (by simp)
  obtain ⟨u, hcell, hsu⟩ := hsp.sub hk1
  refine D ?_
  refine WD_read rfl trivial (fun w' hS' => PR_load1 rfl rfl (cell_on hsp hk1 hS' hcell)) rfl ?_
  refine D ?_
  refine WD_eff rfl trivial OE_allocE (fun _ _ h => h.2.2.mono (by simp)) rfl ?_
  rintro _ w2 ⟨rfl, hblk, hS2⟩
  rw [hz1] at hblk ⊢
  refine WD_eff0 rfl trivial (OE_storeA (us := Flat.enc code[i]) rfl rfl rfl rfl (Flat.one _) hblk rfl) (fun _ _ h => h.1) ?_
  rintro _ w3 ⟨hS3, hblk3⟩
  have hS13 : Stp [] w1 w3 := hS2.own hS3 (fun b hb => .inr (by simp at hb; omega))
  replace h := h.up hS13
  replace hS := hS1.trans hS13
  replace hcd := h.cod
  replace cbl := h.blk
  replace hsp := h.shps
  have hsn := h.seen.slv0
  replace hbd := h.bounds
  have hsu3 : SlV [w.heap.size] w3 u (shpS st)[i].l := hsu.ext ((hS2.mono (by simp)).trans hS3) (by simp) (fun _ h => .inl h)
  clear hblk hS1 hS13 hS2 hS3 hsu hcell
  refine D ?_
  refine W ?_
  refine WL_eff (OE_call rfl (evs1 rfl) (effect_any (w.heap.size :: bv :: (ob hv ++ ob sv)) code[i] _ (fun b hb => by rcases List.mem_cons.1 hb with rfl | hb; exact hblk3.lt; exact hbd b hb))) rfl ?_
  rintro _ w4 ⟨va, vb, vc, rfl, sa, sb, sc, hS4⟩
  have hs4 := hsu3.up hS4
  replace hblk3 := hblk3.up hS4
  replace h := h.up hS4
  replace hsn := hsn.up hS4
  replace hS := hS.trans hS4
  replace cbl := cbl.up hS4
  clear hS4 hsu3
  have hM : stepM st i code[i] = stepM st i code[i] := rfl
  conv at hM => rhs; unfold stepM nextM
  have hgd : st.getD i none = st[i] := by simp [List.getD, hist]
  have hsh : (shpS st)[i].l = (st[i]).getD [] := by simp [shpS]
  have hsk : (seenS st)[i] = (st[i]).isSome := by simp [seenS]
  rw [hgd] at hM
  have hlen16 : (shpS st)[i].l.length ≤ 16 := by
    rw [hsh]
    cases hst : st[i] with
    | none => simp
    | some s => exact h16 s (by rw [← hst]; exact List.getElem_mem hist)
  obtain ⟨el1, el2, el3⟩ := eff_len code[i]
  generalize effF code[i] = E at *
  obtain ⟨ta, al, gi, ok⟩ := E
  dsimp only at sa sb sc el1 el2 el3 hM
  generalize hsv : (shpS st)[i].l = s at *
  refine W ?_
  refine WL_cutQ (σ := Bool) (fun q => [(0, .pointer (some ⟨bv, 0, none⟩)), (1, .int .i64 (i : Int)), (4, .bool false), (5, .pointer (some ⟨w.heap.size, 0, none⟩)), (6, u), (9, vc), (11, .int .i64 ((s.length : Int) - (ta.length : Int))), (75, .bool q)])
    (fun q w' => Stp [] w4 w' ∧ q = ! (decide (st[i].isSome = true ∧ ok = true ∧ ta.length ≤ s.length ∧ (s.drop (s.length - ta.length) = ta ∨ al ≠ [] ∧ s.drop (s.length - ta.length) = al)))) ?_ ?_
  · cases ok with
    | false =>
      repeat' (first | refine W1 ?_ | (exfalso; omega) | refine WL_split rfl rfl (fun hg => ?_) (fun hg => ?_) | refine WL_splitB rfl rfl (fun hg => ?_) (fun hg => ?_) | refine WC_cond rfl (fun hc => ?_) (fun hc => ?_) | refine WC_condB rfl (fun hc => ?_) (fun hc => ?_))
      exact WQ_cut true ⟨rfl, rfl, rfl, rfl, rfl, rfl, rfl, rfl, trivial⟩ ⟨Stp.refl _ _, by simp⟩
    | true =>
      cases hst : st[i].isSome with
      | false =>
        rw [hst] at hsk
        repeat' (first | refine W1 ?_ | (exfalso; omega) | refine WL_split rfl rfl (fun hg => ?_) (fun hg => ?_) | refine WL_splitB rfl rfl (fun hg => ?_) (fun hg => ?_) | refine WC_cond rfl (fun hc => ?_) (fun hc => ?_) | refine WC_condB rfl (fun hc => ?_) (fun hc => ?_))
        · exact WQ_cut true ⟨rfl, rfl, rfl, rfl, rfl, rfl, rfl, rfl, trivial⟩ ⟨Stp.refl _ _, by simp⟩
        · exact WQ_cut true ⟨rfl, rfl, rfl, rfl, rfl, rfl, rfl, rfl, trivial⟩ ⟨Stp.refl _ _, by simp⟩
        · exact absurd (show (!(seenS st)[i]) = false by assumption) (by rw [hsk]; decide)
      | true =>
        rw [hst] at hsk
        by_cases hk : ta.length ≤ s.length
        case neg =>
          repeat' (first | refine W1 ?_ | (exfalso; omega) | refine WL_split rfl rfl (fun hg => ?_) (fun hg => ?_) | refine WL_splitB rfl rfl (fun hg => ?_) (fun hg => ?_) | refine WC_cond rfl (fun hc => ?_) (fun hc => ?_) | refine WC_condB rfl (fun hc => ?_) (fun hc => ?_))
          · exact absurd (show (!(seenS st)[i]) = true by assumption) (by rw [hsk]; decide)
          · exact WQ_cut true ⟨rfl, rfl, rfl, rfl, rfl, rfl, rfl, rfl, trivial⟩ ⟨Stp.refl _ _, by simp [hk]⟩
        have hkk : (s.length : Int) - (ta.length : Int) = ((s.length - ta.length : Nat) : Int) := by omega
        have sd : SlV [w.heap.size] w4 (slc u (s.length - ta.length) s.length 1) (s.drop (s.length - ta.length)) := by
          have := hs4.slc (l := s.length - ta.length) (r := s.length) (by omega) (by omega)
          rw [List.take_length] at this
          exact this
        repeat' (first | refine W1 ?_ | (exfalso; omega) | refine WL_split rfl rfl (fun hg => ?_) (fun hg => ?_) | refine WL_splitB rfl rfl (fun hg => ?_) (fun hg => ?_) | refine WC_cond rfl (fun hc => ?_) (fun hc => ?_) | refine WC_condB rfl (fun hc => ?_) (fun hc => ?_))
        · exact absurd (show (!(seenS st)[i]) = true by assumption) (by rw [hsk]; decide)
        refine WL_slice_l rfl hs4 rfl hkk (by omega) rfl ?_
        refine W ?_
        refine WL_eff (OE_call rfl (evs2 rfl rfl) (EqualI_any _ _ _ _ _ (sd.wk (by simp)) (sa.wk (by simp)))) rfl ?_
        rintro _ w5 ⟨rfl, hS5⟩
        replace sb := sb.up hS5
        replace hs4 := hs4.up hS5
        replace sd := sd.up hS5
        repeat' (first | refine W1 ?_ | (exfalso; omega) | refine WL_split rfl rfl (fun hg => ?_) (fun hg => ?_) | refine WL_splitB rfl rfl (fun hg => ?_) (fun hg => ?_) | refine WC_cond rfl (fun hc => ?_) (fun hc => ?_) | refine WC_condB rfl (fun hc => ?_) (fun hc => ?_))
        · have h1 : ¬ s.drop (s.length - ta.length) = ta := by assumption
          have h2 : (al.length : Int) = 0 := by assumption
          have h3 : al = [] := List.length_eq_zero_iff.1 (by omega)
          exact WQ_cut true ⟨rfl, rfl, rfl, rfl, rfl, rfl, rfl, rfl, trivial⟩ ⟨hS5, by simp [h1, h3]⟩
        · have h1 : ¬ s.drop (s.length - ta.length) = ta := by assumption
          have h2 : ¬ (al.length : Int) = 0 := by assumption
          have h3 : al ≠ [] := fun h => h2 (by simp [h])
          refine WL_slice_l rfl hs4 rfl hkk (by omega) rfl ?_
          refine W ?_
          refine WL_eff (OE_call rfl (evs2 rfl rfl) (EqualI_any _ _ _ _ _ (sd.wk (by simp)) (sb.wk (by simp)))) rfl ?_
          rintro _ w6 ⟨rfl, hS6⟩
          refine W ?_
          refine WQ_cut _ ⟨rfl, rfl, rfl, rfl, rfl, rfl, rfl, rfl, trivial⟩ ⟨hS5.trans hS6, ?_⟩
          by_cases h4 : s.drop (s.length - ta.length) = al <;> simp [h1, h3, h4, hk]
        · have h1 : s.drop (s.length - ta.length) = ta := Classical.not_not.1 (by assumption)
          exact WQ_cut false ⟨rfl, rfl, rfl, rfl, rfl, rfl, rfl, rfl, trivial⟩ ⟨hS5, by simp [h1, hk]⟩
  rintro q w5 ⟨hS5, hq⟩
  try dsimp only at hq ⊢
  replace hs4 := hs4.up hS5
  replace sc := sc.up hS5
  replace hblk3 := hblk3.up hS5
  replace h := h.up hS5
  replace cbl := cbl.up hS5
  replace hS := hS.trans hS5
  clear hS5
  by_cases hC : st[i].isSome = true ∧ ok = true ∧ ta.length ≤ s.length ∧ (s.drop (s.length - ta.length) = ta ∨ al ≠ [] ∧ s.drop (s.length - ta.length) = al)
  case neg =>
    obtain rfl : q = true := by rw [hq, decide_eq_false hC]; rfl
    have hnone : stepM st i code[i] = none := by
      rw [hM]
      cases hst : st[i] with
      | none => rfl
      | some s0 =>
        obtain rfl : s = s0 := by rw [hsh, hst]; rfl
        dsimp only
        rw [if_neg (fun h => hC ⟨by rw [hst]; rfl, h.1, h.2.1, h.2.2.1⟩)]
    refine W ?_
    first | refine WQ_ret1 rfl rfl ?_ | refine WQ_ret2 rfl rfl rfl ?_ | refine WQ_ret3 rfl rfl rfl rfl ?_ | refine WQ_ret0 rfl ?_ | refine WQ_end0 rfl ?_
    exact .mk ⟨hS.mono (by simp), by rw [hnone]; rfl, fun st' h => by rw [hnone] at h; cases h⟩
  obtain rfl : q = false := by rw [hq, decide_eq_true hC]; rfl
  obtain ⟨hst', hok, hk, hC4⟩ := hC
  have hst : st[i] = some s := by
    cases hst : st[i] with
    | none => rw [hst] at hst'; cases hst'
    | some s0 => rw [hsh, hst]; rfl
  rw [hst] at hM
  dsimp only at hM
  have hkk : (s.length : Int) - (ta.length : Int) = ((s.length - ta.length : Nat) : Int) := by omega
  have sk : SlV [w.heap.size] w5 (slc u 0 (s.length - ta.length) 1) (s.take (s.length - ta.length)) := by
    have := hs4.slc (l := 0) (r := s.length - ta.length) (by omega) (by omega)
    rw [List.drop_zero] at this
    exact this
  obtain ⟨p2, c2, hp2⟩ := sk.len
  obtain ⟨p3, c3, rfl⟩ := sc.len
  refine W ?_
  refine WL_slice_h rfl hs4 rfl hkk (by omega) rfl ?_
  rw [hp2] at sk ⊢
  refine W ?_
  refine WL_eff (OE_buildSlice (vs := [(0, .slice p2 (s.take (s.length - ta.length)).length c2), (1, .slice p3 gi.length c3)]) rfl (buildSL2 _ _ _ _ _ _)) rfl ?_
  rintro bl w6 hN
  have sbl : SlV [] w6 bl [(⟨s.take (s.length - ta.length)⟩ : Sl Int), ⟨gi⟩] := hN.slvS (X := []) (by simp) rfl rfl (fun i hi hi' => match i, hi with | 0, _ => sk.wk (by simp) | 1, _ => sc.wk (by simp)) (by simp [maxLen])
  have hT := NewSl.stp hN
  clear hN
  replace hs4 := hs4.up hT
  replace hblk3 := hblk3.up hT
  replace h := h.up hT
  replace cbl := cbl.up hT
  replace hS := hS.trans hT
  clear hT
  refine WL_eff (OE_call rfl (evs1 rfl) (ConcatI_any _ _ _ sbl (by simp) (by simp; omega))) rfl ?_
  rintro rv w7 hrow
  have hcat : [(⟨s.take (s.length - ta.length)⟩ : Sl Int), ⟨gi⟩].flatMap Sl.l = s.take (s.length - ta.length) ++ gi := by simp
  rw [hcat] at hrow
  have hS7 := hrow.2
  have sr := hrow.slv h.bounds
  replace hs4 := hs4.up hS7
  replace hblk3 := hblk3.up hS7
  replace h := h.up hS7
  replace cbl := cbl.up hS7
  replace hS := hS.trans hS7
  clear hS7 hrow
  by_cases h16n : (s.take (s.length - ta.length) ++ gi).length ≤ 16
  case neg =>
    have hnone : stepM st i code[i] = none := by
      rw [hM, if_neg (fun h => h16n h.2.2.2)]
    repeat' (first | refine W1 ?_ | (exfalso; omega) | refine WL_split rfl rfl (fun hg => ?_) (fun hg => ?_) | refine WL_splitB rfl rfl (fun hg => ?_) (fun hg => ?_) | refine WC_cond rfl (fun hc => ?_) (fun hc => ?_) | refine WC_condB rfl (fun hc => ?_) (fun hc => ?_))
    first | refine WQ_ret1 rfl rfl ?_ | refine WQ_ret2 rfl rfl rfl ?_ | refine WQ_ret3 rfl rfl rfl rfl ?_ | refine WQ_ret0 rfl ?_ | refine WQ_end0 rfl ?_
    exact .mk ⟨hS.mono (by simp), by rw [hnone]; rfl, fun st' h => by rw [hnone] at h; cases h⟩
  rw [if_pos ⟨hok, hk, hC4, h16n⟩] at hM
  dsimp only at hM
  generalize s.take (s.length - ta.length) ++ gi = nx at *
  have hcod := h.cod
  by_cases h24 : code[i].op = 24
  · rw [if_pos h24] at hM
    repeat' (first | refine W1 ?_ | (exfalso; omega) | refine WL_split rfl rfl (fun hg => ?_) (fun hg => ?_) | refine WL_splitB rfl rfl (fun hg => ?_) (fun hg => ?_) | refine WC_cond rfl (fun hc => ?_) (fun hc => ?_) | refine WC_condB rfl (fun hc => ?_) (fun hc => ?_))
    · first | refine WQ_ret1 rfl rfl ?_ | refine WQ_ret2 rfl rfl rfl ?_ | refine WQ_ret3 rfl rfl rfl rfl ?_ | refine WQ_ret0 rfl ?_ | refine WQ_end0 rfl ?_
      by_cases hl1 : s.length = 1
      · have hn : stepM st i code[i] = some st := by rw [hM, if_pos ⟨by omega, hl1⟩]
        exact .mk ⟨hS.mono (by simp), by rw [hn]; congr 1; exact decide_eq_true (by omega), fun st' h' => by rw [hn] at h'; cases h'; exact h⟩
      · have hn : stepM st i code[i] = none := by rw [hM, if_neg (fun h => hl1 h.2)]
        exact .mk ⟨hS.mono (by simp), by rw [hn]; congr 1; exact decide_eq_false (by omega), fun st' h' => by rw [hn] at h'; cases h'⟩
    · first | refine WQ_ret1 rfl rfl ?_ | refine WQ_ret2 rfl rfl rfl ?_ | refine WQ_ret3 rfl rfl rfl rfl ?_ | refine WQ_ret0 rfl ?_ | refine WQ_end0 rfl ?_
      have hn : stepM st i code[i] = none := by rw [hM, if_neg (fun h => by omega)]
      exact .mk ⟨hS.mono (by simp), by rw [hn]; rfl, fun st' h => by rw [hn] at h; cases h⟩
  rw [if_neg h24] at hM
  by_cases h13 : code[i].op = 13
  · rw [if_pos h13] at hM
    by_cases hgt : code[i].n > (i : Int)
    · rw [if_pos hgt] at hM
      repeat' (first | refine W1 ?_ | (exfalso; omega) | refine WL_split rfl rfl (fun hg => ?_) (fun hg => ?_) | refine WL_splitB rfl rfl (fun hg => ?_) (fun hg => ?_) | refine WC_cond rfl (fun hc => ?_) (fun hc => ?_) | refine WC_condB rfl (fun hc => ?_) (fun hc => ?_))
      refine WL_eff (OE_call rfl (evs3 rfl rfl rfl) (reach_any bv base cv hv sv _ code st code[i].n nx _ h (by omega) sr)) rfl ?_
      rintro _ w8 ⟨hS8, rfl, hV⟩
      refine W ?_
      first | refine WQ_ret1 rfl rfl ?_ | refine WQ_ret2 rfl rfl rfl ?_ | refine WQ_ret3 rfl rfl rfl rfl ?_ | refine WQ_ret0 rfl ?_ | refine WQ_end0 rfl ?_
      rw [← hM] at hV
      exact .mk ⟨(hS.mono (by simp)).trans hS8, by rw [hM], hV⟩
    · rw [if_neg hgt] at hM
      repeat' (first | refine W1 ?_ | (exfalso; omega) | refine WL_split rfl rfl (fun hg => ?_) (fun hg => ?_) | refine WL_splitB rfl rfl (fun hg => ?_) (fun hg => ?_) | refine WC_cond rfl (fun hc => ?_) (fun hc => ?_) | refine WC_condB rfl (fun hc => ?_) (fun hc => ?_))
      first | refine WQ_ret1 rfl rfl ?_ | refine WQ_ret2 rfl rfl rfl ?_ | refine WQ_ret3 rfl rfl rfl rfl ?_ | refine WQ_ret0 rfl ?_ | refine WQ_end0 rfl ?_
      exact .mk ⟨hS.mono (by simp), by rw [hM]; rfl, fun st' h => by rw [hM] at h; cases h⟩
  rw [if_neg h13] at hM
  by_cases h14 : code[i].op = 14
  · rw [if_pos h14] at hM
    by_cases hgt : code[i].n > (i : Int)
    · rw [if_pos hgt] at hM
      repeat' (first | refine W1 ?_ | (exfalso; omega) | refine WL_split rfl rfl (fun hg => ?_) (fun hg => ?_) | refine WL_splitB rfl rfl (fun hg => ?_) (fun hg => ?_) | refine WC_cond rfl (fun hc => ?_) (fun hc => ?_) | refine WC_condB rfl (fun hc => ?_) (fun hc => ?_))
      refine WL_eff (OE_call rfl (evs3 rfl rfl rfl) (reach_any bv base cv hv sv _ code st code[i].n nx _ h (by omega) sr)) rfl ?_
      rintro _ w8 ⟨hS8, rfl, hV⟩
      have sr8 := sr.ext (X' := bv :: (ob hv ++ ob sv)) hS8 (fun _ h => h) (fun _ h => .inl h)
      cases hr : reachM st code[i].n nx with
      | none =>
        rw [hr] at hM
        refine W ?_
        first | refine WQ_ret1 rfl rfl ?_ | refine WQ_ret2 rfl rfl rfl ?_ | refine WQ_ret3 rfl rfl rfl rfl ?_ | refine WQ_ret0 rfl ?_ | refine WQ_end0 rfl ?_
        exact .mk ⟨(hS.mono (by simp)).trans hS8, by rw [hM]; rfl, fun st' h => by rw [hM] at h; cases h⟩
      | some st1 =>
        rw [hr] at hM
        have h8 := hV st1 hr
        refine W ?_
        refine WL_eff (OE_call rfl (evs3 rfl rfl rfl) (reach_any bv base cv hv sv _ code st1 ((i : Int) + 1) nx _ h8 (by omega) sr8)) rfl ?_
        rintro _ w9 ⟨hS9, rfl, hV9⟩
        refine W ?_
        first | refine WQ_ret1 rfl rfl ?_ | refine WQ_ret2 rfl rfl rfl ?_ | refine WQ_ret3 rfl rfl rfl rfl ?_ | refine WQ_ret0 rfl ?_ | refine WQ_end0 rfl ?_
        exact .mk ⟨((hS.mono (by simp)).trans hS8).trans hS9, by rw [hM]; rfl, fun st' h => hV9 st' (by rw [hM] at h; exact h)⟩
    · rw [if_neg hgt] at hM
      repeat' (first | refine W1 ?_ | (exfalso; omega) | refine WL_split rfl rfl (fun hg => ?_) (fun hg => ?_) | refine WL_splitB rfl rfl (fun hg => ?_) (fun hg => ?_) | refine WC_cond rfl (fun hc => ?_) (fun hc => ?_) | refine WC_condB rfl (fun hc => ?_) (fun hc => ?_))
      first | refine WQ_ret1 rfl rfl ?_ | refine WQ_ret2 rfl rfl rfl ?_ | refine WQ_ret3 rfl rfl rfl rfl ?_ | refine WQ_ret0 rfl ?_ | refine WQ_end0 rfl ?_
      exact .mk ⟨hS.mono (by simp), by rw [hM]; rfl, fun st' h => by rw [hM] at h; cases h⟩
  rw [if_neg h14] at hM
  repeat' (first | refine W1 ?_ | (exfalso; omega) | refine WL_split rfl rfl (fun hg => ?_) (fun hg => ?_) | refine WL_splitB rfl rfl (fun hg => ?_) (fun hg => ?_) | refine WC_cond rfl (fun hc => ?_) (fun hc => ?_) | refine WC_condB rfl (fun hc => ?_) (fun hc => ?_))
  refine WL_eff (OE_call rfl (evs3 rfl rfl rfl) (reach_any bv base cv hv sv _ code st ((i : Int) + 1) nx _ h (by omega) sr)) rfl ?_
  rintro _ w8 ⟨hS8, rfl, hV⟩
  refine W ?_
  first | refine WQ_ret1 rfl rfl ?_ | refine WQ_ret2 rfl rfl rfl ?_ | refine WQ_ret3 rfl rfl rfl rfl ?_ | refine WQ_ret0 rfl ?_ | refine WQ_end0 rfl ?_
  rw [← hM] at hV
  exact .mk ⟨(hS.mono (by simp)).trans hS8, by rw [hM], hV⟩
end Go.Proofs.YtgpibcgebpgmiaaDoor


namespace Go.Proofs.YtgpibcgebpgmiaaDoor
open Go Go.Eng Go.RowKit
set_option linter.unusedVariables false

theorem buildVf (p q r : Option Addr) (l m k c d f : Nat) (w : World) : (Instr.build 112 #[(0, .slice p l c), (1, .slice q m d), (2, .slice r k f)]).run Tryd.prog w = .ok (.agg #[.slice p l c, .slice q m d, .slice r k f]) w := by kernel_rfl
theorem step16 {st st' : List (Option Shp)} {i : Nat} {x : Ins} (h0 : ∀ s, some s ∈ st → s.length ≤ 16) (h : stepM st i x = some st') : ∀ s, some s ∈ st' → s.length ≤ 16 := by
  have hr : ∀ {st st' : List (Option Shp)} {t : Int} {nx : Shp}, (∀ s, some s ∈ st → s.length ≤ 16) → nx.length ≤ 16 → reachM st t nx = some st' → ∀ s, some s ∈ st' → s.length ≤ 16 := by
    intro st st' t nx hst hn h
    unfold reachM at h
    split at h
    · split at h
      · split at h
        · cases h; exact hst
        · cases h
      · cases h
        intro s hs
        rcases List.mem_or_eq_of_mem_set hs with h | h
        · exact hst s h
        · cases h; exact hn
    · cases h
  have hn : ∀ {s nx : Shp}, nextM x s = some nx → nx.length ≤ 16 := by
    intro s nx h
    unfold nextM at h
    dsimp only at h
    split at h
    · rename_i hc
      cases h; exact hc.2.2.2
    · cases h
  unfold stepM at h
  split at h
  · cases h
  · split at h
    · cases h
    · rename_i nx hn'
      have hnx := hn hn'
      split at h
      · split at h
        · cases h; exact h0
        · cases h
      split at h
      · split at h
        · exact hr h0 hnx h
        · cases h
      split at h
      · split at h
        · obtain ⟨s1, h1, h2⟩ := Option.bind_eq_some_iff.1 h
          exact hr (hr h0 hnx h1) hnx h2
        · cases h
      exact hr h0 hnx h
theorem runM_none {code : List Ins} {st0 : List (Option Shp)} {k : Nat} (h : runM code k st0 = none) : ∀ m, k ≤ m → runM code m st0 = none
  | 0, hm => by
    obtain rfl : k = 0 := by omega
    exact h
  | m + 1, hm => by
    by_cases hk : k = m + 1
    · subst hk; exact h
    · rw [runM, runM_none h m (by omega)]; rfl
theorem runM_len {code : List Ins} {st0 : List (Option Shp)} : ∀ {k : Nat} {st : List (Option Shp)}, runM code k st0 = some st → st.length = st0.length
  | 0, st, h => by cases h; rfl
  | k + 1, st, h => by
    obtain ⟨s1, h1, h2⟩ := Option.bind_eq_some_iff.1 h
    have e1 := runM_len h1
    have e2 : st.length = s1.length := by
      unfold stepM at h2
      split at h2
      · cases h2
      · split at h2
        · cases h2
        · split at h2
          · split at h2
            · cases h2; rfl
            · cases h2
          split at h2
          · split at h2
            · exact reachM_len h2
            · cases h2
          split at h2
          · split at h2
            · obtain ⟨s2, h3, h4⟩ := Option.bind_eq_some_iff.1 h2
              rw [reachM_len h4, reachM_len h3]
            · cases h2
          exact reachM_len h2
    omega
theorem step_last {st st' : List (Option Shp)} {i : Nat} {x : Ins} (hi : i + 1 = st.length) (h : stepM st i x = some st') : st' = st ∧ ∃ k, st.getD i none = some [k] := by
  unfold stepM at h
  cases hs : st.getD i none with
  | none => rw [hs] at h; cases h
  | some s =>
    rw [hs] at h
    dsimp only at h
    split at h
    · cases h
    · rename_i nx hn
      split at h
      · split at h
        · rename_i hc
          cases h
          obtain ⟨k, hk⟩ := List.length_eq_one_iff.1 hc.2
          exact ⟨rfl, k, by rw [hk]⟩
        · cases h
      split at h
      · split at h
        · rw [reach_none (by omega)] at h; cases h
        · cases h
      split at h
      · split at h
        · rw [reach_none (by omega)] at h; cases h
        · cases h
      rw [reach_none (by omega)] at h; cases h
theorem Verify_any (v : Value) (code : List Ins) (w : World) (hs : SlV [] w v code) :
    Calls Tryd.prog 27 #[v] w (Ret fun r w' => r = .tuple #[.int .i64 (verM code).1, .int .i64 (verM code).2] ∧ Stp [] w w') := by
  have hmax := hs.max
  obtain ⟨p, c, rfl, -⟩ := id hs
  refine calls_of_WC1 (n := 49) Tryd.func27 rfl rfl rfl ?_
  refine W ?_
  by_cases h0 : code.length = 0 ∨ code.length > 200
  · have hM : verM code = (0, 22) := if_pos h0
    repeat' (first | refine W1 ?_ | (exfalso; omega) | refine WL_split rfl rfl (fun hg => ?_) (fun hg => ?_) | refine WL_splitB rfl rfl (fun hg => ?_) (fun hg => ?_) | refine WC_cond rfl (fun hc => ?_) (fun hc => ?_) | refine WC_condB rfl (fun hc => ?_) (fun hc => ?_))
    all_goals
      first | refine WQ_ret1 rfl rfl ?_ | refine WQ_ret2 rfl rfl rfl ?_ | refine WQ_ret3 rfl rfl rfl rfl ?_ | refine WQ_ret0 rfl ?_ | refine WQ_end0 rfl ?_
      exact .mk ⟨by rw [hM], Stp.refl _ _⟩
  repeat' (first | refine W1 ?_ | (exfalso; omega) | refine WL_split rfl rfl (fun hg => ?_) (fun hg => ?_) | refine WL_splitB rfl rfl (fun hg => ?_) (fun hg => ?_) | refine WC_cond rfl (fun hc => ?_) (fun hc => ?_) | refine WC_condB rfl (fun hc => ?_) (fun hc => ?_))
  have hn0 : 0 < code.length := by omega
  have hn200 : code.length ≤ 200 := by omega
  refine WC_cutQ (σ := Nat × Value × Value) (fun q => [(0, .slice p code.length c), (4, .pointer (some ⟨q.1, 0, none⟩))]) (fun q w' => Vf w' q.1 w.heap.size (.slice p code.length c) q.2.1 q.2.2 code (List.replicate code.length none) ∧ w.heap.size ≤ q.1 ∧ Stp [] w w') ?_ ?_
  · refine WC_drawn 10 [] [] [(0, 0), (1, 0), (2, 0), (4, 0), (5, 0), (3, 9), (6, 2), (7, 0), (8, 2), (9, 0)] rfl mixed (by kernel_rfl) (by kernel_rfl) (by kernel_rfl) (fun w1 hS1 => ?_)
    have hz1 := hS1.size
    refine D ?_
    apply WD_two
    · rfl
    · refine WD1_eff rfl trivial (OE_makeSlice1 (α := Sl Int) (k := code.length) (a0 := ⟨[]⟩) rfl rfl (fun X w => ⟨_, rfl, nilSlv _ _⟩) rfl rfl (by simp [maxLen]; omega) (by omega)) (fun _ _ h => h.2) rfl ?_
      rintro hv w2 ⟨rh, hS2⟩
      refine D ?_
      refine WD_eff rfl trivial (OE_makeSlice1 (α := Bool) (k := code.length) (a0 := false) rfl rfl (fun X w => rfl) rfl rfl (by simp [maxLen]; omega) (by omega)) (fun _ _ h => h.2) rfl ?_
      rintro sv w3 ⟨rs, hS3⟩
      refine D ?_
      obtain ⟨ph, ch, hph⟩ : ∃ p c, hv = .slice p code.length c := by
        have := ((rh []).slv0).len
        simpa using this
      obtain ⟨ps, cs, hps⟩ : ∃ p c, sv = .slice p code.length c := by
        have := ((rs []).slv0).len
        simpa using this
      have hap : ∀ b ∈ ob hv, b ∉ ob sv := fun b h1 h2 => by
        have := (rh []).ob_le b h1
        have := (rs []).ob_le b h2
        omega
      subst hph hps
      refine WF_build rfl trivial (vs := [(0, .slice p code.length c), (1, .slice ph code.length ch), (2, .slice ps code.length cs)]) rfl (buildVf _ _ _ _ _ _ _ _ _) rfl ?_
      refine WD_eff rfl trivial (OE_box rfl) (fun _ _ h => h.choose_spec.2.2.2) rfl ?_
      rintro _ w4 ⟨bv, rfl, hbn, hblk, hS4⟩
      have hS := (hS1.trans hS2).trans (hS3.trans hS4)
      have hz2 := hS2.size
      have hz3 := hS3.size
      refine D ?_
      refine WQ_cut (bv, .slice ph code.length ch, .slice ps code.length cs) ⟨rfl, rfl, trivial⟩ ⟨?_, by omega, hS⟩
      have b1 : ∀ b ∈ ob (.slice ph code.length ch), w.heap.size ≤ b ∧ b < w3.heap.size := fun b h => by have := (rh []).ob_le b h; omega
      have b2 : ∀ b ∈ ob (.slice ps code.length cs), w.heap.size ≤ b ∧ b < w3.heap.size := fun b h => by have := (rs []).ob_le b h; omega
      have e1 : shpS (List.replicate code.length none) = List.replicate code.length ⟨[]⟩ := by simp [shpS]
      have e2 : seenS (List.replicate code.length none) = List.replicate code.length false := by simp [seenS]
      refine ⟨hblk, hs.ext hS (by simp) (fun b hb => .inr ?_), by rw [e1]; exact ((rh _).lower hS1.size).up (hS3.trans hS4), by rw [e2]; exact ((rs _).lower (Nat.le_trans hS1.size hS2.size)).up hS4, fun h => by have := b1 bv h; omega, fun h => by have := b2 bv h; omega, hS.size, hap, by simp⟩
      simp only [List.mem_cons, List.mem_append] at hb
      rcases hb with rfl | h | h
      · omega
      · exact (b1 b h).1
      · exact (b2 b h).1
    · refine WD1_eff rfl trivial (OE_makeSlice1 (α := Bool) (k := code.length) (a0 := false) rfl rfl (fun X w => rfl) rfl rfl (by simp [maxLen]; omega) (by omega)) (fun _ _ h => h.2) rfl ?_
      rintro sv w2 ⟨rs, hS2⟩
      refine WD_eff rfl trivial (OE_makeSlice1 (α := Sl Int) (k := code.length) (a0 := ⟨[]⟩) rfl rfl (fun X w => ⟨_, rfl, nilSlv _ _⟩) rfl rfl (by simp [maxLen]; omega) (by omega)) (fun _ _ h => h.2) rfl ?_
      rintro hv w3 ⟨rh, hS3⟩
      refine D ?_
      obtain ⟨ph, ch, hph⟩ : ∃ p c, hv = .slice p code.length c := by
        have := ((rh []).slv0).len
        simpa using this
      obtain ⟨ps, cs, hps⟩ : ∃ p c, sv = .slice p code.length c := by
        have := ((rs []).slv0).len
        simpa using this
      have hap : ∀ b ∈ ob hv, b ∉ ob sv := fun b h1 h2 => by
        have := (rh []).ob_le b h1
        have := (rs []).ob_le b h2
        omega
      subst hph hps
      refine WF_build rfl trivial (vs := [(0, .slice p code.length c), (1, .slice ph code.length ch), (2, .slice ps code.length cs)]) rfl (buildVf _ _ _ _ _ _ _ _ _) rfl ?_
      refine WD_eff rfl trivial (OE_box rfl) (fun _ _ h => h.choose_spec.2.2.2) rfl ?_
      rintro _ w4 ⟨bv, rfl, hbn, hblk, hS4⟩
      have hS := (hS1.trans hS2).trans (hS3.trans hS4)
      have hz2 := hS2.size
      have hz3 := hS3.size
      refine D ?_
      refine WQ_cut (bv, .slice ph code.length ch, .slice ps code.length cs) ⟨rfl, rfl, trivial⟩ ⟨?_, by omega, hS⟩
      have b1 : ∀ b ∈ ob (.slice ph code.length ch), w.heap.size ≤ b ∧ b < w3.heap.size := fun b h => by have := (rh []).ob_le b h; omega
      have b2 : ∀ b ∈ ob (.slice ps code.length cs), w.heap.size ≤ b ∧ b < w3.heap.size := fun b h => by have := (rs []).ob_le b h; omega
      have e1 : shpS (List.replicate code.length none) = List.replicate code.length ⟨[]⟩ := by simp [shpS]
      have e2 : seenS (List.replicate code.length none) = List.replicate code.length false := by simp [seenS]
      refine ⟨hblk, hs.ext hS (by simp) (fun b hb => .inr ?_), by rw [e1]; exact ((rh _).lower (Nat.le_trans hS1.size hS2.size)).up hS4, by rw [e2]; exact ((rs _).lower hS1.size).up (hS3.trans hS4), fun h => by have := b1 bv h; omega, fun h => by have := b2 bv h; omega, hS.size, hap, by simp⟩
      simp only [List.mem_cons, List.mem_append] at hb
      rcases hb with rfl | h | h
      · omega
      · exact (b1 b h).1
      · exact (b2 b h).1
  rintro ⟨bv, hv, sv⟩ w2 ⟨h, hbn, hS⟩
  dsimp only at h hbn ⊢
  have hblk := h.blk
  have hsn := h.seen.slv0
  have hl0 : (seenS (List.replicate code.length none)).length = code.length := by simp [seenS]
  have hk0 : 0 < (seenS (List.replicate code.length none)).length := by omega
  refine W ?_
  refine WL_eff0 (OE_storeElX (α := Bool) (y' := true) (u := .bool true) rfl rfl rfl rfl h.seen hk0) ?_
  rintro _ w3 ⟨rs3, hS3⟩
  have hS13 : Stp (bv :: (ob hv ++ ob sv)) w2 w3 := hS3.mono (fun b hb => by simp [hb])
  generalize hst0 : (some [] :: List.replicate (code.length - 1) none : List (Option Shp)) = st0 at *
  have hlen0 : st0.length = code.length := by rw [← hst0]; simp; omega
  obtain ⟨m, hm⟩ : ∃ m, code.length = m + 1 := ⟨code.length - 1, by omega⟩
  have e1 : shpS st0 = shpS (List.replicate code.length none) := by rw [← hst0, hm]; simp [shpS, List.replicate_succ]
  have e2 : seenS st0 = (seenS (List.replicate code.length none)).set 0 true := by rw [← hst0, hm]; simp [seenS, List.replicate_succ]
  have h3 : Vf w3 bv w.heap.size (.slice p code.length c) hv sv code st0 := by
    refine ⟨h.blk.ext hS3 h.ns, h.cod.ext hS13 (fun _ h => h) (fun _ h => .inl h), ?_, ?_, h.nh, h.ns, Nat.le_trans h.hi hS3.size, h.apart, hlen0⟩
    · rw [e1]
      exact h.shp.ext (X' := bv :: ob sv) hS3 (fun b hb => ⟨List.mem_cons_of_mem _ hb, fun hb' => h.apart b hb' hb⟩) (fun _ h => .inl h)
    · rw [e2]; exact rs3
  have hB : ∀ b ∈ bv :: (ob hv ++ ob sv), w.heap.size ≤ b := fun b hb => by
    simp only [List.mem_cons, List.mem_append] at hb
    rcases hb with rfl | hb | hb
    · exact hbn
    · exact (h.shp.ob_le b hb).1
    · exact (h.seen.ob_le b hb).1
  have hS' := hS.own hS13 (fun b hb => .inr (hB b hb))
  have h160 : ∀ s, some s ∈ st0 → s.length ≤ 16 := by
    intro s hs
    rw [← hst0] at hs
    simp at hs
    rw [hs]; simp
  have hverM : verM code = match runM code code.length st0 with
    | none => (0, 22)
    | some st => (((st.getD (code.length - 1) none).getD []).headD 0, 0) := by
    rw [← hst0]; exact if_neg h0
  clear hsn hblk h e1 e2 hS3 hS13 rs3 hS
  refine W ?_
  refine WC_loop (σ := Nat × List (Option Shp)) (fun q => [(0, .slice p code.length c), (4, .pointer (some ⟨bv, 0, none⟩)), (29, .int .i64 (code.length : Int)), (30, .int .i64 (q.1 : Int))])
    (fun q w' => q.1 ≤ code.length ∧ runM code q.1 st0 = some q.2 ∧ Vf w' bv w.heap.size (.slice p code.length c) hv sv code q.2 ∧ (∀ s, some s ∈ q.2 → s.length ≤ 16) ∧ Stp [] w w') (fun q => code.length - q.1) (0, st0) ⟨rfl, rfl, rfl, rfl, trivial⟩ ⟨Nat.zero_le _, rfl, h3, h160, hS'⟩ ?_
  rintro ⟨k, st⟩ w4 ⟨hk, hrun, h4, h16, hS4⟩
  try dsimp only at hk hrun h4 h16 ⊢
  by_cases hlt : k < code.length
  · repeat' (first | refine W1 ?_ | (exfalso; omega) | refine WL_split rfl rfl (fun hg => ?_) (fun hg => ?_) | refine WL_splitB rfl rfl (fun hg => ?_) (fun hg => ?_) | refine WC_cond rfl (fun hc => ?_) (fun hc => ?_) | refine WC_condB rfl (fun hc => ?_) (fun hc => ?_))
    refine WL_eff (OE_call rfl (evs2 rfl rfl) (step_any bv w.heap.size _ hv sv code st k _ h4 hlt (by omega) h16)) rfl ?_
    rintro _ w5 ⟨hS5, rfl, hV⟩
    replace hS5 := hS4.own hS5 (fun b hb => .inr (hB b hb))
    have hcg : code.getD k ⟨0, 0⟩ = code[k] := by simp [List.getD, hlt]
    have hnext : runM code (k + 1) st0 = stepM st k code[k] := by rw [runM, hrun, Option.bind_some, hcg]
    cases hst : stepM st k code[k] with
    | none =>
      have hn : verM code = (0, 22) := by rw [hverM, runM_none (hnext.trans hst) code.length hlt]
      refine W ?_
      first | refine WQ_ret1 rfl rfl ?_ | refine WQ_ret2 rfl rfl rfl ?_ | refine WQ_ret3 rfl rfl rfl rfl ?_ | refine WQ_ret0 rfl ?_ | refine WQ_end0 rfl ?_
      exact .mk ⟨by rw [hn], hS5⟩
    | some st1 =>
      refine W ?_
      exact WQ_loop (k + 1, st1) ⟨rfl, rfl, rfl, rfl, trivial⟩ ⟨hlt, hnext.trans hst, hV st1 hst, step16 h16 hst, hS5⟩ (Nat.sub_lt_sub_left hlt (Nat.lt_succ_self k))
  · obtain rfl : k = code.length := by omega
    have hlst := runM_len hrun
    have hlast : ∃ a, st.getD (code.length - 1) none = some [a] := by
      rw [hm, runM] at hrun
      obtain ⟨s1, r1, r2⟩ := Option.bind_eq_some_iff.1 hrun
      have hl1 := runM_len r1
      obtain ⟨rfl, a, ha⟩ := step_last (by omega) r2
      exact ⟨a, by rw [hm]; exact ha⟩
    obtain ⟨a, ha⟩ := hlast
    have hve : verM code = (a, 0) := by rw [hverM, hrun]; dsimp only; rw [ha]; rfl
    have hblk := h4.blk
    have hshp := h4.shps
    have hshl : (shpS st).length = code.length := by simp [shpS]; omega
    have hkm : m < (shpS st).length := by omega
    have hkk : (code.length : Int) - 1 = (m : Int) := by omega
    obtain ⟨u, hcell, hsu⟩ := hshp.sub hkm
    have hul : (shpS st)[m].l = [a] := by
      have : st.getD m none = some [a] := by rw [← ha, hm]; rfl
      have h2 : st.getD m none = st[m]'(by omega) := by simp [List.getD, show m < st.length by omega]
      have h5 : (shpS st)[m] = ⟨(st[m]'(by omega)).getD []⟩ := by simp [shpS]
      rw [h5, ← h2, this]; rfl
    rw [hul] at hsu
    repeat' (first | refine W1 ?_ | (exfalso; omega) | refine WL_split rfl rfl (fun hg => ?_) (fun hg => ?_) | refine WL_splitB rfl rfl (fun hg => ?_) (fun hg => ?_) | refine WC_cond rfl (fun hc => ?_) (fun hc => ?_) | refine WC_condB rfl (fun hc => ?_) (fun hc => ?_))
    apply WL_pure (PR_load1 rfl rfl hcell) rfl
    have h01 : 0 < [a].length := by simp
    refine W ?_
    first | refine WQ_ret1 rfl rfl ?_ | refine WQ_ret2 rfl rfl rfl ?_ | refine WQ_ret3 rfl rfl rfl rfl ?_ | refine WQ_ret0 rfl ?_ | refine WQ_end0 rfl ?_
    exact .mk ⟨by rw [hve]; rfl, hS4⟩
end Go.Proofs.YtgpibcgebpgmiaaDoor


namespace Go.Proofs.YtgpibcgebpgmiaaDoor
open Go Go.Eng Go.RowKit
set_option linter.unusedVariables false

def aftOut (o : Option Str) : Value := .tuple #[str (o.getD []), .bool o.isSome]
theorem rows_small (x : Ins) (a z : Nat) : ∀ r ∈ rowsF x a z, r.t.length ≤ 2 ∧ r.g.length ≤ 1 := by
  obtain ⟨op, n⟩ := x
  by_cases hr : 1 ≤ op ∧ op ≤ 24
  · have hn : op = 1 ∨ op = 2 ∨ op = 3 ∨ op = 4 ∨ op = 5 ∨ op = 6 ∨ op = 7 ∨ op = 8 ∨ op = 9 ∨ op = 10 ∨ op = 11 ∨ op = 12 ∨ op = 13 ∨ op = 14 ∨ op = 15 ∨ op = 16 ∨ op = 17 ∨ op = 18 ∨ op = 19 ∨ op = 20 ∨ op = 21 ∨ op = 22 ∨ op = 23 ∨ op = 24 := by omega
    rcases hn with rfl | rfl | rfl | rfl | rfl | rfl | rfl | rfl | rfl | rfl | rfl | rfl | rfl | rfl | rfl | rfl | rfl | rfl | rfl | rfl | rfl | rfl | rfl | rfl
    case inr.inr.inr.inl =>
      intro r h
      have h' : r ∈ (if 0 ≤ n ∧ n < 7 then [(⟨0, 6, [], fieldS.getD n.toNat []⟩ : RwT)] else []) := h
      split at h'
      · rename_i hc
        have hn : n = 0 ∨ n = 1 ∨ n = 2 ∨ n = 3 ∨ n = 4 ∨ n = 5 ∨ n = 6 := by omega
        simp only [List.mem_singleton] at h'
        subst h'
        rcases hn with rfl | rfl | rfl | rfl | rfl | rfl | rfl <;> decide
      · cases h'
    all_goals (intro r h; simp [rowsF] at h; first | (subst h; exact ⟨by first | decide | simp, by first | decide | simp⟩) | (rcases h with rfl | rfl <;> exact ⟨by decide, by decide⟩))
  · rw [rows_no hr]; intro r h; cases h
theorem After_any (x : Ins) (i z : Nat) (sh : Str) (w : World) (hi : i ≤ 100000) (hz : z ≤ 100000) (hsh : sh.length ≤ 1000) :
    Calls Tryd.prog 114 #[agg x, .int .i64 (i : Int), .int .i64 (z : Int), str sh] w (Ret fun r w' => r = aftOut (afterM x i z sh) ∧ Stp [] w w') := by
  refine calls_of_WC4 (n := 85) Tryd.func114 rfl rfl rfl ?_
  refine W ?_
  refine WL_eff (OE_box rfl) rfl ?_
  rintro _ w1 ⟨b, rfl, hb, hblk, hS⟩
  replace hblk : Blk w1 b _ [.int .i64 x.op, .int .i64 x.n] := hblk
  refine W ?_
  refine WL_eff (OE_call rfl (evs3 rfl rfl rfl) (rows_any [] x i z _ hi hz (by simp))) rfl ?_
  rintro lv w2 ⟨sl, hS2⟩
  replace hblk := hblk.up hS2
  replace hS := hS.trans hS2
  clear hS2
  have hsm := rows_small x i z
  have hA : afterM x i z sh = firstM x.n sh (rowsF x i z) := rfl
  generalize rowsF x i z = l at *
  have hmax := sl.max
  refine W ?_
  refine WC_loop (σ := Nat) (fun j => [(3, str sh), (4, .pointer (some ⟨b, 0, none⟩)), (10, lv), (11, .int .i64 (j : Int))]) (fun j w' => j ≤ l.length ∧ Stp [] w2 w' ∧ firstM x.n sh l = firstM x.n sh (l.drop j)) (fun j => l.length - j) 0 ⟨rfl, rfl, rfl, rfl, trivial⟩ ⟨Nat.zero_le _, Stp.refl _ _, rfl⟩ ?_
  rintro j w3 ⟨hj, hS3, heq⟩
  try dsimp only at hj heq ⊢
  replace hblk := hblk.up hS3
  replace sl := sl.up hS3
  by_cases hlt : j < l.length
  case neg =>
    repeat' (first | refine W1 ?_ | (exfalso; omega) | refine WL_split rfl rfl (fun hg => ?_) (fun hg => ?_) | refine WL_splitB rfl rfl (fun hg => ?_) (fun hg => ?_) | refine WC_cond rfl (fun hc => ?_) (fun hc => ?_) | refine WC_condB rfl (fun hc => ?_) (fun hc => ?_))
    first | refine WQ_ret1 rfl rfl ?_ | refine WQ_ret2 rfl rfl rfl ?_ | refine WQ_ret3 rfl rfl rfl rfl ?_ | refine WQ_ret0 rfl ?_ | refine WQ_end0 rfl ?_
    refine .mk ⟨?_, hS.trans hS3⟩
    rw [hA, heq, List.drop_eq_nil_of_le (by omega)]; rfl
  obtain ⟨st, sg⟩ := hsm _ (List.getElem_mem hlt)
  have hd : l.drop j = l[j] :: l.drop (j + 1) := List.drop_eq_getElem_cons hlt
  repeat' (first | refine W1 ?_ | (exfalso; omega) | refine WL_split rfl rfl (fun hg => ?_) (fun hg => ?_) | refine WL_splitB rfl rfl (fun hg => ?_) (fun hg => ?_) | refine WC_cond rfl (fun hc => ?_) (fun hc => ?_) | refine WC_condB rfl (fun hc => ?_) (fun hc => ?_))
  refine WC_drawn 44 [] [] [(0, 0), (1, 1), (2, 0), (3, 0), (4, 0), (5, 0), (6, 1), (7, 0), (8, 0), (9, 0), (10, 1), (11, 0), (12, 0), (13, 0), (14, 0), (15, 1), (16, 0), (17, 0), (18, 0), (19, 0), (20, 0), (21, 0), (22, 0), (23, 0), (24, 0), (25, 0), (26, 0), (27, 0), (28, 0), (29, 0), (30, 1), (31, 0), (32, 0), (33, 0), (34, 0), (35, 0), (36, 0), (37, 0), (38, 0), (39, 1), (40, 0), (41, 0), (42, 0), (43, 0)] rfl mixed (by kernel_rfl) (by kernel_rfl) (by kernel_rfl) (fun w1 hS1 => ?_)
  replace hblk := hblk.up hS1
  replace sl := sl.up hS1
  replace hS3 := hS3.trans hS1
  by_cases hr : l[j].lo ≤ x.n ∧ x.n ≤ l[j].hi ∧ l[j].t.length ≤ sh.length
  case neg =>
    have hrow : firstM x.n sh l = firstM x.n sh (l.drop (j + 1)) := by
      rw [heq, hd, firstM, rowM, if_neg (fun h => hr ⟨h.1, h.2.1, h.2.2.1⟩)]
    repeat' (first | refine D1 ?_ | (exfalso; omega) | refine WD_splitN rfl rfl rfl rfl (fun hg => ?_) (fun hg => ?_) | (refine WD_splitBN rfl rfl rfl rfl (fun hg => ?_) (fun hg => ?_) <;> refine D1 ?_) | fail)
    all_goals (repeat' (first | refine W1 ?_ | (exfalso; omega) | refine WL_split rfl rfl (fun hg => ?_) (fun hg => ?_) | refine WL_splitB rfl rfl (fun hg => ?_) (fun hg => ?_) | refine WC_cond rfl (fun hc => ?_) (fun hc => ?_) | refine WC_condB rfl (fun hc => ?_) (fun hc => ?_)))
    all_goals exact WQ_loop (j + 1) ⟨rfl, rfl, rfl, rfl, trivial⟩ ⟨hlt, hS3, hrow⟩ (Nat.sub_lt_sub_left hlt (Nat.lt_succ_self j))
  have hkk : (sh.length : Int) - (l[j].t.length : Int) = ((sh.length - l[j].t.length : Nat) : Int) := by omega
  have hrow : firstM x.n sh l = if sh.drop (sh.length - l[j].t.length) = l[j].t ∧ sh.length - l[j].t.length + l[j].g.length ≤ 16 then some (sh.take (sh.length - l[j].t.length) ++ l[j].g) else firstM x.n sh (l.drop (j + 1)) := by
    rw [heq, hd, firstM, rowM]
    by_cases hc : sh.drop (sh.length - l[j].t.length) = l[j].t ∧ sh.length - l[j].t.length + l[j].g.length ≤ 16
    · rw [if_pos ⟨hr.1, hr.2.1, hr.2.2, hc⟩, if_pos hc]
    · rw [if_neg (fun h => hc h.2.2.2), if_neg hc]
  obtain ⟨hr1, hr2, hr3⟩ := hr
  repeat' (first | refine D1 ?_ | (exfalso; omega) | refine WD_splitN rfl rfl rfl rfl (fun hg => ?_) (fun hg => ?_) | (refine WD_splitBN rfl rfl rfl rfl (fun hg => ?_) (fun hg => ?_) <;> refine D1 ?_) | fail)
  refine WF_sliceT_l rfl rfl rfl rfl hkk (by omega) rfl ?_
  by_cases he : sh.drop (sh.length - l[j].t.length) = l[j].t ∧ sh.length - l[j].t.length + l[j].g.length ≤ 16
  · rw [if_pos he] at hrow
    obtain ⟨he1, he2⟩ := he
    repeat' (first | refine D1 ?_ | (exfalso; omega) | refine WD_splitN rfl rfl rfl rfl (fun hg => ?_) (fun hg => ?_) | (refine WD_splitBN rfl rfl rfl rfl (fun hg => ?_) (fun hg => ?_) <;> refine D1 ?_) | fail)
    all_goals (repeat' (first | refine W1 ?_ | (exfalso; omega) | refine WL_split rfl rfl (fun hg => ?_) (fun hg => ?_) | refine WL_splitB rfl rfl (fun hg => ?_) (fun hg => ?_) | refine WC_cond rfl (fun hc => ?_) (fun hc => ?_) | refine WC_condB rfl (fun hc => ?_) (fun hc => ?_)))
    · refine WC_drawn 11 [] [] [(0, 0), (1, 0), (2, 0), (3, 0), (4, 0), (5, 0), (6, 0), (7, 1), (8, 0), (9, 0), (10, 0)] rfl mixed (by kernel_rfl) (by kernel_rfl) (by kernel_rfl) (fun w1 hS1 => ?_)
      replace hblk := hblk.up hS1
      replace sl := sl.up hS1
      replace hS3 := hS3.trans hS1
      have hadd : (sh.take (sh.length - l[j].t.length)).length + l[j].g.length ≤ 9223372036854775807 := by simp; omega
      refine D ?_
      refine WF_sliceT_h rfl trivial rfl rfl hkk (by omega) rfl ?_
      refine D ?_
      refine W ?_
      first | refine WQ_ret1 rfl rfl ?_ | refine WQ_ret2 rfl rfl rfl ?_ | refine WQ_ret3 rfl rfl rfl rfl ?_ | refine WQ_ret0 rfl ?_ | refine WQ_end0 rfl ?_
      exact .mk ⟨by rw [hA, hrow]; rfl, hS.trans hS3⟩
    · exact absurd he1 (by assumption)
  · rw [if_neg he] at hrow
    repeat' (first | refine D1 ?_ | (exfalso; omega) | refine WD_splitN rfl rfl rfl rfl (fun hg => ?_) (fun hg => ?_) | (refine WD_splitBN rfl rfl rfl rfl (fun hg => ?_) (fun hg => ?_) <;> refine D1 ?_) | fail)
    all_goals (repeat' (first | refine W1 ?_ | (exfalso; omega) | refine WL_split rfl rfl (fun hg => ?_) (fun hg => ?_) | refine WL_splitB rfl rfl (fun hg => ?_) (fun hg => ?_) | refine WC_cond rfl (fun hc => ?_) (fun hc => ?_) | refine WC_condB rfl (fun hc => ?_) (fun hc => ?_)))
    · exact absurd ⟨by assumption, by omega⟩ he
    all_goals exact WQ_loop (j + 1) ⟨rfl, rfl, rfl, rfl, trivial⟩ ⟨hlt, hS3, hrow⟩ (Nat.sub_lt_sub_left hlt (Nat.lt_succ_self j))
end Go.Proofs.YtgpibcgebpgmiaaDoor


namespace Go.Proofs.YtgpibcgebpgmiaaDoor
open Go Go.Eng Go.RowKit
set_option linter.unusedVariables false

theorem buildSS3 (a b c : Str) (w : World) : (Instr.buildSlice 100 3 #[(0, str a), (1, str b), (2, str c)]).run Tryd.prog w = .ok (.slice (some ⟨w.heap.size, 0, none⟩) 3 3) (w.alloc (.cells #[str a, str b, str c] 9)) := by kernel_rfl
abbrev RwS (w w' : World) (v : Value) (xs : List Str) : Prop := RowF 9 w w' v xs
theorem after_range {x : Ins} {i z : Nat} {sh nx : Str} (h : afterM x i z sh = some nx) (hx : x.op = 13 ∨ x.op = 14) : (i : Int) + 1 ≤ x.n ∧ x.n ≤ (z : Int) - 1 := by
  have key : ∀ {n lo hi : Int} {t g : Str}, firstM n sh [⟨lo, hi, t, g⟩] = some nx → lo ≤ n ∧ n ≤ hi := by
    intro n lo hi t g h
    unfold firstM rowM at h
    by_cases hc : lo ≤ n ∧ n ≤ hi ∧ t.length ≤ sh.length ∧ sh.drop (sh.length - t.length) = t ∧ sh.length - t.length + g.length ≤ 16
    · exact ⟨hc.1, hc.2.1⟩
    · dsimp only at h
      rw [if_neg hc] at h
      cases h
  obtain ⟨op, n⟩ := x
  rcases hx with hx | hx <;> (dsimp only at hx; subst hx)
  · exact key (show firstM n sh [⟨(i : Int) + 1, (z : Int) - 1, [], []⟩] = some nx from h)
  · exact key (show firstM n sh [⟨(i : Int) + 1, (z : Int) - 1, [98], []⟩] = some nx from h)
theorem after_len {x : Ins} {i z : Nat} {sh nx : Str} (h : afterM x i z sh = some nx) : nx.length ≤ 16 := by
  unfold afterM at h
  generalize rowsF x i z = l at h
  induction l with
  | nil => cases h
  | cons r l ih =>
    unfold firstM at h
    cases hr : rowM x.n sh r with
    | none => rw [hr] at h; exact ih h
    | some s =>
      rw [hr] at h
      cases h
      unfold rowM at hr
      split at hr
      · rename_i hc
        cases hr
        simp; omega
      · cases hr
theorem runR_none {code : List Ins} {st0 : List Str} {k : Nat} (h : runR code k st0 = none) : ∀ m, k ≤ m → runR code m st0 = none
  | 0, hm => by
    obtain rfl : k = 0 := by omega
    exact h
  | m + 1, hm => by
    by_cases hk : k = m + 1
    · subst hk; exact h
    · rw [runR, runR_none h m (by omega)]; rfl
theorem cls (s : Str) : idx (isS s) [[110], [98], [100]] = if s = [110] then 0 else if s = [98] then 1 else if s = [100] then 2 else -1 := by
  by_cases h1 : s = [110]
  · subst h1; rfl
  by_cases h2 : s = [98]
  · subst h2; rfl
  by_cases h3 : s = [100]
  · subst h3; rfl
  rw [if_neg h1, if_neg h2, if_neg h3]
  have e1 : decide (([110] : Str) = s) = false := decide_eq_false (fun h => h1 h.symm)
  have e2 : decide (([98] : Str) = s) = false := decide_eq_false (fun h => h2 h.symm)
  have e3 : decide (([100] : Str) = s) = false := decide_eq_false (fun h => h3 h.symm)
  simp [idx, isS, List.findIdx?_cons, e1, e2, e3]
theorem VerifyR_any (v : Value) (code : List Ins) (w : World) (hs : SlV [] w v code) :
    Calls Tryd.prog 89 #[v] w (Ret fun r w' => r = .tuple #[.int .i64 (verM code).1, .int .i64 (verM code).2] ∧ Stp [] w w') := by
  have hmax := hs.max
  rw [← ver_eq]
  refine calls_of_WC1 (n := 158) Tryd.func89 rfl rfl rfl ?_
  refine W ?_
  by_cases h0 : code.length = 0 ∨ code.length > 200
  · have hM : verR code = (0, 22) := if_pos h0
    repeat' (first | refine W1 ?_ | (exfalso; omega) | refine WL_split rfl rfl (fun hg => ?_) (fun hg => ?_) | refine WL_splitB rfl rfl (fun hg => ?_) (fun hg => ?_) | refine WC_cond rfl (fun hc => ?_) (fun hc => ?_) | refine WC_condB rfl (fun hc => ?_) (fun hc => ?_))
    all_goals
      first | refine WQ_ret1 rfl rfl ?_ | refine WQ_ret2 rfl rfl rfl ?_ | refine WQ_ret3 rfl rfl rfl rfl ?_ | refine WQ_ret0 rfl ?_ | refine WQ_end0 rfl ?_
      exact .mk ⟨by rw [hM], Stp.refl _ _⟩
  repeat' (first | refine W1 ?_ | (exfalso; omega) | refine WL_split rfl rfl (fun hg => ?_) (fun hg => ?_) | refine WL_splitB rfl rfl (fun hg => ?_) (fun hg => ?_) | refine WC_cond rfl (fun hc => ?_) (fun hc => ?_) | refine WC_condB rfl (fun hc => ?_) (fun hc => ?_))
  have hn0 : 0 < code.length := by omega
  have hn200 : code.length ≤ 200 := by omega
  refine WL_eff (OE_buildSlice (vs := [(0, str [])]) rfl (buildSS1 _)) rfl ?_
  rintro s0 w1 hN
  have hr : RwS w w1 s0 [[]] := RowF.one hN rfl rfl (by simp [maxLen])
  clear hN
  refine W ?_
  refine WC_loop (σ := Nat × Value) (fun q => [(0, v), (2, .int .i64 0), (3, .int .i64 0), (4, q.2), (5, .int .i64 (q.1 : Int))]) (fun q w' => 1 ≤ q.1 ∧ q.1 ≤ code.length ∧ RwS w w' q.2 ([] :: List.replicate (q.1 - 1) [63])) (fun q => code.length - q.1) (1, s0) ⟨rfl, rfl, rfl, rfl, rfl, trivial⟩ ⟨Nat.le_refl _, hn0, hr⟩ ?_
  clear hr
  rintro ⟨k, sv⟩ w2 ⟨hk1, hk, hr⟩
  try dsimp only at hk1 hk hr ⊢
  have hs2 := hs.up hr.2
  by_cases hlt : k < code.length
  · repeat' (first | refine W1 ?_ | (exfalso; omega) | refine WL_split rfl rfl (fun hg => ?_) (fun hg => ?_) | refine WL_splitB rfl rfl (fun hg => ?_) (fun hg => ?_) | refine WC_cond rfl (fun hc => ?_) (fun hc => ?_) | refine WC_condB rfl (fun hc => ?_) (fun hc => ?_))
    refine WL_eff (OE_buildSlice (vs := [(0, str [63])]) rfl (buildSS1 _)) rfl ?_
    rintro u w3 hN
    have hu : SlV (ob sv) w3 u [[(63 : UInt8)]] := hN.slv (fun b hb => (hr.ob_le b hb).2) rfl rfl (by simp [maxLen])
    replace hr := hr.up (NewSl.stp hN)
    clear hN
    refine WL_eff (OE_appF rfl (by decide) rfl rfl hr hu (by simp; omega) (by simp [maxLen]; omega)) rfl ?_
    rintro v' w4 ⟨hr', -, -⟩
    refine W ?_
    refine WQ_loop (k + 1, v') ⟨rfl, rfl, rfl, rfl, rfl, trivial⟩ ⟨by dsimp only; omega, hlt, ?_⟩ (by dsimp only; omega)
    obtain ⟨j, rfl⟩ : ∃ j, k = j + 1 := ⟨k - 1, by omega⟩
    simpa [List.replicate_succ'] using hr'
  obtain rfl : k = code.length := by omega
  generalize hst0 : ([] :: List.replicate (code.length - 1) [63] : List Str) = st0 at *
  have hlen0 : st0.length = code.length := by rw [← hst0]; simp; omega
  have h160 : ∀ s ∈ st0, s.length ≤ 16 := by
    intro s h
    rw [← hst0] at h
    simp at h
    rcases h with rfl | ⟨_, rfl⟩ <;> simp
  have hverR : verR code = finR (code.length - 1) (runR code code.length st0) := by
    rw [← hst0]; exact if_neg h0
  clear hst0
  repeat' (first | refine W1 ?_ | (exfalso; omega) | refine WL_split rfl rfl (fun hg => ?_) (fun hg => ?_) | refine WL_splitB rfl rfl (fun hg => ?_) (fun hg => ?_) | refine WC_cond rfl (fun hc => ?_) (fun hc => ?_) | refine WC_condB rfl (fun hc => ?_) (fun hc => ?_))
  refine WC_loop (σ := Nat × List Str) (fun q => [(0, v), (4, sv), (6, .int .i64 (q.1 : Int))])
    (fun q w' => q.1 ≤ code.length ∧ runR code q.1 st0 = some q.2 ∧ RwS w w' sv q.2 ∧ q.2.length = code.length ∧ (∀ s ∈ q.2, s.length ≤ 16)) (fun q => code.length - q.1) (0, st0) ⟨rfl, rfl, rfl, trivial⟩ ⟨Nat.zero_le _, rfl, hr, hlen0, h160⟩ ?_
  clear hr hs2
  rintro ⟨i, strs⟩ w3 ⟨hi, hrun, hr, hlen, h16⟩
  try dsimp only at hi hrun hr hlen h16 ⊢
  have hs3 := hs.up hr.2
  have hsl := hr.1.slv0
  by_cases hlt : i < code.length
  case neg =>
    obtain rfl : i = code.length := by omega
    obtain ⟨m, hm⟩ : ∃ m, code.length = m + 1 := ⟨code.length - 1, by omega⟩
    have hml : m < strs.length := by omega
    have hkk : (code.length : Int) - 1 = (m : Int) := by omega
    repeat' (first | refine W1 ?_ | (exfalso; omega) | refine WL_split rfl rfl (fun hg => ?_) (fun hg => ?_) | refine WL_splitB rfl rfl (fun hg => ?_) (fun hg => ?_) | refine WC_cond rfl (fun hc => ?_) (fun hc => ?_) | refine WC_condB rfl (fun hc => ?_) (fun hc => ?_))
    refine WL_eff (OE_buildSlice (vs := [(0, str [110]), (1, str [98]), (2, str [100])]) rfl (buildSS3 _ _ _)) rfl ?_
    rintro u w4 hN
    have hu : SlV [] w4 u ([[110], [98], [100]] : List Str) := hN.slv (by simp) rfl rfl (by simp [maxLen])
    have hS4 := NewSl.stp hN
    clear hN
    replace hs3 := hs3.up hS4
    replace hsl := hsl.up hS4
    replace hr := hr.up hS4
    refine W ?_
    refine WL_eff (OE_call rfl (evs2 rfl rfl) (place15_any [] _ _ strs[m] _ hu)) rfl ?_
    rintro _ w5 ⟨rfl, hS5⟩
    have hv : verR code = if strs[m] = [110] then (1, 0) else if strs[m] = [98] then (2, 0) else if strs[m] = [100] then (3, 0) else (0, 22) := by
      rw [hverR, hrun, hm]
      have e : strs.getD m [] = strs[m] := by simp [List.getD, hml]
      simp only [finR, Nat.add_sub_cancel, e]
    rw [cls]
    by_cases c1 : strs[m] = [110]
    · rw [if_pos c1] at hv ⊢
      repeat' (first | refine W1 ?_ | (exfalso; omega) | refine WL_split rfl rfl (fun hg => ?_) (fun hg => ?_) | refine WL_splitB rfl rfl (fun hg => ?_) (fun hg => ?_) | refine WC_cond rfl (fun hc => ?_) (fun hc => ?_) | refine WC_condB rfl (fun hc => ?_) (fun hc => ?_))
      first | refine WQ_ret1 rfl rfl ?_ | refine WQ_ret2 rfl rfl rfl ?_ | refine WQ_ret3 rfl rfl rfl rfl ?_ | refine WQ_ret0 rfl ?_ | refine WQ_end0 rfl ?_
      exact .mk ⟨by rw [hv]; rfl, (hr.up hS5).2⟩
    rw [if_neg c1] at hv ⊢
    by_cases c2 : strs[m] = [98]
    · rw [if_pos c2] at hv ⊢
      repeat' (first | refine W1 ?_ | (exfalso; omega) | refine WL_split rfl rfl (fun hg => ?_) (fun hg => ?_) | refine WL_splitB rfl rfl (fun hg => ?_) (fun hg => ?_) | refine WC_cond rfl (fun hc => ?_) (fun hc => ?_) | refine WC_condB rfl (fun hc => ?_) (fun hc => ?_))
      first | refine WQ_ret1 rfl rfl ?_ | refine WQ_ret2 rfl rfl rfl ?_ | refine WQ_ret3 rfl rfl rfl rfl ?_ | refine WQ_ret0 rfl ?_ | refine WQ_end0 rfl ?_
      exact .mk ⟨by rw [hv]; rfl, (hr.up hS5).2⟩
    rw [if_neg c2] at hv ⊢
    by_cases c3 : strs[m] = [100]
    · rw [if_pos c3] at hv ⊢
      repeat' (first | refine W1 ?_ | (exfalso; omega) | refine WL_split rfl rfl (fun hg => ?_) (fun hg => ?_) | refine WL_splitB rfl rfl (fun hg => ?_) (fun hg => ?_) | refine WC_cond rfl (fun hc => ?_) (fun hc => ?_) | refine WC_condB rfl (fun hc => ?_) (fun hc => ?_))
      first | refine WQ_ret1 rfl rfl ?_ | refine WQ_ret2 rfl rfl rfl ?_ | refine WQ_ret3 rfl rfl rfl rfl ?_ | refine WQ_ret0 rfl ?_ | refine WQ_end0 rfl ?_
      exact .mk ⟨by rw [hv]; rfl, (hr.up hS5).2⟩
    rw [if_neg c3] at hv ⊢
    repeat' (first | refine W1 ?_ | (exfalso; omega) | refine WL_split rfl rfl (fun hg => ?_) (fun hg => ?_) | refine WL_splitB rfl rfl (fun hg => ?_) (fun hg => ?_) | refine WC_cond rfl (fun hc => ?_) (fun hc => ?_) | refine WC_condB rfl (fun hc => ?_) (fun hc => ?_))
    first | refine WQ_ret1 rfl rfl ?_ | refine WQ_ret2 rfl rfl rfl ?_ | refine WQ_ret3 rfl rfl rfl rfl ?_ | refine WQ_ret0 rfl ?_ | refine WQ_end0 rfl ?_
    exact .mk ⟨by rw [hv], (hr.up hS5).2⟩
  have hlt' : i < strs.length := by omega
  have hcg : code.getD i ⟨0, 0⟩ = code[i] := by simp [List.getD, hlt]
  have hsg : strs.getD i [] = strs[i] := by simp [List.getD, hlt']
  have hnext : runR code (i + 1) st0 = stepR strs i code[i] := by rw [runR, hrun, Option.bind_some, hcg]
  have hM : stepR strs i code[i] = stepR strs i code[i] := rfl
  conv at hM => rhs; unfold stepR; rw [hsg, hlen]
  have hsi := h16 _ (List.getElem_mem hlt')
  have hdone : stepR strs i code[i] = none → verR code = (0, 22) := fun h => by rw [hverR, runR_none (hnext.trans h) code.length hlt]; rfl
  repeat' (first | refine W1 ?_ | (exfalso; omega) | refine WL_split rfl rfl (fun hg => ?_) (fun hg => ?_) | refine WL_splitB rfl rfl (fun hg => ?_) (fun hg => ?_) | refine WC_cond rfl (fun hc => ?_) (fun hc => ?_) | refine WC_condB rfl (fun hc => ?_) (fun hc => ?_))
  refine WC_drawn 17 [] [] [(0, 0), (1, 0), (2, 0), (3, 1), (4, 0), (5, 0), (6, 0), (7, 0), (8, 0), (9, 0), (10, 1), (11, 2), (12, 0), (13, 0), (14, 0), (15, 0), (16, 0)] rfl mixed (by kernel_rfl) (by kernel_rfl) (by kernel_rfl) (fun w1 hS1 => ?_)
  replace hs3 := hs3.up hS1
  replace hsl := hsl.up hS1
  replace hr := hr.up hS1
  refine D ?_
  refine WD_eff rfl trivial (OE_call rfl (evs4 rfl rfl rfl rfl) (After_any code[i] i code.length strs[i] _ (by omega) (by omega) (by omega))) (fun _ _ h => h.2) rfl ?_
  rintro _ w4 ⟨rfl, hS4⟩
  replace hs3 := hs3.up hS4
  replace hsl := hsl.up hS4
  replace hr := hr.up hS4
  clear hS1 hS4
  cases hA : afterM code[i] i code.length strs[i] with
  | none =>
    have hn : stepR strs i code[i] = none := by rw [hM, hA]
    refine D ?_
    repeat' (first | refine W1 ?_ | (exfalso; omega) | refine WL_split rfl rfl (fun hg => ?_) (fun hg => ?_) | refine WL_splitB rfl rfl (fun hg => ?_) (fun hg => ?_) | refine WC_cond rfl (fun hc => ?_) (fun hc => ?_) | refine WC_condB rfl (fun hc => ?_) (fun hc => ?_))
    first | refine WQ_ret1 rfl rfl ?_ | refine WQ_ret2 rfl rfl rfl ?_ | refine WQ_ret3 rfl rfl rfl rfl ?_ | refine WQ_ret0 rfl ?_ | refine WQ_end0 rfl ?_
    exact .mk ⟨by rw [hdone hn], hr.2⟩
  | some nx =>
    rw [hA] at hM
    dsimp only at hM
    have hnx := after_len hA
    by_cases hbad : strs[i] = [63] ∨ ¬ (code[i].op = 24 ↔ i + 1 = code.length)
    · rw [if_pos hbad] at hM
      refine D ?_
      repeat' (first | refine W1 ?_ | (exfalso; omega) | refine WL_split rfl rfl (fun hg => ?_) (fun hg => ?_) | refine WL_splitB rfl rfl (fun hg => ?_) (fun hg => ?_) | refine WC_cond rfl (fun hc => ?_) (fun hc => ?_) | refine WC_condB rfl (fun hc => ?_) (fun hc => ?_))
      · first | refine WQ_ret1 rfl rfl ?_ | refine WQ_ret2 rfl rfl rfl ?_ | refine WQ_ret3 rfl rfl rfl rfl ?_ | refine WQ_ret0 rfl ?_ | refine WQ_end0 rfl ?_
        exact .mk ⟨by rw [hdone hM], hr.2⟩
      · first | refine WQ_ret1 rfl rfl ?_ | refine WQ_ret2 rfl rfl rfl ?_ | refine WQ_ret3 rfl rfl rfl rfl ?_ | refine WQ_ret0 rfl ?_ | refine WQ_end0 rfl ?_
        exact .mk ⟨by rw [hdone hM], hr.2⟩
      all_goals
        exfalso
        have h2 : ¬ ¬ decide (code[i].op = 24) = decide ((i : Int) = (code.length : Int) - 1) := by assumption
        have h3 := decide_eq_decide.1 (Classical.not_not.1 h2)
        rcases hbad with h | h
        · exact absurd h (by assumption)
        · exact h (h3.trans (by omega))
    rw [if_neg hbad] at hM
    have hiff : code[i].op = 24 ↔ i + 1 = code.length := Classical.not_not.1 (fun h => hbad (Or.inr h))
    have hTr : ∀ t ∈ targF code[i] i code.length, 0 ≤ t ∧ t < (code.length : Int) := by
      intro t ht
      unfold targF at ht
      rcases List.mem_append.1 ht with h | h
      · split at h
        · rename_i hx
          have := after_range hA hx
          simp at h
          omega
        · cases h
      · split at h
        · simp at h; omega
        · cases h
    refine D ?_
    refine W ?_
    refine WL_split rfl rfl (fun hg => absurd (Or.inl hg) hbad) (fun hg => ?_)
    refine W ?_
    refine WC_cond rfl (fun hc => absurd (decide_eq_decide.2 (hiff.trans (by omega))) hc) (fun hc => ?_)
    refine W ?_
    refine WL_cutQ (σ := Bool) (fun q => [(0, v), (4, sv), (6, .int .i64 (i : Int)), (7, str nx), (9, .slice none 0 0), (87, .bool q)]) (fun q w' => w' = w4 ∧ q = decide (code[i].op = 13 ∨ code[i].op = 14)) ?_ ?_
    · repeat' (first | refine W1 ?_ | (exfalso; omega) | refine WL_split rfl rfl (fun hg => ?_) (fun hg => ?_) | refine WL_splitB rfl rfl (fun hg => ?_) (fun hg => ?_) | refine WC_cond rfl (fun hc => ?_) (fun hc => ?_) | refine WC_condB rfl (fun hc => ?_) (fun hc => ?_))
      · exact WQ_cut true ⟨rfl, rfl, rfl, rfl, rfl, rfl, trivial⟩ ⟨rfl, by simp [*]⟩
      · exact WQ_cut _ ⟨rfl, rfl, rfl, rfl, rfl, rfl, trivial⟩ ⟨rfl, by simp [*]⟩
    rintro q w5 ⟨rfl, hq⟩
    try dsimp only
    refine WC_cutQ (σ := Value) (fun tv => [(0, v), (4, sv), (6, .int .i64 (i : Int)), (7, str nx), (9, tv)]) (fun tv w' => RwZ w5 w' tv (if code[i].op = 13 ∨ code[i].op = 14 then [code[i].n] else [])) ?_ ?_
    · by_cases hx : code[i].op = 13 ∨ code[i].op = 14
      · rw [if_pos hx]
        rw [decide_eq_true hx] at hq
        subst hq
        refine W ?_
        refine WL_eff (OE_buildSlice (vs := [(0, .int .i64 code[i].n)]) rfl (buildSI1 _)) rfl ?_
        rintro u w6 hN
        have hu : SlV [] w6 u [code[i].n] := hN.slv (by simp) rfl rfl (by simp [maxLen])
        have h0 : RwZ w5 w6 (.slice none 0 0) [] := (RowF.nil).up (NewSl.stp hN)
        clear hN
        refine WL_eff (OE_appF rfl (by decide) rfl rfl h0 hu (by simp) (by simp [maxLen])) rfl ?_
        rintro v' w7 ⟨hr', -, -⟩
        refine W ?_
        exact WQ_cut v' ⟨rfl, rfl, rfl, rfl, rfl, trivial⟩ hr'
      · rw [if_neg hx]
        rw [decide_eq_false hx] at hq
        subst hq
        refine W ?_
        exact WQ_cut (.slice none 0 0) ⟨rfl, rfl, rfl, rfl, rfl, trivial⟩ RowF.nil
    rintro tv w6 hrt
    try dsimp only at hrt ⊢
    have hs6 := hs3.up hrt.2
    refine W ?_
    refine WL_cutQ (σ := Bool) (fun q => [(0, v), (4, sv), (6, .int .i64 (i : Int)), (7, str nx), (9, tv), (108, .bool q)]) (fun q w' => w' = w6 ∧ q = decide (code[i].op ≠ 13 ∧ i + 1 < code.length)) ?_ ?_
    · by_cases hx : code[i].op = 13
      · repeat' (first | refine W1 ?_ | (exfalso; omega) | refine WL_split rfl rfl (fun hg => ?_) (fun hg => ?_) | refine WL_splitB rfl rfl (fun hg => ?_) (fun hg => ?_) | refine WC_cond rfl (fun hc => ?_) (fun hc => ?_) | refine WC_condB rfl (fun hc => ?_) (fun hc => ?_))
        exact WQ_cut _ ⟨rfl, rfl, rfl, rfl, rfl, rfl, trivial⟩ ⟨rfl, by simp [hx]⟩
      · repeat' (first | refine W1 ?_ | (exfalso; omega) | refine WL_split rfl rfl (fun hg => ?_) (fun hg => ?_) | refine WL_splitB rfl rfl (fun hg => ?_) (fun hg => ?_) | refine WC_cond rfl (fun hc => ?_) (fun hc => ?_) | refine WC_condB rfl (fun hc => ?_) (fun hc => ?_))
        exact WQ_cut _ ⟨rfl, rfl, rfl, rfl, rfl, rfl, trivial⟩ ⟨rfl, by simp only [ne_eq, hx, not_false_eq_true, true_and]; exact decide_eq_decide.2 (by omega)⟩
    rintro q w7 ⟨rfl, hq⟩
    try dsimp only
    refine WC_cutQ (σ := Value) (fun tv => [(0, v), (4, sv), (6, .int .i64 (i : Int)), (7, str nx), (9, tv)]) (fun tv w' => RwZ w5 w' tv (targF code[i] i code.length)) ?_ ?_
    · unfold targF
      have hT1 : (if code[i].op = 13 ∨ code[i].op = 14 then [code[i].n] else []).length ≤ 1 := by split <;> simp
      generalize (if code[i].op = 13 ∨ code[i].op = 14 then [code[i].n] else []) = T1 at *
      by_cases hx : code[i].op ≠ 13 ∧ i + 1 < code.length
      · rw [if_pos hx]
        rw [decide_eq_true hx] at hq
        subst hq
        refine W ?_
        refine WL_eff (OE_buildSlice (vs := [(0, .int .i64 ((i : Int) + 1))]) rfl (buildSI1 _)) rfl ?_
        rintro u w6 hN
        have hu : SlV (ob tv) w6 u [(i : Int) + 1] := hN.slv (fun b hb => (hrt.ob_le b hb).2) rfl rfl (by simp [maxLen])
        have h0 := hrt.up (NewSl.stp hN)
        clear hN
        refine WL_eff (OE_appF rfl (by decide) rfl rfl h0 hu (by simp; omega) (by simp [maxLen]; omega)) rfl ?_
        rintro v' w8 ⟨hr', -, -⟩
        refine W ?_
        exact WQ_cut v' ⟨rfl, rfl, rfl, rfl, rfl, trivial⟩ hr'
      · rw [if_neg hx, List.append_nil]
        rw [decide_eq_false hx] at hq
        subst hq
        refine W ?_
        exact WQ_cut tv ⟨rfl, rfl, rfl, rfl, rfl, trivial⟩ hrt
    clear hrt hs6
    rintro tv w6 hrt
    try dsimp only at hrt ⊢
    generalize targF code[i] i code.length = T at *
    have hTm := (hrt.1.slv0).max
    have hst : SlV (ob sv) w6 tv T := hrt.slv (fun b hb => (hr.ob_le b hb).2)
    have hr6 : RwS w w6 sv strs := hr.up hrt.2
    clear hsl hq
    refine W ?_
    refine WC_loop (σ := Nat × List Str) (fun q => [(0, v), (4, sv), (6, .int .i64 (i : Int)), (7, str nx), (9, tv), (10, .int .i64 (q.1 : Int))])
      (fun q w' => q.1 ≤ T.length ∧ setsR nx T strs = setsR nx (T.drop q.1) q.2 ∧ RwS w w' sv q.2 ∧ q.2.length = code.length ∧ (∀ s ∈ q.2, s.length ≤ 16) ∧ SlV (ob sv) w' tv T) (fun q => T.length - q.1) (0, strs) ⟨rfl, rfl, rfl, rfl, rfl, rfl, trivial⟩ ⟨Nat.zero_le _, rfl, hr6, hlen, h16, hst⟩ ?_
    rintro ⟨k, st⟩ w8 ⟨hk, hse, hr8, hl8, h168, hst8⟩
    try dsimp only at hk hse hr8 hl8 h168 hst8 ⊢
    have hsl8 := hr8.1.slv0
    by_cases hkt : k < T.length
    case neg =>
      rw [List.drop_eq_nil_of_le (by omega)] at hse
      repeat' (first | refine W1 ?_ | (exfalso; omega) | refine WL_split rfl rfl (fun hg => ?_) (fun hg => ?_) | refine WL_splitB rfl rfl (fun hg => ?_) (fun hg => ?_) | refine WC_cond rfl (fun hc => ?_) (fun hc => ?_) | refine WC_condB rfl (fun hc => ?_) (fun hc => ?_))
      exact WQ_loop (i + 1, st) ⟨rfl, rfl, rfl, trivial⟩ ⟨hlt, hnext.trans (hM.trans hse), hr8, hl8, h168⟩ (Nat.sub_lt_sub_left hlt (Nat.lt_succ_self i))
    obtain ⟨ht0, ht1⟩ := hTr _ (List.getElem_mem hkt)
    have hd : T.drop k = T[k] :: T.drop (k + 1) := List.drop_eq_getElem_cons hkt
    rw [hd, setsR] at hse
    obtain ⟨q, hqz⟩ : ∃ q : Nat, T[k] = (q : Int) := ⟨T[k].toNat, by omega⟩
    have hql : q < st.length := by omega
    have hgd : st.getD (T[k]).toNat [] = st[q] := by rw [hqz]; simp [List.getD, hql]
    by_cases hbad2 : st[q] ≠ [63] ∧ st[q] ≠ nx
    · have hn : stepR strs i code[i] = none := by
        rw [hM, hse, setR, hgd, if_pos hbad2]; rfl
      repeat' (first | refine W1 ?_ | (exfalso; omega) | refine WL_split rfl rfl (fun hg => ?_) (fun hg => ?_) | refine WL_splitB rfl rfl (fun hg => ?_) (fun hg => ?_) | refine WC_cond rfl (fun hc => ?_) (fun hc => ?_) | refine WC_condB rfl (fun hc => ?_) (fun hc => ?_))
      · first | refine WQ_ret1 rfl rfl ?_ | refine WQ_ret2 rfl rfl rfl ?_ | refine WQ_ret3 rfl rfl rfl rfl ?_ | refine WQ_ret0 rfl ?_ | refine WQ_end0 rfl ?_
        exact .mk ⟨by rw [hdone hn], hr8.2⟩
      all_goals (exfalso; first | exact hbad2.2 (Classical.not_not.1 (by assumption)) | exact hbad2.1 (by assumption) | exact hbad2.1 (Classical.not_not.1 (by assumption)))
    · have hsr : setR st T[k] nx = some (st.set q nx) := by rw [setR, hgd, if_neg hbad2, hqz, Int.toNat_natCast]
      rw [hsr, Option.bind_some] at hse
      repeat' (first | refine W1 ?_ | (exfalso; omega) | refine WL_split rfl rfl (fun hg => ?_) (fun hg => ?_) | refine WL_splitB rfl rfl (fun hg => ?_) (fun hg => ?_) | refine WC_cond rfl (fun hc => ?_) (fun hc => ?_) | refine WC_condB rfl (fun hc => ?_) (fun hc => ?_))
      · exact absurd ⟨by assumption, by assumption⟩ hbad2
      all_goals
        refine WL_eff0 (OE_storeElX (α := Str) (y' := nx) (u := str nx) rfl rfl rfl rfl hr8.1 hql) ?_
        rintro _ w9 ⟨hr9', hS9⟩
        have hr9 : RwS w w9 sv (st.set q nx) := ⟨hr9', hr8.step hS9 (fun _ h => h)⟩
        refine W ?_
        refine WQ_loop (k + 1, st.set q nx) ⟨rfl, rfl, rfl, rfl, rfl, rfl, trivial⟩ ⟨hkt, hse, hr9, by simpa using hl8, fun s hs => ?_, hst8.ext (X' := ob sv) hS9 (fun _ h => h) (fun _ h => .inl h)⟩ (Nat.sub_lt_sub_left hkt (Nat.lt_succ_self k))
        rcases List.mem_or_eq_of_mem_set hs with h | h
        · exact h168 s h
        · rw [h]; exact hnx
end Go.Proofs.YtgpibcgebpgmiaaDoor


namespace Go.Proofs.YtgpibcgebpgmiaaDoor
open Go Go.Eng Go.RowKit
def xA : Nd := .mk 7 0 [100, 97, 121, 115] [.mk 4 0 [100, 97, 121] [], .mk 1 3 [] []]
def xB : Nd := .mk 6 0 [97, 110, 100] [.mk 6 0 [62] [.mk 4 0 [101, 120, 116, 114, 97] [], .mk 1 2 [] []], .mk 2 1 [] []]
def xC : Nd := .mk 6 0 [45] [.mk 4 0 [97, 109, 111, 117, 110, 116] [], .mk 1 1 [] []]
theorem nA : nestN xA = 2 ∧ typeT xA = 3 ∧ sizeN xA = 3 ∧ exprF xA = [⟨4, 0⟩, ⟨1, 3⟩, ⟨15, 0⟩, ⟨24, 0⟩] := by
  refine ⟨?_, ?_, ?_, ?_⟩
  · simp only [xA, nestN_eq, Nd.kids, List.map_cons, List.map_nil]; rfl
  · simp only [xA, typeT_eq, Nd.kids, Nd.kind, Nd.num, Nd.word, List.map_cons, List.map_nil]; rfl
  · simp only [xA, sizeN_eq, Nd.kids, List.map_cons, List.map_nil]; rfl
  · simp only [xA, exprF, codeN_eq, Nd.kids, Nd.kind, Nd.num, Nd.word, List.map_cons, List.map_nil]; rfl
theorem nB : nestN xB = 3 ∧ typeT xB = 2 ∧ sizeN xB = 5 ∧ exprF xB = [⟨4, 2⟩, ⟨1, 2⟩, ⟨10, 0⟩, ⟨12, 0⟩, ⟨14, 7⟩, ⟨2, 1⟩, ⟨13, 8⟩, ⟨2, 0⟩, ⟨24, 0⟩] := by
  refine ⟨?_, ?_, ?_, ?_⟩
  · simp only [xB, nestN_eq, Nd.kids, List.map_cons, List.map_nil]; rfl
  · simp only [xB, typeT_eq, Nd.kids, Nd.kind, Nd.num, Nd.word, List.map_cons, List.map_nil]; rfl
  · simp only [xB, sizeN_eq, Nd.kids, List.map_cons, List.map_nil]; rfl
  · simp only [xB, exprF, codeN_eq, Nd.kids, Nd.kind, Nd.num, Nd.word, List.map_cons, List.map_nil]; rfl
theorem nC : nestN xC = 2 ∧ typeT xC = 1 ∧ sizeN xC = 3 ∧ exprF xC = [⟨4, 6⟩, ⟨1, 1⟩, ⟨6, 0⟩, ⟨24, 0⟩] := by
  refine ⟨?_, ?_, ?_, ?_⟩
  · simp only [xC, nestN_eq, Nd.kids, List.map_cons, List.map_nil]; rfl
  · simp only [xC, typeT_eq, Nd.kids, Nd.kind, Nd.num, Nd.word, List.map_cons, List.map_nil]; rfl
  · simp only [xC, sizeN_eq, Nd.kids, List.map_cons, List.map_nil]; rfl
  · simp only [xC, exprF, codeN_eq, Nd.kids, Nd.kind, Nd.num, Nd.word, List.map_cons, List.map_nil]; rfl
theorem buildIns1 (a0 : Ins) (w : World) : (Instr.buildSlice 40 1 #[(0, agg a0)]).run Tryd.prog w = .ok (.slice (some ⟨w.heap.size, 0, none⟩) 1 1) (w.alloc (.cells #[.int .i64 a0.op, .int .i64 a0.n] 59)) := by kernel_rfl
theorem buildIns3 (a0 a1 a2 : Ins) (w : World) : (Instr.buildSlice 40 3 #[(0, agg a0), (1, agg a1), (2, agg a2)]).run Tryd.prog w = .ok (.slice (some ⟨w.heap.size, 0, none⟩) 3 3) (w.alloc (.cells #[.int .i64 a0.op, .int .i64 a0.n, .int .i64 a1.op, .int .i64 a1.n, .int .i64 a2.op, .int .i64 a2.n] 59)) := by kernel_rfl
theorem buildIns4 (a0 a1 a2 a3 : Ins) (w : World) : (Instr.buildSlice 40 4 #[(0, agg a0), (1, agg a1), (2, agg a2), (3, agg a3)]).run Tryd.prog w = .ok (.slice (some ⟨w.heap.size, 0, none⟩) 4 4) (w.alloc (.cells #[.int .i64 a0.op, .int .i64 a0.n, .int .i64 a1.op, .int .i64 a1.n, .int .i64 a2.op, .int .i64 a2.n, .int .i64 a3.op, .int .i64 a3.n] 59)) := by kernel_rfl
theorem buildIns9 (a0 a1 a2 a3 a4 a5 a6 a7 a8 : Ins) (w : World) : (Instr.buildSlice 40 9 #[(0, agg a0), (1, agg a1), (2, agg a2), (3, agg a3), (4, agg a4), (5, agg a5), (6, agg a6), (7, agg a7), (8, agg a8)]).run Tryd.prog w = .ok (.slice (some ⟨w.heap.size, 0, none⟩) 9 9) (w.alloc (.cells #[.int .i64 a0.op, .int .i64 a0.n, .int .i64 a1.op, .int .i64 a1.n, .int .i64 a2.op, .int .i64 a2.n, .int .i64 a3.op, .int .i64 a3.n, .int .i64 a4.op, .int .i64 a4.n, .int .i64 a5.op, .int .i64 a5.n, .int .i64 a6.op, .int .i64 a6.n, .int .i64 a7.op, .int .i64 a7.n, .int .i64 a8.op, .int .i64 a8.n] 59)) := by kernel_rfl
theorem bad_any (v : Value) (code : List Ins) (w : World) (hs : SlV [] w v code) (hb : verM code = (0, 22)) : Calls Tryd.prog 63 #[v] w (Ret fun r w' => r = .bool true ∧ Stp [] w w') := by
  refine calls_of_WC1 (n := 16) Tryd.func63 rfl rfl rfl ?_
  refine W ?_
  refine WL_eff (OE_call rfl (evs1 rfl) (Verify_any v code _ hs)) rfl ?_
  rintro _ w2 ⟨rfl, hS⟩
  rw [hb]
  repeat' (first | refine W1 ?_ | (exfalso; omega) | refine WL_split rfl rfl (fun hg => ?_) (fun hg => ?_) | refine WL_splitB rfl rfl (fun hg => ?_) (fun hg => ?_) | refine WC_cond rfl (fun hc => ?_) (fun hc => ?_) | refine WC_condB rfl (fun hc => ?_) (fun hc => ?_))
  first | refine WQ_ret1 rfl rfl ?_ | refine WQ_ret2 rfl rfl rfl ?_ | refine WQ_ret3 rfl rfl rfl rfl ?_ | refine WQ_ret0 rfl ?_ | refine WQ_end0 rfl ?_
  exact .mk ⟨rfl, hS⟩
theorem lives15_any (w : World) (hF : SlV [] w flds fieldNames) : Calls Tryd.prog 21 #[] w (Ret fun r w' => r = .bool true ∧ Stp [] w w') := by
  obtain ⟨na1, na2, na3, na4⟩ := nA
  obtain ⟨nb1, nb2, nb3, nb4⟩ := nB
  obtain ⟨nc1, nc2, nc3, nc4⟩ := nC
  have ea : errX xA = 0 := by rw [errX, if_pos (by omega), if_neg (by omega), if_neg (by rw [na4]; decide)]
  have eb : errX xB = 0 := by rw [errX, if_pos (by omega), if_neg (by omega), if_neg (by rw [nb4]; decide)]
  have ec : errX xC = 0 := by rw [errX, if_pos (by omega), if_neg (by omega), if_neg (by rw [nc4]; decide)]
  refine calls_of_WC0 (n := 123) Tryd.func21 rfl rfl ?_
  refine W ?_
  refine WL_eff (OE_call rfl (evs1 rfl) (field15_any [100, 97, 121] _)) rfl ?_
  rintro r1 w1 ⟨h1, hS1⟩
  refine W ?_
  refine WL_eff (OE_call rfl (evs1 rfl) (number15_any 3 _)) rfl ?_
  rintro r2 w2 ⟨h2, hS2⟩
  replace h1 := (h1 []).up hS2
  replace h2 := h2 []
  replace hS1 := hS1.trans hS2
  clear hS2
  obtain ⟨k1, rfl, s1⟩ := h1
  obtain ⟨k2, rfl, s2⟩ := h2
  obtain ⟨p1, c1, rfl, -⟩ := id s1
  obtain ⟨p2, c2, rfl, -⟩ := id s2
  refine WL_eff (OE_buildSlice (vs := [(0, .agg #[.int .i64 4, .int .i64 0, str [100, 97, 121], .slice p1 0 c1]), (1, .agg #[.int .i64 1, .int .i64 3, str [], .slice p2 0 c2])]) rfl (buildSN2 _ _ _ _ _ _ _ _ _ _ _ _)) rfl ?_
  rintro bv w3 hN
  have hbv : SlV [] w3 bv [Nd.mk 4 0 [100, 97, 121] [], Nd.mk 1 3 [] []] := hN.slvG (X := []) (css := [ndC (Nd.mk 4 0 [100, 97, 121] []) _, ndC (Nd.mk 1 3 [] []) _]) (by simp) rfl rfl rfl (reps2 (y0 := .mk 4 0 [100, 97, 121] []) (y1 := .mk 1 3 [] []) s1 s2) (by simp [maxLen])
  have hT := NewSl.stp hN
  clear hN
  replace hS1 := hS1.trans hT
  obtain ⟨p, c, rfl, -⟩ := id hbv
  apply WL_build (vs := [(0, .int .i64 7), (2, str [100, 97, 121, 115]), (3, .slice p 2 c)]) rfl (buildN023 _ _ _ _ _) rfl
  refine WL_eff (OE_call rfl (evs1 rfl) (Expression_any _ xA _ (by omega) ⟨_, rfl, hbv⟩ (hF.up hS1))) rfl ?_
  rintro _ w4 ⟨va, rfl, ha, hS4⟩
  rw [ea]
  replace ha := ha [] (by simp)
  rw [ea, if_pos rfl, na4] at ha
  replace hS1 := hS1.trans hS4
  clear hS4
  refine W ?_
  refine WL_eff (OE_call rfl (evs1 rfl) (field15_any [101, 120, 116, 114, 97] _)) rfl ?_
  rintro q1 w5 ⟨h1, hS5⟩
  refine W ?_
  refine WL_eff (OE_call rfl (evs1 rfl) (number15_any 2 _)) rfl ?_
  rintro q2 w6 ⟨h2, hS6⟩
  refine W ?_
  refine WL_eff (OE_call rfl (evs3 rfl rfl rfl) (binary15_any [] [62] _ _ _ _ _ (by simp) ((h1 []).up hS6) (h2 []))) rfl ?_
  rintro q3 w7 ⟨h3, hS7⟩
  refine W ?_
  apply WL_build (vs := [(0, .int .i64 2), (1, .int .i64 1)]) rfl (buildN01 _ _) rfl
  refine WL_eff (OE_call rfl (evs3 rfl rfl rfl) (binary15_any [] [97, 110, 100] _ _ _ (.mk 2 1 [] []) _ (by simp) h3 ⟨.slice none 0 0, rfl, nilSlv _ _⟩)) rfl ?_
  rintro q4 w8 ⟨h4, hS8⟩
  have hS := (((hS1.trans hS5).trans hS6).trans hS7).trans hS8
  replace ha := (((ha.up hS5).up hS6).up hS7).up hS8
  clear hS1 hS5 hS6 hS7 hS8 h1 h2 h3
  refine W ?_
  refine WL_eff (OE_call rfl (evs1 rfl) (Expression_any _ xB _ (by omega) h4 (hF.up hS))) rfl ?_
  rintro _ w9 ⟨vb, rfl, hb, hS9⟩
  rw [eb]
  replace hb := hb [] (by simp)
  rw [eb, if_pos rfl, nb4] at hb
  replace ha := ha.up hS9
  replace hS := hS.trans hS9
  clear hS9
  refine W ?_
  refine WL_eff (OE_call rfl (evs1 rfl) (field15_any [97, 109, 111, 117, 110, 116] _)) rfl ?_
  rintro q1 w5 ⟨h1, hS5⟩
  refine W ?_
  refine WL_eff (OE_call rfl (evs1 rfl) (number15_any 1 _)) rfl ?_
  rintro q2 w6 ⟨h2, hS6⟩
  refine W ?_
  refine WL_eff (OE_call rfl (evs3 rfl rfl rfl) (binary15_any [] [45] _ _ _ _ _ (by simp) ((h1 []).up hS6) (h2 []))) rfl ?_
  rintro q3 w7 ⟨h3, hS7⟩
  have hSS := (hS5.trans hS6).trans hS7
  replace ha := ha.up hSS
  replace hb := hb.up hSS
  replace hS := hS.trans hSS
  clear hSS hS5 hS6 hS7 h1 h2
  refine W ?_
  refine WL_eff (OE_call rfl (evs1 rfl) (Expression_any _ xC _ (by omega) h3 (hF.up hS))) rfl ?_
  rintro _ w9 ⟨vc, rfl, hc, hS9⟩
  rw [ec]
  replace hc := hc [] (by simp)
  rw [ec, if_pos rfl, nc4] at hc
  replace ha := ha.up hS9
  replace hb := hb.up hS9
  replace hS := hS.trans hS9
  clear hS9
  refine W ?_
  refine WL_eff (OE_call rfl (evs1 rfl) (Verify_any _ _ _ ha)) rfl ?_
  rintro _ w10 ⟨rfl, hS10⟩
  replace ha := ha.up hS10
  replace hb := hb.up hS10
  replace hc := hc.up hS10
  replace hS := hS.trans hS10
  clear hS10
  rw [show verM [⟨4, 0⟩, ⟨1, 3⟩, ⟨15, 0⟩, ⟨24, 0⟩] = (3, 0) by decide]
  repeat' (first | refine W1 ?_ | (exfalso; omega) | refine WL_split rfl rfl (fun hg => ?_) (fun hg => ?_) | refine WL_splitB rfl rfl (fun hg => ?_) (fun hg => ?_) | refine WC_cond rfl (fun hc => ?_) (fun hc => ?_) | refine WC_condB rfl (fun hc => ?_) (fun hc => ?_))
  apply WL_build (vs := [(0, .int .i64 4), (1, .int .i64 2)]) rfl (buildI _ _) rfl
  refine W ?_
  apply WL_build (vs := [(0, .int .i64 1), (1, .int .i64 2)]) rfl (buildI _ _) rfl
  refine W ?_
  apply WL_build (vs := [(0, .int .i64 10)]) rfl (buildI0 _) rfl
  refine W ?_
  apply WL_build (vs := [(0, .int .i64 12)]) rfl (buildI0 _) rfl
  refine W ?_
  apply WL_build (vs := [(0, .int .i64 14), (1, .int .i64 7)]) rfl (buildI _ _) rfl
  refine W ?_
  apply WL_build (vs := [(0, .int .i64 2), (1, .int .i64 1)]) rfl (buildI _ _) rfl
  refine W ?_
  apply WL_build (vs := [(0, .int .i64 13), (1, .int .i64 8)]) rfl (buildI _ _) rfl
  refine W ?_
  apply WL_build (vs := [(0, .int .i64 2)]) rfl (buildI0 _) rfl
  refine W ?_
  apply WL_build (vs := [(0, .int .i64 24)]) rfl (buildI0 _) rfl
  refine W ?_
  refine WL_eff (OE_buildSlice (vs := [(0, agg (Ins.mk 4 2)), (1, agg (Ins.mk 1 2)), (2, agg (Ins.mk 10 0)), (3, agg (Ins.mk 12 0)), (4, agg (Ins.mk 14 7)), (5, agg (Ins.mk 2 1)), (6, agg (Ins.mk 13 8)), (7, agg (Ins.mk 2 0)), (8, agg (Ins.mk 24 0))]) rfl (buildIns9 _ _ _ _ _ _ _ _ _ )) rfl ?_
  rintro want w11 hN
  have s_want : SlV [] w11 want ([(Ins.mk 4 2), (Ins.mk 1 2), (Ins.mk 10 0), (Ins.mk 12 0), (Ins.mk 14 7), (Ins.mk 2 1), (Ins.mk 13 8), (Ins.mk 2 0), (Ins.mk 24 0)] : List Ins) := hN.slv (by simp) rfl rfl (by simp [maxLen])
  have hT := NewSl.stp hN
  clear hN
  replace ha := ha.up hT
  replace hb := hb.up hT
  replace hc := hc.up hT
  replace hS := hS.trans hT
  clear hT
  refine W ?_
  apply WL_build (vs := [(0, .int .i64 4)]) rfl (buildI0 _) rfl
  refine W ?_
  apply WL_build (vs := [(0, .int .i64 1), (1, .int .i64 3)]) rfl (buildI _ _) rfl
  refine W ?_
  apply WL_build (vs := [(0, .int .i64 15)]) rfl (buildI0 _) rfl
  refine W ?_
  apply WL_build (vs := [(0, .int .i64 24)]) rfl (buildI0 _) rfl
  refine W ?_
  refine WL_eff (OE_buildSlice (vs := [(0, agg (Ins.mk 4 0)), (1, agg (Ins.mk 1 3)), (2, agg (Ins.mk 15 0)), (3, agg (Ins.mk 24 0))]) rfl (buildIns4 _ _ _ _ )) rfl ?_
  rintro wa w12 hN
  have s_wa : SlV [] w12 wa ([(Ins.mk 4 0), (Ins.mk 1 3), (Ins.mk 15 0), (Ins.mk 24 0)] : List Ins) := hN.slv (by simp) rfl rfl (by simp [maxLen])
  have hT := NewSl.stp hN
  clear hN
  replace ha := ha.up hT
  replace hb := hb.up hT
  replace hc := hc.up hT
  replace s_want := s_want.up hT
  replace hS := hS.trans hT
  clear hT
  refine W ?_
  refine WL_eff (OE_call rfl (evs2 rfl rfl) (SameCode_any _ _ _ _ _ ha s_wa)) rfl ?_
  rintro _ w13 ⟨rfl, hT⟩
  replace hb := hb.up hT
  replace hc := hc.up hT
  replace s_want := s_want.up hT
  replace hS := hS.trans hT
  clear hT
  repeat' (first | refine W1 ?_ | (exfalso; omega) | refine WL_split rfl rfl (fun hg => ?_) (fun hg => ?_) | refine WL_splitB rfl rfl (fun hg => ?_) (fun hg => ?_) | refine WC_cond rfl (fun hc => ?_) (fun hc => ?_) | refine WC_condB rfl (fun hc => ?_) (fun hc => ?_))
  refine WL_eff (OE_call rfl (evs2 rfl rfl) (SameCode_any _ _ _ _ _ hb s_want)) rfl ?_
  rintro _ w14 ⟨rfl, hT⟩
  replace hc := hc.up hT
  replace hS := hS.trans hT
  clear hT
  repeat' (first | refine W1 ?_ | (exfalso; omega) | refine WL_split rfl rfl (fun hg => ?_) (fun hg => ?_) | refine WL_splitB rfl rfl (fun hg => ?_) (fun hg => ?_) | refine WC_cond rfl (fun hc => ?_) (fun hc => ?_) | refine WC_condB rfl (fun hc => ?_) (fun hc => ?_))
  apply WL_build (vs := [(0, .int .i64 4), (1, .int .i64 6)]) rfl (buildI _ _) rfl
  refine W ?_
  apply WL_build (vs := [(0, .int .i64 1), (1, .int .i64 1)]) rfl (buildI _ _) rfl
  refine W ?_
  apply WL_build (vs := [(0, .int .i64 6)]) rfl (buildI0 _) rfl
  refine W ?_
  apply WL_build (vs := [(0, .int .i64 24)]) rfl (buildI0 _) rfl
  refine W ?_
  refine WL_eff (OE_buildSlice (vs := [(0, agg (Ins.mk 4 6)), (1, agg (Ins.mk 1 1)), (2, agg (Ins.mk 6 0)), (3, agg (Ins.mk 24 0))]) rfl (buildIns4 _ _ _ _ )) rfl ?_
  rintro wc w15 hN
  have s_wc : SlV [] w15 wc ([(Ins.mk 4 6), (Ins.mk 1 1), (Ins.mk 6 0), (Ins.mk 24 0)] : List Ins) := hN.slv (by simp) rfl rfl (by simp [maxLen])
  have hT := NewSl.stp hN
  clear hN
  replace hc := hc.up hT
  replace hS := hS.trans hT
  clear hT
  refine W ?_
  refine WL_eff (OE_call rfl (evs2 rfl rfl) (SameCode_any _ _ _ _ _ hc s_wc)) rfl ?_
  rintro _ w16 ⟨rfl, hT⟩
  replace hS := hS.trans hT
  clear hT
  repeat' (first | refine W1 ?_ | (exfalso; omega) | refine WL_split rfl rfl (fun hg => ?_) (fun hg => ?_) | refine WL_splitB rfl rfl (fun hg => ?_) (fun hg => ?_) | refine WC_cond rfl (fun hc => ?_) (fun hc => ?_) | refine WC_condB rfl (fun hc => ?_) (fun hc => ?_))
  apply WL_build (vs := [(0, .int .i64 1), (1, .int .i64 1)]) rfl (buildI _ _) rfl
  refine WL_eff OE_alloc rfl ?_
  rintro _ w17 ⟨b10, rfl, hb10, e10, hT⟩
  have q10 := hb10
  refine WL_eff0 (OE_storeA (us := Flat.enc (Ins.mk 1 1)) rfl rfl rfl rfl (Flat.one _) e10 rfl) ?_
  rintro _ w18 ⟨hT2, e10'⟩
  replace hS := hS.trans (hT.own hT2 (fun b hb => .inr (by simp at hb; omega)))
  clear hT hT2 e10
  refine W ?_
  apply WL_build (vs := [(0, .int .i64 24)]) rfl (buildI0 _) rfl
  refine WL_eff OE_alloc rfl ?_
  rintro _ w19 ⟨b11, rfl, hb11, e11, hT⟩
  have l10 := e10'.lt
  replace e10' := e10'.up hT
  refine WL_eff0 (OE_storeA (us := Flat.enc (Ins.mk 24 0)) rfl rfl rfl rfl (Flat.one _) e11 rfl) ?_
  rintro _ w20 ⟨hT2, e11'⟩
  replace e10' := e10'.ext hT2 (by simp; omega)
  replace hS := hS.trans (hT.own hT2 (fun b hb => .inr (by simp at hb; omega)))
  clear hT hT2 e11
  refine W ?_
  refine WL_eff (OE_call rfl (evs1 rfl) (bad_any _ [] _ (nilSlv _ _) (by decide))) rfl ?_
  rintro _ w21 ⟨rfl, hT⟩
  replace e10' := e10'.up hT
  replace e11' := e11'.up hT
  replace hS := hS.trans hT
  clear hT
  refine W ?_
  refine WL_eff (OE_buildSlice (vs := [(0, agg (Ins.mk 24 0))]) rfl (buildIns1 _ )) rfl ?_
  rintro x1 w22 hN
  have s_x1 : SlV [] w22 x1 ([(Ins.mk 24 0)] : List Ins) := hN.slv (by simp) rfl rfl (by simp [maxLen])
  have hT := NewSl.stp hN
  clear hN
  replace e10' := e10'.up hT
  replace e11' := e11'.up hT
  replace hS := hS.trans hT
  clear hT
  refine W ?_
  refine WL_eff (OE_call rfl (evs1 rfl) (bad_any _ _ _ s_x1 (by decide))) rfl ?_
  rintro _ w23 ⟨rfl, hT⟩
  replace e10' := e10'.up hT
  replace e11' := e11'.up hT
  replace hS := hS.trans hT
  clear hT
  refine W ?_
  apply WL_build (vs := [(0, .int .i64 1), (1, .int .i64 2)]) rfl (buildI _ _) rfl
  refine W ?_
  refine WL_eff (OE_buildSlice (vs := [(0, agg (Ins.mk 1 1)), (1, agg (Ins.mk 1 2)), (2, agg (Ins.mk 24 0))]) rfl (buildIns3 _ _ _ )) rfl ?_
  rintro x2 w24 hN
  have s_x2 : SlV [] w24 x2 ([(Ins.mk 1 1), (Ins.mk 1 2), (Ins.mk 24 0)] : List Ins) := hN.slv (by simp) rfl rfl (by simp [maxLen])
  have hT := NewSl.stp hN
  clear hN
  replace e10' := e10'.up hT
  replace e11' := e11'.up hT
  replace hS := hS.trans hT
  clear hT
  refine W ?_
  refine WL_eff (OE_call rfl (evs1 rfl) (bad_any _ _ _ s_x2 (by decide))) rfl ?_
  rintro _ w25 ⟨rfl, hT⟩
  replace e10' := e10'.up hT
  replace e11' := e11'.up hT
  replace hS := hS.trans hT
  clear hT
  refine W ?_
  apply WL_build (vs := [(0, .int .i64 2), (1, .int .i64 1)]) rfl (buildI _ _) rfl
  refine W ?_
  apply WL_build (vs := [(0, .int .i64 14), (1, .int .i64 1)]) rfl (buildI _ _) rfl
  refine W ?_
  refine WL_eff (OE_buildSlice (vs := [(0, agg (Ins.mk 2 1)), (1, agg (Ins.mk 14 1)), (2, agg (Ins.mk 24 0))]) rfl (buildIns3 _ _ _ )) rfl ?_
  rintro x3 w26 hN
  have s_x3 : SlV [] w26 x3 ([(Ins.mk 2 1), (Ins.mk 14 1), (Ins.mk 24 0)] : List Ins) := hN.slv (by simp) rfl rfl (by simp [maxLen])
  have hT := NewSl.stp hN
  clear hN
  replace e10' := e10'.up hT
  replace e11' := e11'.up hT
  replace hS := hS.trans hT
  clear hT
  refine W ?_
  refine WL_eff (OE_call rfl (evs1 rfl) (bad_any _ _ _ s_x3 (by decide))) rfl ?_
  rintro _ w27 ⟨rfl, hT⟩
  replace e10' := e10'.up hT
  replace e11' := e11'.up hT
  replace hS := hS.trans hT
  clear hT
  refine W ?_
  apply WL_build (vs := [(0, .int .i64 13), (1, .int .i64 3)]) rfl (buildI _ _) rfl
  refine W ?_
  apply WL_build (vs := [(0, .int .i64 8)]) rfl (buildI0 _) rfl
  refine W ?_
  refine WL_eff (OE_buildSlice (vs := [(0, agg (Ins.mk 1 1)), (1, agg (Ins.mk 13 3)), (2, agg (Ins.mk 8 0)), (3, agg (Ins.mk 24 0))]) rfl (buildIns4 _ _ _ _ )) rfl ?_
  rintro x4 w28 hN
  have s_x4 : SlV [] w28 x4 ([(Ins.mk 1 1), (Ins.mk 13 3), (Ins.mk 8 0), (Ins.mk 24 0)] : List Ins) := hN.slv (by simp) rfl rfl (by simp [maxLen])
  have hT := NewSl.stp hN
  clear hN
  replace e10' := e10'.up hT
  replace e11' := e11'.up hT
  replace hS := hS.trans hT
  clear hT
  refine W ?_
  refine WL_eff (OE_call rfl (evs1 rfl) (bad_any _ _ _ s_x4 (by decide))) rfl ?_
  rintro _ w29 ⟨rfl, hT⟩
  replace e10' := e10'.up hT
  replace e11' := e11'.up hT
  replace hS := hS.trans hT
  clear hT
  refine W ?_
  first | refine WQ_ret1 rfl rfl ?_ | refine WQ_ret2 rfl rfl rfl ?_ | refine WQ_ret3 rfl rfl rfl rfl ?_ | refine WQ_ret0 rfl ?_ | refine WQ_end0 rfl ?_
  exact .mk ⟨rfl, hS⟩
end Go.Proofs.YtgpibcgebpgmiaaDoor


/-
The wrap of a law whose row lists a variable: what the contract is handed: the condition on the variable, and the world's shape.
-/
namespace Go.Eng
open Go Go.RowKit Go.Proofs Go.ChangeShapes Go.WideShapes Go.Deep
set_option linter.unusedVariables false
section
variable {H : Type} {enc : TypeId × Value → H}
theorem ret_and_shaped {a : Assume} {C : Checked} {os : Os} {f : FuncId} {fn : Func} {s : ChangeSpec} {conds : List PathCond} {apart fresh handsOn again : Bool} {X : World → Array Value → Prop}
    (hX : ∀ (w w' : World) (args : Array Value), w.heap = w'.heap → X w args → X w' args)
    (own : ownKnob C.prog.godebug = none) (started : os.Started) (noInit : C.prog.inits.idxOf? f = none) (hfn : C.prog.funcs[f]? = some fn)
    (witness : ∃ (w : World) (tape : Tape) (i : Input), w.os = os ∧ (w.forCall tape i).Shaped C.prog ∧ i.vars = [] ∧ Input.okWide C.prog (w.forCall tape i) .any w.heap.size f i ∧
      ((s.pre enc C.prog fn conds apart (w.forCall tape i).memory i.args ∧ X (w.forCall tape i).memory i.args) ∧ sizedMet enc C.prog fn (OpenSpec.ofChange s) apart (w.forCall tape i).memory i.args) ∧ a.holds C.prog (lone (Frame.enter C.prog f i.args .normal) [] (w.forCall tape i)))
    (contract : ∀ (W : World) (base : Nat) (args : Array Value) (ds gs : List (DataW H)) (before : List MemPlace),
      (∀ (j : Nat) t v, fn.params[j]? = some t → args[j]? = some v → Value.okWide C.prog W .any base t v) →
      DataW.Whole enc C.prog fn.params.toList s.vars apart W args.toList ds gs before →
      (DataW.weightsEach C.prog (fn.params.toList ++ s.plain.varTypes C.prog) (ds ++ gs)).all (· ≤ reachBytes) = true → X W args → W.ShapedOpen C.prog →
      Calls C.prog f args W fun e W' => ∃ v, e = .returned v ∧ s.post enc C.prog fn apart fresh handsOn again W args v W') :
    ReturnsInHanded a C os f .any (fun w args => (s.pre enc C.prog fn conds apart w args ∧ X w args) ∧ sizedMet enc C.prog fn (OpenSpec.ofChange s) apart w args) (s.post enc C.prog fn apart fresh handsOn again) := by
  refine returnsInHanded_of_calls own started noInit witness ?_
  intro w tape i _ hsh _ hok hpre hholds
  obtain ⟨_, _, _, fn', hfn', _, _, _, _, hval⟩ := hok
  have e : fn' = fn := Option.some.inj (hfn'.symm.trans hfn)
  subst e
  obtain ⟨⟨⟨ds, gs, before, hw, hc⟩, hx⟩, hz⟩ := hpre
  have hw' := DataW.Whole.of_heap (w' := w.forCall tape i) (by rfl) hw
  refine (contract (w.forCall tape i) w.heap.size i.args ds gs before hval hw' (hz.weights hw) (hX _ _ _ (by rfl) hx) hsh).mono fun e W' ⟨v, he, hp⟩ => ?_
  subst he
  exact ChangeSpec.post_blind hp
/-- a listed array of strings: its cells -/
theorem laid_strs {P : Program} {W : World} {name : String} {g t e n : Nat} {ss : List Str} (hg : P.globalNamed name = some g) (ht : (P.globals[g]?).map (·.type) = some t) (hu : P.underlying t = some (.array n e)) (he : P.underlying e = some .string) (hc : P.cellsOf e = 1)
    (hn : ss.length = n) (hh : ((([(name, DataW.agg (ss.map (fun s => DataW.lit (.string s))))] : List (String × DataW Unit)).all fun x => x.2.handleName?.isNone)) = true) (h : laidMetH P [(name, .agg (ss.map (fun s => DataW.lit (.string s))))] W) :
    ∀ i (hi : i < ss.length), W.cell? ⟨g, i, none⟩ = some (str ss[i]) := by
  rw [MakeChecks.laidMetH_plain _ _ _ hh] at h
  obtain ⟨ps, ⟨g0, t0, cs0, f0, p0, q0, hg0, ht0, hv0, hd0, _, _⟩, _, _⟩ := h
  obtain rfl := Option.some.inj (hg.symm.trans hg0)
  obtain rfl := Option.some.inj (ht.symm.trans ht0)
  obtain ⟨xs, m1, rfl, hx1, hlen, hn3, hel⟩ := DataW.trod_array hu hd0
  intro i hi
  have h1 := hel i (by omega)
  rw [hc, Nat.mul_one] at h1
  have hxi : xs[i]? = some (xs[i]'(by omega)) := List.getElem?_eq_getElem (by omega)
  rw [hxi] at h1
  obtain ⟨s, e1, e2, _⟩ := DataW.trod_string he h1
  have e3 : DataW.agg (ss.map (fun s => DataW.lit (.string s))) = (DataW.agg (xs.map (·.1)) : DataW Unit) := congrArg Prod.fst hx1
  simp only [DataW.agg.injEq] at e3
  have e4 : (DataW.lit (.string ss[i]) : DataW Unit) = (xs[i]'(by omega)).1 := by
    have h2 := congrArg (fun l => l[i]?) e3
    simp only [List.getElem?_map, hxi, List.getElem?_eq_getElem hi, Option.map_some, Option.some.injEq] at h2
    exact h2
  rw [e2] at e4
  simp only [DataW.lit.injEq, Lit.string.injEq] at e4
  have hv := World.var?_cell hg0 hv0 i
  rw [hv]
  have h5 : cs0.toList[i]? = some (.string s) := by
    have h6 := congrArg (fun l => l[0]?) e1
    simpa [List.getElem?_take, List.getElem?_drop] using h6
  rw [← Array.getElem?_toList, h5]
  congr 1
  simp only [str, e4]
end
end Go.Eng


namespace Go.Proofs.YtgpibcgebpgmiaaDoor
open Go Go.Eng Go.RowKit Go.Proofs Go.ChangeShapes Go.WideShapes Go.Deep
set_option linter.unusedVariables false

theorem law_own : ownKnob Tryd.prog.godebug = none := by kernel_rfl
theorem law_laid : laidOutB Tryd.prog = true := by kernel_rfl
theorem flds_of_laid {W : World} (h : laidMetH Tryd.prog [("rollbook/types.fields", Rows.laid_rollbook_types_fields)] W) : SlV [] W flds fieldNames := by
  have hc := laid_strs (g := 0) (t := 122) (e := 9) (n := 7) (ss := fieldNames) (by kernel_rfl) (by kernel_rfl) Tryd.underlying122 Tryd.underlying9 (by kernel_rfl) rfl (by kernel_rfl) h
  have hlt : 0 < W.heap.size := block_lt_of_cell (a := ⟨0, 0, none⟩) (hc 0 (by decide))
  refine ⟨some ⟨0, 0, none⟩, 7, rfl, by decide, by decide, (fun h => by cases h), fun i hi => ⟨0, 0, [str fieldNames[i]], rfl, hlt, by simp, rfl, fun j u hu => ?_⟩⟩
  have hj : j = 0 := by
    have := (List.getElem?_eq_some_iff.1 hu).1
    simp at this
    exact this
  subst hj
  simp at hu
  subst hu
  have := hc i hi
  simpa [GoRep.k, Flat.k] using this
section
variable {H : Type} {enc : TypeId × Value → H} {w : World} {base : Nat} {spare : Nat → Bool} {held : Bool}
end
end Go.Proofs.YtgpibcgebpgmiaaDoor


namespace Go.Eng
open Go Go.RowKit Go.Proofs Go.ChangeShapes Go.WideShapes Go.Deep
set_option linter.unusedVariables false
section
variable {H : Type} {enc : TypeId × Value → H} {P : Program} {w : World} {base : Nat} {spare : Nat → Bool} {held : Bool}
end
end Go.Eng
namespace Go.Proofs.YtgpibcgebpgmiaaDoor
open Go Go.Eng Go.RowKit Go.Proofs Go.ChangeShapes Go.WideShapes Go.Deep
set_option linter.unusedVariables false
section
variable {H : Type} {enc : TypeId × Value → H} {w : World} {base : Nat} {spare : Nat → Bool} {held : Bool}
theorem k3 : Tryd.prog.cellsOf 3 = 1 := by kernel_rfl
theorem k9 : Tryd.prog.cellsOf 9 = 1 := by kernel_rfl
end
end Go.Proofs.YtgpibcgebpgmiaaDoor


namespace Go.Proofs.YtgpibcgebpgmiaaDoor
open Go Go.Eng Go.RowKit
set_option linter.unusedVariables false

/-! ### what a valid code is -/
structure Good (code : List Ins) (st : List (Option Shp)) (i : Nat) (s nx : Shp) : Prop where
  at_ : st.getD i none = some s
  next : nextM (code.getD i ⟨0, 0⟩) s = some nx
  stop : (code.getD i ⟨0, 0⟩).op = 24 → i + 1 = st.length ∧ s.length = 1
  jump : (code.getD i ⟨0, 0⟩).op = 13 ∨ (code.getD i ⟨0, 0⟩).op = 14 → (i : Int) < (code.getD i ⟨0, 0⟩).n ∧ (code.getD i ⟨0, 0⟩).n < st.length ∧ st.getD (code.getD i ⟨0, 0⟩).n.toNat none = some nx
  on : (code.getD i ⟨0, 0⟩).op ≠ 24 → (code.getD i ⟨0, 0⟩).op ≠ 13 → i + 1 < st.length ∧ st.getD (i + 1) none = some nx
end Go.Proofs.YtgpibcgebpgmiaaDoor


/-
The walk engine, part 17: bytes of a string.
-/
namespace Go.Eng
open Go Go.RowKit Go.Proofs
set_option linter.unusedVariables false
instance : Flat UInt8 where
  k := 1
  enc := fun b => [.int .u8 (b.toNat : Int)]
  len := fun _ => rfl
  one := by intro x u hu; simp at hu; subst hu; rfl
section
variable {P : Program} {n : Nat} {e : Env} {w : World} {d : Option Nat} {ty : TypeId} {pos : String} {af : Array Edge} {g : Option (Nat × Bool)}
theorem OE_convS {src dst el : TypeId} {x : Operand} {s : Str} [hs : Und P src .string] [hd : Und P dst (.slice el)] [he : Und P el (.int .u8)] (hx : ev e x = some (str s)) (hl : s.length ≤ 1000000) :
    OE P n ⟨d, .convert src dst x, ty, pos, af, g⟩ e w (fun v w' => (∀ X : List Nat, (∀ b ∈ X, b < w.heap.size) → SlV X w' v s) ∧ Stp [] w w') := by
  refine OE_value (v := .slice (some ⟨w.heap.size, 0, none⟩) s.length (grownCap w s.length 0 el)) (w' := Go.Lib.bytesWorld w el ⟨s.toArray⟩) (fun a ha => ?_) ⟨fun X hX => ?_, ?_⟩
  · have h := Go.Lib.run_convert_string_bytes (P := P) w src dst el ⟨s.toArray⟩ hs.h hd.h he.h
    simp only [str_size] at h
    simp [execOp, ha.ev hx, h]
  · refine ⟨some ⟨w.heap.size, 0, none⟩, _, rfl, grownCap_ge w _ _ _, grownCap_le_maxLen w _ _ _ (by simp [maxLen]; omega), (fun h => by cases h), fun i hi => ⟨w.heap.size, 0, Flat.enc s[i], rfl, ?_, fun h => by have := hX _ h; omega, rfl, fun j u hu => ?_⟩⟩
    · rw [Go.Lib.bytesWorld_size]; omega
    · have hj : j = 0 := by
        have := (List.getElem?_eq_some_iff.1 hu).1
        simp [Flat.enc] at this
        exact this
      subst hj
      have hc := Go.Lib.bytesWorld_cell w el ⟨s.toArray⟩ i (by rw [str_size]; exact hi)
      simp only [Flat.enc, List.getElem?_cons_zero, Option.some.injEq] at hu
      subst hu
      have e1 : (0 + i * GoRep.k UInt8 + 0) = i := by show 0 + i * 1 + 0 = i; omega
      rw [e1, hc]
      simp [List.getD, hi]
  · refine ⟨rfl, rfl, rfl, ?_, fun b hb _ => Go.Lib.bytesWorld_at_old w el _ b hb⟩
    rw [Go.Lib.bytesWorld_size]; omega
end
end Go.Eng

/-
  DERIVED: THE SHELF's CONTRACTS AT THIS DUMP, IN PLAIN WORDS (tools/lay-plain.mjs out of 'TrydShelf.lean', which tools/lay-shelf.mjs wrote): THE SAME DECLARATIONS UNDER THE SAME NAMES: 'import', 'namespace', 'open', 'def', 'theorem' AND NOTHING ELSE: no command of the shelf's: FOR A HAND-IN. Each laying: the table of numbers ('.._ren') and one theorem, a field a fact of the dump's own or the kernel's comparison; each contract: ONE APPLICATION.
-/
namespace Go.Proofs
open Go.Shelf
def Tryd.lays144_ren : Go.Shelf.Ren := ⟨fun | 144 => 111 | 143 => 130 | 219 => 133 | 217 => 134 | 225 => 135 | 224 => 136 | 267 => 137 | 266 => 138 | 314 => 139 | n => n, fun | 9 => 9 | 4 => 4 | 3 => 3 | 5 => 5 | 46 => 125 | 146 => 188 | 51 => 163 | n => n, fun | 1 => 1 | n => n⟩
theorem Tryd.lays144 : Go.Proofs.Lays.n144 Tryd.prog Tryd.lays144_ren := {
  mixed := by kernel_rfl
  f143 := Tryd.func130.trans (congrArg some (by kernel_rfl))
  f144 := Tryd.func111.trans (congrArg some (by kernel_rfl))
  f217 := Tryd.func134.trans (congrArg some (by kernel_rfl))
  f219 := Tryd.func133.trans (congrArg some (by kernel_rfl))
  f224 := Tryd.func136.trans (congrArg some (by kernel_rfl))
  f225 := Tryd.func135.trans (congrArg some (by kernel_rfl))
  f266 := Tryd.func138.trans (congrArg some (by kernel_rfl))
  f267 := Tryd.func137.trans (congrArg some (by kernel_rfl))
  f314 := Tryd.func139.trans (congrArg some (by kernel_rfl))
  t3 := Tryd.underlying3
  a3 := Tryd.isAgg3
  z3 := Tryd.sizeOf3
  v3 := Tryd.zeroValue3
  t4 := Tryd.underlying4
  a4 := Tryd.isAgg4
  z4 := Tryd.sizeOf4
  v4 := Tryd.zeroValue4
  t5 := Tryd.underlying5
  a5 := Tryd.isAgg5
  z5 := Tryd.sizeOf5
  v5 := Tryd.zeroValue5
  t9 := Tryd.underlying9
  a9 := Tryd.isAgg9
  z9 := Tryd.sizeOf9
  v9 := Tryd.zeroValue9
  t46 := Tryd.underlying125
  a46 := Tryd.isAgg125
  z46 := Tryd.sizeOf125
  v46 := Tryd.zeroValue125
  t51 := Tryd.underlying163
  a51 := Tryd.isAgg163
  z51 := Tryd.sizeOf163
  v51 := Tryd.zeroValue163
  t146 := Tryd.underlying188
  a146 := Tryd.isAgg188
  z146 := Tryd.sizeOf188
  v146 := Tryd.zeroValue188
  g1 := by kernel_rfl }
open Go.RowKit Go.Lib in
/-- strings.Contains: "Contains reports whether substr is within s.": IT RETURNS 'Lib.contains s substr'; the world is as it was. (LAID: no walk: one application.) -/
theorem Tryd.strings_Contains (s sub : ByteArray) (m : Int) (w : World) (hs : s.size < 4294967281) (hm : w.cell? ⟨1, 0, none⟩ = some (.int .i64 m)) :
    Calls Tryd.prog 111 #[.string s, .string sub] w fun e w' => e = .returned (.bool (Lib.contains s.data.toList sub.data.toList)) ∧ w' = w := Any.strings_Contains Tryd.lays144 s sub m w hs hm
def Tryd.laysM144_ren : Go.Shelf.Ren := ⟨fun | 144 => 111 | 143 => 130 | 219 => 133 | 217 => 134 | 225 => 135 | 224 => 136 | 267 => 137 | 266 => 138 | 314 => 139 | n => n, fun | 9 => 9 | 4 => 4 | 3 => 3 | 5 => 5 | 46 => 125 | 146 => 188 | 51 => 163 | n => n, fun | 1 => 1 | n => n⟩
theorem Tryd.laysM144 : Go.Proofs.LaysM.n144 Tryd.prog Tryd.laysM144_ren := {
  mixed := by kernel_rfl
  f143 := Tryd.func130.trans (congrArg some (by kernel_rfl))
  f144 := Tryd.func111.trans (congrArg some (by kernel_rfl))
  f217 := Tryd.func134.trans (congrArg some (by kernel_rfl))
  f219 := Tryd.func133.trans (congrArg some (by kernel_rfl))
  f224 := Tryd.func136.trans (congrArg some (by kernel_rfl))
  f225 := Tryd.func135.trans (congrArg some (by kernel_rfl))
  f266 := Tryd.func138.trans (congrArg some (by kernel_rfl))
  f267 := Tryd.func137.trans (congrArg some (by kernel_rfl))
  f314 := Tryd.func139.trans (congrArg some (by kernel_rfl))
  t3 := Tryd.underlying3
  a3 := Tryd.isAgg3
  z3 := Tryd.sizeOf3
  v3 := Tryd.zeroValue3
  t4 := Tryd.underlying4
  a4 := Tryd.isAgg4
  z4 := Tryd.sizeOf4
  v4 := Tryd.zeroValue4
  t5 := Tryd.underlying5
  a5 := Tryd.isAgg5
  z5 := Tryd.sizeOf5
  v5 := Tryd.zeroValue5
  t9 := Tryd.underlying9
  a9 := Tryd.isAgg9
  z9 := Tryd.sizeOf9
  v9 := Tryd.zeroValue9
  t46 := Tryd.underlying125
  a46 := Tryd.isAgg125
  z46 := Tryd.sizeOf125
  v46 := Tryd.zeroValue125
  t51 := Tryd.underlying163
  a51 := Tryd.isAgg163
  z51 := Tryd.sizeOf163
  v51 := Tryd.zeroValue163
  t146 := Tryd.underlying188
  a146 := Tryd.isAgg188
  z146 := Tryd.sizeOf188
  v146 := Tryd.zeroValue188
  g1 := by kernel_rfl
  i3 := by kernel_rfl
  i4 := by kernel_rfl
  i5 := by kernel_rfl
  i9 := by kernel_rfl
  i46 := by kernel_rfl
  i51 := by kernel_rfl
  i146 := by kernel_rfl
  m1 := by kernel_rfl
  s1_3 := fun w h => Go.Proofs.cell_of_shapedOpen_int (zero := #[.int .i64 0]) (t := 3) h (of_decide_eq_true (by kernel_rfl)) (by kernel_rfl) rfl (by kernel_rfl) (by kernel_rfl) Tryd.underlying3 }
end Go.Proofs


namespace Go.Proofs.YtgpibcgebpgmiaaDoor
open Go Go.Eng Go.RowKit
set_option linter.unusedVariables false

/-! ### names -/
def resC : Str := [32, 114, 117, 108, 101, 32, 102, 114, 111, 109, 32, 111, 110, 32, 105, 102, 32, 100, 117, 101, 32, 117, 110, 108, 101, 115, 115, 32, 101, 108, 115, 101, 32, 111, 114, 32, 97, 110, 100, 32, 110, 111, 116, 32, 116, 114, 117, 101, 32, 102, 97, 108, 115, 101, 32, 116, 104, 101, 110, 32, 101, 110, 100, 32, 100, 97, 121, 115, 32, 119, 101, 101, 107, 115, 32, 109, 111, 110, 116, 104, 115, 32, 99, 111, 117, 114, 116, 100, 97, 121, 115, 32, 110, 101, 120, 116, 32, 112, 114, 101, 118, 32, 108, 97, 116, 101, 114, 32, 101, 97, 114, 108, 105, 101, 114, 32, 98, 101, 116, 119, 101, 101, 110, 32]
def resW : List Str := [[114, 117, 108, 101], [102, 114, 111, 109], [111, 110], [105, 102], [100, 117, 101], [117, 110, 108, 101, 115, 115], [101, 108, 115, 101], [111, 114], [97, 110, 100], [110, 111, 116], [116, 114, 117, 101], [102, 97, 108, 115, 101], [116, 104, 101, 110], [101, 110, 100], [100, 97, 121, 115], [119, 101, 101, 107, 115], [109, 111, 110, 116, 104, 115], [99, 111, 117, 114, 116, 100, 97, 121, 115], [110, 101, 120, 116], [112, 114, 101, 118], [108, 97, 116, 101, 114], [101, 97, 114, 108, 105, 101, 114], [98, 101, 116, 119, 101, 101, 110]]
theorem index_iff : ∀ (s sub : List UInt8), 0 ≤ Lib.index s sub ↔ ∃ i, i ≤ s.length ∧ sub.isPrefixOf (s.drop i) = true
  | [], sub => by
    unfold Lib.index
    cases sub with
    | nil => simp
    | cons a l => simp
  | b :: l, sub => by
    have ih := index_iff l sub
    have hge := Lib.index_ge l sub
    unfold Lib.index
    by_cases hp : sub.isPrefixOf (b :: l) = true
    · rw [if_pos hp]
      exact ⟨fun _ => ⟨0, by omega, hp⟩, fun _ => by omega⟩
    · rw [if_neg hp]
      have e : (0 : Int) ≤ (if (Lib.index l sub == -1) = true then -1 else Lib.index l sub + 1) ↔ 0 ≤ Lib.index l sub := by
        by_cases h1 : Lib.index l sub = -1
        · rw [if_pos (by simpa using h1)]; omega
        · rw [if_neg (by simpa using h1)]; omega
      rw [e, ih]
      constructor
      · rintro ⟨i, hi, h⟩
        exact ⟨i + 1, by simpa using hi, h⟩
      · rintro ⟨i, hi, h⟩
        cases i with
        | zero => exact absurd h hp
        | succ i => exact ⟨i, by simpa using hi, h⟩
theorem take_word : ∀ (t r : List UInt8), (∀ c ∈ t, c ≠ 32) → (t ++ [32]).isPrefixOf r = true → r.takeWhile (fun c => decide (c ≠ 32)) = t
  | [], r, _, h => by
    cases r with
    | nil => simp at h
    | cons a l =>
      simp [List.isPrefixOf] at h
      subst h
      rfl
  | c :: t, r, hc, h => by
    cases r with
    | nil => simp at h
    | cons a l =>
      simp only [List.cons_append, List.isPrefixOf, Bool.and_eq_true, beq_iff_eq] at h
      obtain ⟨rfl, h⟩ := h
      have h1 := hc c (by simp)
      rw [List.takeWhile_cons_of_pos (by simpa using h1), take_word t l (fun x hx => hc x (by simp [hx])) h]
theorem res_words : ∀ i ∈ List.range (resC.length + 1), (resC.drop i).head? = some 32 → (resC.drop (i + 1)).takeWhile (fun c => decide (c ≠ 32)) ∈ resW ∨ (resC.drop (i + 1)).takeWhile (fun c => decide (c ≠ 32)) = [] := by decide +kernel
theorem res_has : ∀ t ∈ resW, Lib.contains resC (32 :: t ++ [32]) = true := by decide +kernel
theorem res_iff {t : Str} (h0 : t ≠ []) (hc : ∀ c ∈ t, c ≠ 32) : Lib.contains resC (32 :: t ++ [32]) = decide (t ∈ resW) := by
  by_cases ht : t ∈ resW
  · rw [res_has t ht, decide_eq_true ht]
  · rw [decide_eq_false ht]
    unfold Lib.contains
    rw [decide_eq_false_iff_not, index_iff]
    rintro ⟨i, hi, h⟩
    cases hd : resC.drop i with
    | nil => rw [hd] at h; simp at h
    | cons a l =>
      rw [hd] at h
      simp only [List.cons_append, List.isPrefixOf, Bool.and_eq_true, beq_iff_eq] at h
      obtain ⟨rfl, h⟩ := h
      have hl : resC.drop (i + 1) = l := by
        have := congrArg List.tail hd
        simpa [List.tail_drop] using this
      have hw := take_word t l hc h
      have := res_words i (List.mem_range.2 (by omega)) (by rw [hd]; rfl)
      rw [hl, hw] at this
      exact this.elim ht h0
end Go.Proofs.YtgpibcgebpgmiaaDoor


namespace Go.Proofs.YtgpibcgebpgmiaaDoor
open Go Go.Eng Go.RowKit
set_option linter.unusedVariables false

abbrev lett (c : Int) : Prop := (97 ≤ c ∧ c ≤ 122) ∨ (48 ≤ c ∧ c ≤ 57)
def nameOk (s : Str) : Bool := decide (0 < s.length ∧ s.length ≤ 12 ∧ 97 ≤ byte s 0 ∧ byte s 0 ≤ 122 ∧ ∀ i, i < s.length → lett (byte s i))
/-- a string is a name -/
def namedT (s : Str) : Bool := nameOk s && decide (s ∉ resW ∧ s ∉ fieldNames)
theorem contains_any (a b : Str) (m : Int) (w : World) (ha : a.length < 4294967281) (hm : w.cell? ⟨1, 0, none⟩ = some (.int .i64 m)) :
    Calls Tryd.prog 111 #[str a, str b] w (Ret fun r w' => r = .bool (Lib.contains a b) ∧ Stp [] w w') := by
  refine (Tryd.strings_Contains ⟨a.toArray⟩ ⟨b.toArray⟩ m w (by rw [str_size]; exact ha) hm).mono ?_
  rintro e w' ⟨rfl, rfl⟩
  exact .mk ⟨rfl, Stp.refl _ _⟩
theorem idx_memS {l : List Str} {s : Str} : 0 ≤ idx (isS s) l ↔ s ∈ l := by
  unfold idx
  cases h : l.findIdx? (isS s) with
  | none =>
    rw [List.findIdx?_eq_none_iff] at h
    simp only
    constructor
    · intro h1; omega
    · intro h1
      have := h s h1
      simp [isS] at this
  | some i =>
    obtain ⟨hi, hp, _⟩ := List.findIdx?_eq_some_iff_getElem.1 h
    simp only
    constructor
    · intro _
      have : l[i] = s := by simpa [isS] using hp
      rw [← this]; exact List.getElem_mem hi
    · intro _; omega
theorem containsS_any (X : List Nat) (v : Value) (l : List Str) (a : Str) (w : World) (hs : SlV X w v l) :
    Calls Tryd.prog 112 #[v, str a] w (Ret fun r w' => r = .bool (decide (a ∈ l)) ∧ Stp [] w w') := by
  refine calls_of_WC2 (n := 9) Tryd.func112 rfl rfl rfl ?_
  refine W ?_
  refine WL_eff (OE_call rfl (evs2 rfl rfl) (index_any X v l a _ hs)) rfl ?_
  rintro _ w1 ⟨rfl, hS⟩
  refine W ?_
  first | refine WQ_ret1 rfl rfl ?_ | refine WQ_ret2 rfl rfl rfl ?_ | refine WQ_ret3 rfl rfl rfl rfl ?_ | refine WQ_ret0 rfl ?_ | refine WQ_end0 rfl ?_
  exact .mk ⟨by congr 1; exact decide_eq_decide.2 idx_memS, hS⟩
theorem named_any (s : Str) (m : Int) (w : World) (hF : SlV [] w flds fieldNames) (hm : w.cell? ⟨1, 0, none⟩ = some (.int .i64 m)) :
    Calls Tryd.prog 79 #[str s] w (Ret fun r w' => r = .bool (namedT s) ∧ Stp [] w w') := by
  refine calls_of_WC1 (n := 55) Tryd.func79 rfl rfl rfl ?_
  refine W ?_
  by_cases h0 : s.length ≠ 0 ∧ s.length ≤ 12 ∧ 97 ≤ byte s 0 ∧ byte s 0 ≤ 122
  case neg =>
    have hn : namedT s = false := by
      unfold namedT nameOk
      rw [decide_eq_false (fun h => h0 ⟨by omega, h.2.1, h.2.2.1, h.2.2.2.1⟩)]
      rfl
    by_cases hl : s.length ≠ 0
    · repeat' (first | refine W1 ?_ | (exfalso; omega) | refine WL_split rfl rfl (fun hg => ?_) (fun hg => ?_) | refine WL_splitB rfl rfl (fun hg => ?_) (fun hg => ?_) | refine WC_cond rfl (fun hc => ?_) (fun hc => ?_) | refine WC_condB rfl (fun hc => ?_) (fun hc => ?_))
      · first | refine WQ_ret1 rfl rfl ?_ | refine WQ_ret2 rfl rfl rfl ?_ | refine WQ_ret3 rfl rfl rfl rfl ?_ | refine WQ_ret0 rfl ?_ | refine WQ_end0 rfl ?_
        exact .mk ⟨by rw [hn], Stp.refl _ _⟩
      · first | refine WQ_ret1 rfl rfl ?_ | refine WQ_ret2 rfl rfl rfl ?_ | refine WQ_ret3 rfl rfl rfl rfl ?_ | refine WQ_ret0 rfl ?_ | refine WQ_end0 rfl ?_
        exact .mk ⟨by rw [hn], Stp.refl _ _⟩
      refine WL_indexT (i := 0) rfl rfl rfl (by omega) rfl ?_
      repeat' (first | refine W1 ?_ | (exfalso; omega) | refine WL_split rfl rfl (fun hg => ?_) (fun hg => ?_) | refine WL_splitB rfl rfl (fun hg => ?_) (fun hg => ?_) | refine WC_cond rfl (fun hc => ?_) (fun hc => ?_) | refine WC_condB rfl (fun hc => ?_) (fun hc => ?_))
      · first | refine WQ_ret1 rfl rfl ?_ | refine WQ_ret2 rfl rfl rfl ?_ | refine WQ_ret3 rfl rfl rfl rfl ?_ | refine WQ_ret0 rfl ?_ | refine WQ_end0 rfl ?_
        exact .mk ⟨by rw [hn], Stp.refl _ _⟩
      refine WL_indexT (i := 0) rfl rfl rfl (by omega) rfl ?_
      repeat' (first | refine W1 ?_ | (exfalso; omega) | refine WL_split rfl rfl (fun hg => ?_) (fun hg => ?_) | refine WL_splitB rfl rfl (fun hg => ?_) (fun hg => ?_) | refine WC_cond rfl (fun hc => ?_) (fun hc => ?_) | refine WC_condB rfl (fun hc => ?_) (fun hc => ?_))
      first | refine WQ_ret1 rfl rfl ?_ | refine WQ_ret2 rfl rfl rfl ?_ | refine WQ_ret3 rfl rfl rfl rfl ?_ | refine WQ_ret0 rfl ?_ | refine WQ_end0 rfl ?_
      exact .mk ⟨by rw [hn], Stp.refl _ _⟩
    · obtain rfl : s = [] := List.length_eq_zero_iff.1 (by omega)
      repeat' (first | refine W1 ?_ | (exfalso; omega) | refine WL_split rfl rfl (fun hg => ?_) (fun hg => ?_) | refine WL_splitB rfl rfl (fun hg => ?_) (fun hg => ?_) | refine WC_cond rfl (fun hc => ?_) (fun hc => ?_) | refine WC_condB rfl (fun hc => ?_) (fun hc => ?_))
      first | refine WQ_ret1 rfl rfl ?_ | refine WQ_ret2 rfl rfl rfl ?_ | refine WQ_ret3 rfl rfl rfl rfl ?_ | refine WQ_ret0 rfl ?_ | refine WQ_end0 rfl ?_
      exact .mk ⟨by rw [hn], Stp.refl _ _⟩
  obtain ⟨h1, h2, h3, h4⟩ := h0
  have hne : ¬ s = [] := fun h => by rw [h] at h1; exact h1 rfl
  repeat' (first | refine W1 ?_ | (exfalso; omega) | refine WL_split rfl rfl (fun hg => ?_) (fun hg => ?_) | refine WL_splitB rfl rfl (fun hg => ?_) (fun hg => ?_) | refine WC_cond rfl (fun hc => ?_) (fun hc => ?_) | refine WC_condB rfl (fun hc => ?_) (fun hc => ?_))
  · exact absurd (by assumption) hne
  refine WL_indexT (i := 0) rfl rfl rfl (by omega) rfl ?_
  repeat' (first | refine W1 ?_ | (exfalso; omega) | refine WL_split rfl rfl (fun hg => ?_) (fun hg => ?_) | refine WL_splitB rfl rfl (fun hg => ?_) (fun hg => ?_) | refine WC_cond rfl (fun hc => ?_) (fun hc => ?_) | refine WC_condB rfl (fun hc => ?_) (fun hc => ?_))
  refine WL_indexT (i := 0) rfl rfl rfl (by omega) rfl ?_
  repeat' (first | refine W1 ?_ | (exfalso; omega) | refine WL_split rfl rfl (fun hg => ?_) (fun hg => ?_) | refine WL_splitB rfl rfl (fun hg => ?_) (fun hg => ?_) | refine WC_cond rfl (fun hc => ?_) (fun hc => ?_) | refine WC_condB rfl (fun hc => ?_) (fun hc => ?_))
  refine WL_eff (OE_convS rfl (by omega)) rfl ?_
  rintro bv w1 ⟨hb, hS⟩
  replace hb := hb [] (by simp)
  have hmx := hb.max
  repeat' (first | refine W1 ?_ | (exfalso; omega) | refine WL_split rfl rfl (fun hg => ?_) (fun hg => ?_) | refine WL_splitB rfl rfl (fun hg => ?_) (fun hg => ?_) | refine WC_cond rfl (fun hc => ?_) (fun hc => ?_) | refine WC_condB rfl (fun hc => ?_) (fun hc => ?_))
  refine WC_loop (σ := Nat) (fun i => [(0, str s), (23, bv), (24, .int .i64 (s.length : Int)), (25, .int .i64 (i : Int))]) (fun i w' => i ≤ s.length ∧ Stp [] w1 w' ∧ ∀ j, j < i → lett (byte s j)) (fun i => s.length - i) 0 ⟨rfl, rfl, rfl, rfl, trivial⟩ ⟨Nat.zero_le _, Stp.refl _ _, fun j hj => absurd hj (Nat.not_lt_zero _)⟩ ?_
  rintro i w2 ⟨hi, hS2, hall⟩
  try dsimp only at hi hall ⊢
  replace hb := hb.up hS2
  replace hS := hS.trans hS2
  by_cases hlt : i < s.length
  · have hbi : byte s i = (s[i].toNat : Int) := Go.Eng.byte_at hlt
    by_cases hle : (97 ≤ (s[i].toNat : Int) ∧ (s[i].toNat : Int) ≤ 122) ∨ (48 ≤ (s[i].toNat : Int) ∧ (s[i].toNat : Int) ≤ 57)
    · have hall' : ∀ j, j < i + 1 → lett (byte s j) := fun j hj => by
        by_cases e : j = i
        · subst e; rw [hbi]; exact hle
        · exact hall j (by omega)
      repeat' (first | refine W1 ?_ | (exfalso; omega) | refine WL_split rfl rfl (fun hg => ?_) (fun hg => ?_) | refine WL_splitB rfl rfl (fun hg => ?_) (fun hg => ?_) | refine WC_cond rfl (fun hc => ?_) (fun hc => ?_) | refine WC_condB rfl (fun hc => ?_) (fun hc => ?_))
      all_goals exact WQ_loop (i + 1) ⟨rfl, rfl, rfl, rfl, trivial⟩ ⟨hlt, hS2, hall'⟩ (Nat.sub_lt_sub_left hlt (Nat.lt_succ_self i))
    · have hn : namedT s = false := by
        unfold namedT nameOk
        rw [decide_eq_false (fun h => hle (by have := h.2.2.2.2 i hlt; rw [hbi] at this; exact this))]
        rfl
      repeat' (first | refine W1 ?_ | (exfalso; omega) | refine WL_split rfl rfl (fun hg => ?_) (fun hg => ?_) | refine WL_splitB rfl rfl (fun hg => ?_) (fun hg => ?_) | refine WC_cond rfl (fun hc => ?_) (fun hc => ?_) | refine WC_condB rfl (fun hc => ?_) (fun hc => ?_))
      all_goals
        first | refine WQ_ret1 rfl rfl ?_ | refine WQ_ret2 rfl rfl rfl ?_ | refine WQ_ret3 rfl rfl rfl rfl ?_ | refine WQ_ret0 rfl ?_ | refine WQ_end0 rfl ?_
        exact .mk ⟨by rw [hn], hS⟩
  obtain rfl : i = s.length := by omega
  have hok : nameOk s = true := decide_eq_true ⟨by omega, h2, h3, h4, hall⟩
  have hsp : ∀ c ∈ s, c ≠ 32 := fun c hc h => by
    obtain ⟨j, hj, rfl⟩ := List.getElem_of_mem hc
    have h5 := hall j hj
    rw [Go.Eng.byte_at hj, h] at h5
    exact absurd h5 (by decide)
  have hrl : resC.length < 4294967281 := by
    have : resC.length ≤ 200 := by decide +kernel
    omega
  have hres : Lib.contains resC ([32] ++ s ++ [32]) = decide (s ∈ resW) := res_iff hne hsp
  repeat' (first | refine W1 ?_ | (exfalso; omega) | refine WL_split rfl rfl (fun hg => ?_) (fun hg => ?_) | refine WL_splitB rfl rfl (fun hg => ?_) (fun hg => ?_) | refine WC_cond rfl (fun hc => ?_) (fun hc => ?_) | refine WC_condB rfl (fun hc => ?_) (fun hc => ?_))
  refine WL_addT rfl rfl (by simp; omega) rfl ?_
  repeat' (first | refine W1 ?_ | (exfalso; omega) | refine WL_split rfl rfl (fun hg => ?_) (fun hg => ?_) | refine WL_splitB rfl rfl (fun hg => ?_) (fun hg => ?_) | refine WC_cond rfl (fun hc => ?_) (fun hc => ?_) | refine WC_condB rfl (fun hc => ?_) (fun hc => ?_))
  refine WL_addT rfl rfl (by simp; omega) rfl ?_
  repeat' (first | refine W1 ?_ | (exfalso; omega) | refine WL_split rfl rfl (fun hg => ?_) (fun hg => ?_) | refine WL_splitB rfl rfl (fun hg => ?_) (fun hg => ?_) | refine WC_cond rfl (fun hc => ?_) (fun hc => ?_) | refine WC_condB rfl (fun hc => ?_) (fun hc => ?_))
  refine WL_eff (OE_call rfl (evs2 rfl rfl) (contains_any resC ([32] ++ s ++ [32]) m _ hrl (hS.cell (by simp) hm))) rfl ?_
  rintro _ w3 ⟨rfl, hS3⟩
  rw [hres]
  replace hS := hS.trans hS3
  by_cases hr : s ∈ resW
  · have hn : namedT s = false := by
      unfold namedT
      rw [decide_eq_false (fun h => h.1 hr), Bool.and_false]
    rw [decide_eq_true hr]
    repeat' (first | refine W1 ?_ | (exfalso; omega) | refine WL_split rfl rfl (fun hg => ?_) (fun hg => ?_) | refine WL_splitB rfl rfl (fun hg => ?_) (fun hg => ?_) | refine WC_cond rfl (fun hc => ?_) (fun hc => ?_) | refine WC_condB rfl (fun hc => ?_) (fun hc => ?_))
    first | refine WQ_ret1 rfl rfl ?_ | refine WQ_ret2 rfl rfl rfl ?_ | refine WQ_ret3 rfl rfl rfl rfl ?_ | refine WQ_ret0 rfl ?_ | refine WQ_end0 rfl ?_
    exact .mk ⟨by rw [hn], hS⟩
  rw [decide_eq_false hr]
  repeat' (first | refine W1 ?_ | (exfalso; omega) | refine WL_split rfl rfl (fun hg => ?_) (fun hg => ?_) | refine WL_splitB rfl rfl (fun hg => ?_) (fun hg => ?_) | refine WC_cond rfl (fun hc => ?_) (fun hc => ?_) | refine WC_condB rfl (fun hc => ?_) (fun hc => ?_))
  refine WL_sliceA rfl rfl ?_
  refine W ?_
  refine WL_eff (OE_call rfl (evs2 rfl rfl) (containsS_any [] _ fieldNames s _ (hF.up hS))) rfl ?_
  rintro _ w4 ⟨rfl, hS4⟩
  repeat' (first | refine W1 ?_ | (exfalso; omega) | refine WL_split rfl rfl (fun hg => ?_) (fun hg => ?_) | refine WL_splitB rfl rfl (fun hg => ?_) (fun hg => ?_) | refine WC_cond rfl (fun hc => ?_) (fun hc => ?_) | refine WC_condB rfl (fun hc => ?_) (fun hc => ?_))
  first | refine WQ_ret1 rfl rfl ?_ | refine WQ_ret2 rfl rfl rfl ?_ | refine WQ_ret3 rfl rfl rfl rfl ?_ | refine WQ_ret0 rfl ?_ | refine WQ_end0 rfl ?_
  refine .mk ⟨?_, hS.trans hS4⟩
  unfold namedT
  rw [hok]
  by_cases hf : s ∈ fieldNames <;> simp [hr, hf]
end Go.Proofs.YtgpibcgebpgmiaaDoor


namespace Go.Proofs.YtgpibcgebpgmiaaDoor
open Go Go.Eng Go.RowKit
set_option linter.unusedVariables false

theorem reserved_words : wordsOf [114, 117, 108, 101, 32, 102, 114, 111, 109, 32, 111, 110, 32, 105, 102, 32, 100, 117, 101, 32, 117, 110, 108, 101, 115, 115, 32, 101, 108, 115, 101, 32, 111, 114, 32, 97, 110, 100, 32, 110, 111, 116, 32, 116, 114, 117, 101, 32, 102, 97, 108, 115, 101, 32, 116, 104, 101, 110, 32, 101, 110, 100, 32, 100, 97, 121, 115, 32, 119, 101, 101, 107, 115, 32, 109, 111, 110, 116, 104, 115, 32, 99, 111, 117, 114, 116, 100, 97, 121, 115, 32, 110, 101, 120, 116, 32, 112, 114, 101, 118, 32, 108, 97, 116, 101, 114, 32, 101, 97, 114, 108, 105, 101, 114, 32, 98, 101, 116, 119, 101, 101, 110, 32, 100, 97, 121, 32, 115, 101, 114, 118, 101, 100, 32, 101, 120, 116, 114, 97, 32, 98, 121, 32, 116, 111, 32, 99, 111, 117, 114, 116, 32, 97, 109, 111, 117, 110, 116] = resW ++ fieldNames := by decide +kernel
theorem Reserved_any (X : List Nat) (w : World) (hX : ∀ b ∈ X, b < w.heap.size) : Calls Tryd.prog 117 #[] w (Ret fun r w' => Row X w' w.heap.size 9 r (resW ++ fieldNames) ∧ Stp [] w w') := by
  refine calls_of_WC0 (n := 2) Tryd.func117 rfl rfl ?_
  refine W ?_
  refine WL_eff (OE_call rfl (evs1 rfl) (words_any X [114, 117, 108, 101, 32, 102, 114, 111, 109, 32, 111, 110, 32, 105, 102, 32, 100, 117, 101, 32, 117, 110, 108, 101, 115, 115, 32, 101, 108, 115, 101, 32, 111, 114, 32, 97, 110, 100, 32, 110, 111, 116, 32, 116, 114, 117, 101, 32, 102, 97, 108, 115, 101, 32, 116, 104, 101, 110, 32, 101, 110, 100, 32, 100, 97, 121, 115, 32, 119, 101, 101, 107, 115, 32, 109, 111, 110, 116, 104, 115, 32, 99, 111, 117, 114, 116, 100, 97, 121, 115, 32, 110, 101, 120, 116, 32, 112, 114, 101, 118, 32, 108, 97, 116, 101, 114, 32, 101, 97, 114, 108, 105, 101, 114, 32, 98, 101, 116, 119, 101, 101, 110, 32, 100, 97, 121, 32, 115, 101, 114, 118, 101, 100, 32, 101, 120, 116, 114, 97, 32, 98, 121, 32, 116, 111, 32, 99, 111, 117, 114, 116, 32, 97, 109, 111, 117, 110, 116] _ hX (by decide +kernel))) rfl ?_
  rintro v w1 ⟨hr, hS⟩
  rw [reserved_words] at hr
  refine W ?_
  first | refine WQ_ret1 rfl rfl ?_ | refine WQ_ret2 rfl rfl rfl ?_ | refine WQ_ret3 rfl rfl rfl rfl ?_ | refine WQ_ret0 rfl ?_ | refine WQ_end0 rfl ?_
  exact .mk ⟨hr, hS⟩
theorem Named14_any (s : Str) (w : World) : Calls Tryd.prog 90 #[str s] w (Ret fun r w' => r = .bool (namedT s) ∧ Stp [] w w') := by
  refine calls_of_WC1 (n := 60) Tryd.func90 rfl rfl rfl ?_
  refine W ?_
  by_cases h0 : s.length ≠ 0 ∧ s.length ≤ 12 ∧ 97 ≤ byte s 0 ∧ byte s 0 ≤ 122
  case neg =>
    have hn : namedT s = false := by
      unfold namedT nameOk
      rw [decide_eq_false (fun h => h0 ⟨by omega, h.2.1, h.2.2.1, h.2.2.2.1⟩)]
      rfl
    by_cases hl : s.length ≠ 0
    · repeat' (first | refine W1 ?_ | (exfalso; omega) | refine WL_split rfl rfl (fun hg => ?_) (fun hg => ?_) | refine WL_splitB rfl rfl (fun hg => ?_) (fun hg => ?_) | refine WC_cond rfl (fun hc => ?_) (fun hc => ?_) | refine WC_condB rfl (fun hc => ?_) (fun hc => ?_))
      · first | refine WQ_ret1 rfl rfl ?_ | refine WQ_ret2 rfl rfl rfl ?_ | refine WQ_ret3 rfl rfl rfl rfl ?_ | refine WQ_ret0 rfl ?_ | refine WQ_end0 rfl ?_
        exact .mk ⟨by rw [hn], Stp.refl _ _⟩
      refine WL_indexT (i := 0) rfl rfl rfl (by omega) rfl ?_
      repeat' (first | refine W1 ?_ | (exfalso; omega) | refine WL_split rfl rfl (fun hg => ?_) (fun hg => ?_) | refine WL_splitB rfl rfl (fun hg => ?_) (fun hg => ?_) | refine WC_cond rfl (fun hc => ?_) (fun hc => ?_) | refine WC_condB rfl (fun hc => ?_) (fun hc => ?_))
      · first | refine WQ_ret1 rfl rfl ?_ | refine WQ_ret2 rfl rfl rfl ?_ | refine WQ_ret3 rfl rfl rfl rfl ?_ | refine WQ_ret0 rfl ?_ | refine WQ_end0 rfl ?_
        exact .mk ⟨by rw [hn], Stp.refl _ _⟩
      refine WL_indexT (i := 0) rfl rfl rfl (by omega) rfl ?_
      repeat' (first | refine W1 ?_ | (exfalso; omega) | refine WL_split rfl rfl (fun hg => ?_) (fun hg => ?_) | refine WL_splitB rfl rfl (fun hg => ?_) (fun hg => ?_) | refine WC_cond rfl (fun hc => ?_) (fun hc => ?_) | refine WC_condB rfl (fun hc => ?_) (fun hc => ?_))
      first | refine WQ_ret1 rfl rfl ?_ | refine WQ_ret2 rfl rfl rfl ?_ | refine WQ_ret3 rfl rfl rfl rfl ?_ | refine WQ_ret0 rfl ?_ | refine WQ_end0 rfl ?_
      exact .mk ⟨by rw [hn], Stp.refl _ _⟩
    · repeat' (first | refine W1 ?_ | (exfalso; omega) | refine WL_split rfl rfl (fun hg => ?_) (fun hg => ?_) | refine WL_splitB rfl rfl (fun hg => ?_) (fun hg => ?_) | refine WC_cond rfl (fun hc => ?_) (fun hc => ?_) | refine WC_condB rfl (fun hc => ?_) (fun hc => ?_))
      first | refine WQ_ret1 rfl rfl ?_ | refine WQ_ret2 rfl rfl rfl ?_ | refine WQ_ret3 rfl rfl rfl rfl ?_ | refine WQ_ret0 rfl ?_ | refine WQ_end0 rfl ?_
      exact .mk ⟨by rw [hn], Stp.refl _ _⟩
  obtain ⟨h1, h2, h3, h4⟩ := h0
  repeat' (first | refine W1 ?_ | (exfalso; omega) | refine WL_split rfl rfl (fun hg => ?_) (fun hg => ?_) | refine WL_splitB rfl rfl (fun hg => ?_) (fun hg => ?_) | refine WC_cond rfl (fun hc => ?_) (fun hc => ?_) | refine WC_condB rfl (fun hc => ?_) (fun hc => ?_))
  refine WL_indexT (i := 0) rfl rfl rfl (by omega) rfl ?_
  repeat' (first | refine W1 ?_ | (exfalso; omega) | refine WL_split rfl rfl (fun hg => ?_) (fun hg => ?_) | refine WL_splitB rfl rfl (fun hg => ?_) (fun hg => ?_) | refine WC_cond rfl (fun hc => ?_) (fun hc => ?_) | refine WC_condB rfl (fun hc => ?_) (fun hc => ?_))
  refine WL_indexT (i := 0) rfl rfl rfl (by omega) rfl ?_
  repeat' (first | refine W1 ?_ | (exfalso; omega) | refine WL_split rfl rfl (fun hg => ?_) (fun hg => ?_) | refine WL_splitB rfl rfl (fun hg => ?_) (fun hg => ?_) | refine WC_cond rfl (fun hc => ?_) (fun hc => ?_) | refine WC_condB rfl (fun hc => ?_) (fun hc => ?_))
  refine WC_loop (σ := Nat) (fun i => [(0, str s), (3, .int .i64 (i : Int))]) (fun i w' => i ≤ s.length ∧ w' = w ∧ ∀ j, j < i → lett (byte s j)) (fun i => s.length - i) 0 ⟨rfl, rfl, trivial⟩ ⟨Nat.zero_le _, rfl, fun j hj => absurd hj (Nat.not_lt_zero _)⟩ ?_
  rintro i w2 ⟨hi, rfl, hall⟩
  try dsimp only at hi hall ⊢
  by_cases hlt : ¬ s.length ≤ i
  · by_cases hle : (97 ≤ byte s i ∧ byte s i ≤ 122) ∨ (48 ≤ byte s i ∧ byte s i ≤ 57)
    · have hall' : ∀ j, j < i + 1 → lett (byte s j) := fun j hj => by
        by_cases e : j = i
        · subst e; exact hle
        · exact hall j (by omega)
      repeat' (first | refine W1 ?_ | (exfalso; omega) | refine WL_split rfl rfl (fun hg => ?_) (fun hg => ?_) | refine WL_splitB rfl rfl (fun hg => ?_) (fun hg => ?_) | refine WC_cond rfl (fun hc => ?_) (fun hc => ?_) | refine WC_condB rfl (fun hc => ?_) (fun hc => ?_))
      all_goals exact WQ_loop (i + 1) ⟨rfl, rfl, trivial⟩ ⟨by omega, rfl, hall'⟩ (by omega)
    · have hn : namedT s = false := by
        unfold namedT nameOk
        rw [decide_eq_false (fun h => hle (h.2.2.2.2 i (by omega)))]
        rfl
      repeat' (first | refine W1 ?_ | (exfalso; omega) | refine WL_split rfl rfl (fun hg => ?_) (fun hg => ?_) | refine WL_splitB rfl rfl (fun hg => ?_) (fun hg => ?_) | refine WC_cond rfl (fun hc => ?_) (fun hc => ?_) | refine WC_condB rfl (fun hc => ?_) (fun hc => ?_))
      all_goals
        first | refine WQ_ret1 rfl rfl ?_ | refine WQ_ret2 rfl rfl rfl ?_ | refine WQ_ret3 rfl rfl rfl rfl ?_ | refine WQ_ret0 rfl ?_ | refine WQ_end0 rfl ?_
        exact .mk ⟨by rw [hn], Stp.refl _ _⟩
  obtain rfl : i = s.length := by omega
  have hok : nameOk s = true := decide_eq_true ⟨by omega, h2, h3, h4, hall⟩
  repeat' (first | refine W1 ?_ | (exfalso; omega) | refine WL_split rfl rfl (fun hg => ?_) (fun hg => ?_) | refine WL_splitB rfl rfl (fun hg => ?_) (fun hg => ?_) | refine WC_cond rfl (fun hc => ?_) (fun hc => ?_) | refine WC_condB rfl (fun hc => ?_) (fun hc => ?_))
  refine WL_eff (OE_call rfl evs0 (Reserved_any [] _ (by simp))) rfl ?_
  rintro rv w3 ⟨hr, hS⟩
  refine W ?_
  refine WL_eff (OE_call rfl (evs2 rfl rfl) (place14_any [] rv _ s _ hr.slv0)) rfl ?_
  rintro _ w4 ⟨rfl, hS4⟩
  refine W ?_
  first | refine WQ_ret1 rfl rfl ?_ | refine WQ_ret2 rfl rfl rfl ?_ | refine WQ_ret3 rfl rfl rfl rfl ?_ | refine WQ_ret0 rfl ?_ | refine WQ_end0 rfl ?_
  refine .mk ⟨?_, hS.trans hS4⟩
  unfold namedT
  rw [hok, Bool.true_and]
  congr 1
  refine decide_eq_decide.2 ?_
  rw [← Int.not_le, idx_memS, List.mem_append, not_or]
/-- the error of an expression that must have a type -/
def mustF (x : Nd) (want : Int) : Int := if nestN x ≤ 12 then (if typeT x = 0 then 21 else if typeT x = want then 0 else 21) else 2
theorem must_any (v : Value) (x : Nd) (want : Int) (w : World) (hx : NdV [] w v x) (hF : SlV [] w flds fieldNames) : Calls Tryd.prog 80 #[v, .int .i64 want] w (Ret fun r w' => r = .int .i64 (mustF x want) ∧ Stp [] w w') := by
  obtain ⟨kv, rfl, hs⟩ := hx
  refine calls_of_WC2 (n := 20) Tryd.func80 rfl rfl rfl ?_
  refine W ?_
  refine WL_eff (OE_box rfl) rfl ?_
  rintro _ w1 ⟨b, rfl, hb, hblk, hS⟩
  replace hblk : Blk w1 b _ (ndC x kv) := hblk
  refine W ?_
  refine WL_eff (OE_call rfl (evs1 rfl) (Of_any [] [] _ x _ ⟨kv, rfl, hs.up hS⟩ (hF.up hS))) rfl ?_
  rintro _ w2 ⟨rfl, hS2⟩
  replace hS := hS.trans hS2
  unfold mustF
  by_cases hn : nestN x ≤ 12
  · rw [if_pos hn, if_pos hn, if_pos hn]
    by_cases ht : typeT x = 0
    · rw [if_pos ht, if_pos ht]
      repeat' (first | refine W1 ?_ | (exfalso; omega) | refine WL_split rfl rfl (fun hg => ?_) (fun hg => ?_) | refine WL_splitB rfl rfl (fun hg => ?_) (fun hg => ?_) | refine WC_cond rfl (fun hc => ?_) (fun hc => ?_) | refine WC_condB rfl (fun hc => ?_) (fun hc => ?_))
      first | refine WQ_ret1 rfl rfl ?_ | refine WQ_ret2 rfl rfl rfl ?_ | refine WQ_ret3 rfl rfl rfl rfl ?_ | refine WQ_ret0 rfl ?_ | refine WQ_end0 rfl ?_
      exact .mk ⟨rfl, hS⟩
    · rw [if_neg ht, if_neg ht]
      by_cases hw : typeT x = want
      · rw [if_pos hw]
        repeat' (first | refine W1 ?_ | (exfalso; omega) | refine WL_split rfl rfl (fun hg => ?_) (fun hg => ?_) | refine WL_splitB rfl rfl (fun hg => ?_) (fun hg => ?_) | refine WC_cond rfl (fun hc => ?_) (fun hc => ?_) | refine WC_condB rfl (fun hc => ?_) (fun hc => ?_))
        first | refine WQ_ret1 rfl rfl ?_ | refine WQ_ret2 rfl rfl rfl ?_ | refine WQ_ret3 rfl rfl rfl rfl ?_ | refine WQ_ret0 rfl ?_ | refine WQ_end0 rfl ?_
        exact .mk ⟨rfl, hS⟩
      · rw [if_neg hw]
        repeat' (first | refine W1 ?_ | (exfalso; omega) | refine WL_split rfl rfl (fun hg => ?_) (fun hg => ?_) | refine WL_splitB rfl rfl (fun hg => ?_) (fun hg => ?_) | refine WC_cond rfl (fun hc => ?_) (fun hc => ?_) | refine WC_condB rfl (fun hc => ?_) (fun hc => ?_))
        first | refine WQ_ret1 rfl rfl ?_ | refine WQ_ret2 rfl rfl rfl ?_ | refine WQ_ret3 rfl rfl rfl rfl ?_ | refine WQ_ret0 rfl ?_ | refine WQ_end0 rfl ?_
        exact .mk ⟨rfl, hS⟩
  · rw [if_neg hn, if_neg hn, if_neg hn]
    repeat' (first | refine W1 ?_ | (exfalso; omega) | refine WL_split rfl rfl (fun hg => ?_) (fun hg => ?_) | refine WL_splitB rfl rfl (fun hg => ?_) (fun hg => ?_) | refine WC_cond rfl (fun hc => ?_) (fun hc => ?_) | refine WC_condB rfl (fun hc => ?_) (fun hc => ?_))
    first | refine WQ_ret1 rfl rfl ?_ | refine WQ_ret2 rfl rfl rfl ?_ | refine WQ_ret3 rfl rfl rfl rfl ?_ | refine WQ_ret0 rfl ?_ | refine WQ_end0 rfl ?_
    exact .mk ⟨rfl, hS⟩
end Go.Proofs.YtgpibcgebpgmiaaDoor


namespace Go.Proofs.YtgpibcgebpgmiaaDoor
open Go Go.Eng Go.RowKit
set_option linter.unusedVariables false

/-! ### rules -/
structure Rul where
  name : Str
  frm : Int
  on : Str
  cnd : Nd
  due : Nd
  unl : Str
  els : Str
abbrev rlC (r : Rul) (ki kd : Value) : List Value := [str r.name, .int .i64 r.frm, str r.on, .int .i64 r.cnd.kind, .int .i64 r.cnd.num, str r.cnd.word, ki, .int .i64 r.due.kind, .int .i64 r.due.num, str r.due.word, kd, str r.unl, str r.els]
/-- the value of a rule -/
def RulV (X : List Nat) (w : World) (v : Value) (r : Rul) : Prop := ∃ ki kd, v = .agg (rlC r ki kd).toArray ∧ SlV X w ki r.cnd.kids ∧ SlV X w kd r.due.kids
theorem RulV.up {X : List Nat} {w w' : World} {v : Value} {r : Rul} (h : RulV X w v r) (hS : Stp [] w w') : RulV X w' v r := by
  obtain ⟨ki, kd, rfl, h1, h2⟩ := h
  exact ⟨ki, kd, rfl, h1.up hS, h2.up hS⟩
/-- the names are good -/
def namesT (r : Rul) : Bool := namedT r.name && namedT r.on && (decide (r.unl = []) || namedT r.unl) && (decide (r.els = []) || namedT r.els)
/-- the error of a rule -/
def checkT (r : Rul) : Int := if namesT r = false then 7 else if r.frm < 0 ∨ r.frm > 3652058 then 5 else if mustF r.cnd 2 ≠ 0 then mustF r.cnd 2 else mustF r.due 3
theorem Check14_any (v : Value) (r : Rul) (m : Int) (w : World) (hv : RulV [] w v r) (hF : SlV [] w flds fieldNames) (hm : w.cell? ⟨1, 0, none⟩ = some (.int .i64 m)) :
    Calls Tryd.prog 41 #[v] w (Ret fun r' w' => r' = .int .i64 (checkT r) ∧ Stp [] w w') := by
  obtain ⟨ki, kd, rfl, hi, hd⟩ := hv
  refine calls_of_WC1 (n := 55) Tryd.func41 rfl rfl rfl ?_
  refine W ?_
  refine WL_eff (OE_box rfl) rfl ?_
  rintro _ w1 ⟨b, rfl, hb, hblk, hS⟩
  replace hblk : Blk w1 b _ (rlC r ki kd) := hblk
  refine W ?_
  refine WL_eff (OE_call rfl (evs1 rfl) (named_any r.name m _ (hF.up hS) (hS.cell (by simp) hm))) rfl ?_
  rintro _ w2 ⟨rfl, hT⟩
  replace hblk := hblk.up hT
  replace hS := hS.trans hT
  clear hT
  refine WL_cutQ (σ := Bool) (fun q => [(1, .pointer (some ⟨b, 0, none⟩)), (2, .int .i64 0), (4, .bool q)]) (fun q w' => Blk w' b 51 (rlC r ki kd) ∧ Stp [] w w' ∧ q = !namesT r) ?_ ?_
  · cases hA : namedT r.name with
    | false =>
      refine W ?_
      exact WQ_cut true ⟨rfl, rfl, rfl, trivial⟩ ⟨hblk, hS, by simp [namesT, *]⟩
    | true =>
      refine W ?_
      refine WL_eff (OE_call rfl (evs1 rfl) (named_any r.on m _ (hF.up hS) (hS.cell (by simp) hm))) rfl ?_
      rintro _ w2 ⟨rfl, hT⟩
      replace hblk := hblk.up hT
      replace hS := hS.trans hT
      clear hT
      cases hB : namedT r.on with
      | false =>
        refine W ?_
        exact WQ_cut true ⟨rfl, rfl, rfl, trivial⟩ ⟨hblk, hS, by simp [namesT, *]⟩
      | true =>
        repeat' (first | refine W1 ?_ | (exfalso; omega) | refine WL_split rfl rfl (fun hg => ?_) (fun hg => ?_) | refine WL_splitB rfl rfl (fun hg => ?_) (fun hg => ?_) | refine WC_cond rfl (fun hc => ?_) (fun hc => ?_) | refine WC_condB rfl (fun hc => ?_) (fun hc => ?_))
        · refine WL_eff (OE_call rfl (evs1 rfl) (named_any r.unl m _ (hF.up hS) (hS.cell (by simp) hm))) rfl ?_
          rintro _ w2 ⟨rfl, hT⟩
          replace hblk := hblk.up hT
          replace hS := hS.trans hT
          clear hT
          cases hC : namedT r.unl with
          | false =>
            refine W ?_
            exact WQ_cut true ⟨rfl, rfl, rfl, trivial⟩ ⟨hblk, hS, by simp [namesT, *]⟩
          | true =>
            repeat' (first | refine W1 ?_ | (exfalso; omega) | refine WL_split rfl rfl (fun hg => ?_) (fun hg => ?_) | refine WL_splitB rfl rfl (fun hg => ?_) (fun hg => ?_) | refine WC_cond rfl (fun hc => ?_) (fun hc => ?_) | refine WC_condB rfl (fun hc => ?_) (fun hc => ?_))
            · refine WL_eff (OE_call rfl (evs1 rfl) (named_any r.els m _ (hF.up hS) (hS.cell (by simp) hm))) rfl ?_
              rintro _ w2 ⟨rfl, hT⟩
              replace hblk := hblk.up hT
              replace hS := hS.trans hT
              clear hT
              cases hD : namedT r.els with
              | false =>
                refine W ?_
                exact WQ_cut true ⟨rfl, rfl, rfl, trivial⟩ ⟨hblk, hS, by simp [namesT, *]⟩
              | true =>
                refine W ?_
                exact WQ_cut false ⟨rfl, rfl, rfl, trivial⟩ ⟨hblk, hS, by simp [namesT, *]⟩
            · exact WQ_cut false ⟨rfl, rfl, rfl, trivial⟩ ⟨hblk, hS, by simp [namesT, *]⟩
        · refine WL_eff (OE_call rfl (evs1 rfl) (named_any r.els m _ (hF.up hS) (hS.cell (by simp) hm))) rfl ?_
          rintro _ w2 ⟨rfl, hT⟩
          replace hblk := hblk.up hT
          replace hS := hS.trans hT
          clear hT
          cases hD : namedT r.els with
          | false =>
            refine W ?_
            exact WQ_cut true ⟨rfl, rfl, rfl, trivial⟩ ⟨hblk, hS, by simp [namesT, *]⟩
          | true =>
            refine W ?_
            exact WQ_cut false ⟨rfl, rfl, rfl, trivial⟩ ⟨hblk, hS, by simp [namesT, *]⟩
        · exact WQ_cut false ⟨rfl, rfl, rfl, trivial⟩ ⟨hblk, hS, by simp [namesT, *]⟩
  rintro q w3 ⟨hblk, hS, hq⟩
  try dsimp only at hq ⊢
  unfold checkT
  cases hnm : namesT r with
  | false =>
    rw [hnm] at hq
    subst hq
    refine W ?_
    first | refine WQ_ret1 rfl rfl ?_ | refine WQ_ret2 rfl rfl rfl ?_ | refine WQ_ret3 rfl rfl rfl rfl ?_ | refine WQ_ret0 rfl ?_ | refine WQ_end0 rfl ?_
    exact .mk ⟨rfl, hS⟩
  | true =>
    rw [hnm] at hq
    subst hq
    refine W ?_
    by_cases hr : r.frm < 0 ∨ r.frm > 3652058
    · repeat' (first | refine W1 ?_ | (exfalso; omega) | refine WL_split rfl rfl (fun hg => ?_) (fun hg => ?_) | refine WL_splitB rfl rfl (fun hg => ?_) (fun hg => ?_) | refine WC_cond rfl (fun hc => ?_) (fun hc => ?_) | refine WC_condB rfl (fun hc => ?_) (fun hc => ?_))
      all_goals
        first | refine WQ_ret1 rfl rfl ?_ | refine WQ_ret2 rfl rfl rfl ?_ | refine WQ_ret3 rfl rfl rfl rfl ?_ | refine WQ_ret0 rfl ?_ | refine WQ_end0 rfl ?_
        exact .mk ⟨by rw [if_neg (by decide), if_pos hr], hS⟩
    repeat' (first | refine W1 ?_ | (exfalso; omega) | refine WL_split rfl rfl (fun hg => ?_) (fun hg => ?_) | refine WL_splitB rfl rfl (fun hg => ?_) (fun hg => ?_) | refine WC_cond rfl (fun hc => ?_) (fun hc => ?_) | refine WC_condB rfl (fun hc => ?_) (fun hc => ?_))
    apply WL_pure (PR_loadN_blk (us := ndC r.cnd ki) rfl rfl hblk rfl rfl) rfl
    refine W ?_
    refine WL_eff (OE_call rfl (evs2 rfl rfl) (must_any _ r.cnd 2 _ ⟨ki, rfl, hi.up hS⟩ (hF.up hS))) rfl ?_
    rintro _ w4 ⟨rfl, hT⟩
    replace hblk := hblk.up hT
    replace hS := hS.trans hT
    clear hT
    by_cases h2 : mustF r.cnd 2 = 0
    · repeat' (first | refine W1 ?_ | (exfalso; omega) | refine WL_split rfl rfl (fun hg => ?_) (fun hg => ?_) | refine WL_splitB rfl rfl (fun hg => ?_) (fun hg => ?_) | refine WC_cond rfl (fun hc => ?_) (fun hc => ?_) | refine WC_condB rfl (fun hc => ?_) (fun hc => ?_))
      apply WL_pure (PR_loadN_blk (us := ndC r.due kd) rfl rfl hblk rfl rfl) rfl
      refine W ?_
      refine WL_eff (OE_call rfl (evs2 rfl rfl) (must_any _ r.due 3 _ ⟨kd, rfl, hd.up hS⟩ (hF.up hS))) rfl ?_
      rintro _ w5 ⟨rfl, hT⟩
      refine W ?_
      first | refine WQ_ret1 rfl rfl ?_ | refine WQ_ret2 rfl rfl rfl ?_ | refine WQ_ret3 rfl rfl rfl rfl ?_ | refine WQ_ret0 rfl ?_ | refine WQ_end0 rfl ?_
      exact .mk ⟨by rw [if_neg (by decide), if_neg hr, if_neg (by simpa using h2)], hS.trans hT⟩
    · repeat' (first | refine W1 ?_ | (exfalso; omega) | refine WL_split rfl rfl (fun hg => ?_) (fun hg => ?_) | refine WL_splitB rfl rfl (fun hg => ?_) (fun hg => ?_) | refine WC_cond rfl (fun hc => ?_) (fun hc => ?_) | refine WC_condB rfl (fun hc => ?_) (fun hc => ?_))
      first | refine WQ_ret1 rfl rfl ?_ | refine WQ_ret2 rfl rfl rfl ?_ | refine WQ_ret3 rfl rfl rfl rfl ?_ | refine WQ_ret0 rfl ?_ | refine WQ_end0 rfl ?_
      exact .mk ⟨by rw [if_neg (by decide), if_neg hr, if_pos h2], hS⟩
end Go.Proofs.YtgpibcgebpgmiaaDoor


namespace Go.Proofs.YtgpibcgebpgmiaaDoor
open Go Go.Eng Go.RowKit
set_option linter.unusedVariables false

abbrev nilS : Value := .slice none 0 0
theorem rlC_one (r : Rul) {X Y : List Nat} {w w' : World} {ki kd : Value} (h1 : SlV X w ki r.cnd.kids) (h2 : SlV Y w' kd r.due.kids) : ∀ c ∈ rlC r ki kd, c.oneCell' = true := by
  intro c hc
  have e1 := h1.one
  have e2 := h2.one
  simp only [rlC, List.mem_cons, List.not_mem_nil, or_false] at hc
  rcases hc with rfl | rfl | rfl | rfl | rfl | rfl | rfl | rfl | rfl | rfl | rfl | rfl | rfl <;> first | rfl | exact e1 | exact e2
end Go.Proofs.YtgpibcgebpgmiaaDoor


namespace Go.Proofs.YtgpibcgebpgmiaaDoor
open Go Go.Eng Go.RowKit
set_option linter.unusedVariables false

/-! ### compiled rules -/
structure Cr where
  name : Str
  frm : Int
  on : Str
  cnd : List Ins
  due : List Ins
  unl : Str
  els : Str
abbrev crC (q : Cr) (kc kd : Value) : List Value := [str q.name, .int .i64 q.frm, str q.on, kc, kd, str q.unl, str q.els]
def CrV (X : List Nat) (w : World) (v : Value) (q : Cr) : Prop := ∃ kc kd, v = .agg (crC q kc kd).toArray ∧ SlV X w kc q.cnd ∧ SlV X w kd q.due
theorem CrV.up {X : List Nat} {w w' : World} {v : Value} {q : Cr} (h : CrV X w v q) (hS : Stp [] w w') : CrV X w' v q := by
  obtain ⟨kc, kd, rfl, h1, h2⟩ := h
  exact ⟨kc, kd, rfl, h1.up hS, h2.up hS⟩
theorem crC_one {q : Cr} {X Y : List Nat} {w w' : World} {kc kd : Value} (h1 : SlV X w kc q.cnd) (h2 : SlV Y w' kd q.due) : ∀ c ∈ crC q kc kd, c.oneCell' = true := by
  intro c hc
  have e1 := h1.one
  have e2 := h2.one
  simp only [crC, List.mem_cons, List.not_mem_nil, or_false] at hc
  rcases hc with rfl | rfl | rfl | rfl | rfl | rfl | rfl <;> first | rfl | exact e1 | exact e2
abbrev crZ : Cr := ⟨[], 0, [], [], [], [], []⟩
theorem buildCr0 (w : World) : (Instr.build 42 #[]).run Tryd.prog w = .ok (.agg (crC crZ nilS nilS).toArray) w := by kernel_rfl
theorem buildCr (q : Cr) (p1 p2 : Option Addr) (l1 c1 l2 c2 : Nat) (w : World) : (Instr.build 42 #[(0, str q.name), (1, .int .i64 q.frm), (2, str q.on), (3, .slice p1 l1 c1), (4, .slice p2 l2 c2), (5, str q.unl), (6, str q.els)]).run Tryd.prog w = .ok (.agg (crC q (.slice p1 l1 c1) (.slice p2 l2 c2)).toArray) w := by kernel_rfl
end Go.Proofs.YtgpibcgebpgmiaaDoor


namespace Go.Proofs.YtgpibcgebpgmiaaDoor
open Go Go.Eng Go.RowKit Go.Proofs Go.ChangeShapes Go.WideShapes Go.Deep
set_option linter.unusedVariables false
theorem SameR_any (va vb : Value) (q : Cr) (w : World) (ha : CrV [] w va q) (hb : CrV [] w vb q) :
    Calls Tryd.prog 18 #[va, vb] w (Ret fun r w' => r = .bool true ∧ Stp [] w w') := by
  obtain ⟨ka, da, rfl, ha1, ha2⟩ := ha
  obtain ⟨kb, db, rfl, hb1, hb2⟩ := hb
  refine calls_of_WC2 (n := 52) Tryd.func18 rfl rfl rfl ?_
  refine W ?_
  refine WL_eff (OE_box rfl) rfl ?_
  rintro _ w1 ⟨b1, rfl, hb1', e1, hS⟩
  replace e1 : Blk w1 b1 42 (crC q ka da) := e1
  refine W ?_
  refine WL_eff (OE_box rfl) rfl ?_
  rintro _ w2 ⟨b2, rfl, hb2', e2, hT⟩
  replace e2 : Blk w2 b2 42 (crC q kb db) := e2
  replace e1 := e1.up hT
  replace hS := hS.trans hT
  replace ha1 := ha1.up hS
  replace ha2 := ha2.up hS
  replace hb1 := hb1.up hS
  replace hb2 := hb2.up hS
  clear hT hb1' hb2'
  repeat' (first | refine W1 ?_ | (exfalso; omega) | refine WL_split rfl rfl (fun hg => ?_) (fun hg => ?_) | refine WL_splitB rfl rfl (fun hg => ?_) (fun hg => ?_) | refine WC_cond rfl (fun hc => ?_) (fun hc => ?_) | refine WC_condB rfl (fun hc => ?_) (fun hc => ?_))
  all_goals try (exact absurd rfl (by assumption))
  refine WL_eff (OE_call rfl (evs2 rfl rfl) (SameCode_any _ _ q.cnd q.cnd _ ha1 hb1)) rfl ?_
  rintro _ w3 ⟨rfl, hT⟩
  replace e1 := e1.up hT
  replace e2 := e2.up hT
  replace hS := hS.trans hT
  replace ha2 := ha2.up hT
  replace hb2 := hb2.up hT
  clear hT
  rw [decide_eq_true (rfl : q.cnd = q.cnd)]
  repeat' (first | refine W1 ?_ | (exfalso; omega) | refine WL_split rfl rfl (fun hg => ?_) (fun hg => ?_) | refine WL_splitB rfl rfl (fun hg => ?_) (fun hg => ?_) | refine WC_cond rfl (fun hc => ?_) (fun hc => ?_) | refine WC_condB rfl (fun hc => ?_) (fun hc => ?_))
  all_goals try (exact absurd rfl (by assumption))
  refine WL_eff (OE_call rfl (evs2 rfl rfl) (SameCode_any _ _ q.due q.due _ ha2 hb2)) rfl ?_
  rintro _ w3 ⟨rfl, hT⟩
  replace e1 := e1.up hT
  replace e2 := e2.up hT
  replace hS := hS.trans hT
  clear hT
  rw [decide_eq_true (rfl : q.due = q.due)]
  repeat' (first | refine W1 ?_ | (exfalso; omega) | refine WL_split rfl rfl (fun hg => ?_) (fun hg => ?_) | refine WL_splitB rfl rfl (fun hg => ?_) (fun hg => ?_) | refine WC_cond rfl (fun hc => ?_) (fun hc => ?_) | refine WC_condB rfl (fun hc => ?_) (fun hc => ?_))
  all_goals try (exact absurd rfl (by assumption))
  first | refine WQ_ret1 rfl rfl ?_ | refine WQ_ret2 rfl rfl rfl ?_ | refine WQ_ret3 rfl rfl rfl rfl ?_ | refine WQ_ret0 rfl ?_ | refine WQ_end0 rfl ?_
  exact .mk ⟨by simp, hS⟩
end Go.Proofs.YtgpibcgebpgmiaaDoor

