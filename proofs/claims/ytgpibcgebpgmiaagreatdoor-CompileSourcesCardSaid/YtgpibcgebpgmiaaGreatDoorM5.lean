/-
Merged by program out of own texts: Liv1, Ver1, Ver2, Ver3, Ver4, Ver5, Ver6, Ver7a, Ver7b, Ver7c, Ver8, Ver9, Liv2, Arg15, Arg16, Rul2, Use1, Arg20, Gn1, Eng28, Gq1, Gq2, Gq3, Gq4, Dtr1, Dtr2, Dtr3.
-/
import Derived.Test.YtgpibcgebpgmiaaGreatDoorM4
import Derived.Test.YtgpibcgebpgmiaaGreatDoorRows
import Derived.Test.YtgpibcgebpgmiaaGreatDoorTie
import Derived.Test.YtgpibcgebpgmiaaGreatDoorCards
set_option linter.unusedVariables false
set_option linter.unusedSimpArgs false
namespace Go.Proofs.YtgpibcgebpgmiaaGreatDoor
open Go Go.Eng Go.RowKit
theorem field15_any (s : Str) (w : World) : Calls Tryz.prog 45 #[str s] w (Ret fun r w' => (∀ X, NdV X w' r (.mk 4 0 s [])) ∧ Stp [] w w') := by
 refine calls_of_WC1 (n := 5) Tryz.func45 rfl rfl rfl ?_
 refine W ?_
 refine WL_eff OE_alloc rfl ?_
 rintro _ w1 ⟨b, rfl, hb, hblk, hS⟩
 refine W ?_
 apply WL_build (vs := [(0, .int .i64 4), (2, str s)]) rfl (buildN02 _ _) rfl
 refine WL_eff0 (OE_storeA (us := ndC (.mk 4 0 s []) (.slice none 0 0)) rfl rfl rfl rfl (ndC_one (x := .mk 4 0 s []) (nilSlv (α := Nd) [] w)) hblk rfl) ?_
 rintro _ w2 ⟨hS2, hblk2⟩
 refine W ?_
 refine WQ_retc rfl rfl rfl hblk2 rfl ?_
 exact .mk ⟨fun X => ⟨_, rfl, nilSlv _ _⟩, hS.own hS2 (fun c hc => .inr (by simp at hc; omega))⟩
theorem number15_any (n : Int) (w : World) : Calls Tryz.prog 46 #[.int .i64 n] w (Ret fun r w' => (∀ X, NdV X w' r (.mk 1 n [] [])) ∧ Stp [] w w') := by
 refine calls_of_WC1 (n := 5) Tryz.func46 rfl rfl rfl ?_
 refine W ?_
 refine WL_eff OE_alloc rfl ?_
 rintro _ w1 ⟨b, rfl, hb, hblk, hS⟩
 refine W ?_
 apply WL_build (vs := [(0, .int .i64 1), (1, .int .i64 n)]) rfl (buildN01 _ _) rfl
 refine WL_eff0 (OE_storeA (us := ndC (.mk 1 n [] []) (.slice none 0 0)) rfl rfl rfl rfl (ndC_one (x := .mk 1 n [] []) (nilSlv (α := Nd) [] w)) hblk rfl) ?_
 rintro _ w2 ⟨hS2, hblk2⟩
 refine W ?_
 refine WQ_retc rfl rfl rfl hblk2 rfl ?_
 exact .mk ⟨fun X => ⟨_, rfl, nilSlv _ _⟩, hS.own hS2 (fun c hc => .inr (by simp at hc; omega))⟩
theorem binary15_any (X : List Nat) (s : Str) (u0 u1 : Value) (y0 y1 : Nd) (w : World) (hX0 : ∀ b ∈ X, b < w.heap.size) (h0 : NdV X w u0 y0) (h1 : NdV X w u1 y1) :
 Calls Tryz.prog 47 #[str s, u0, u1] w (Ret fun r w' => NdV X w' r (.mk 6 0 s [y0, y1]) ∧ Stp [] w w') := by
 obtain ⟨k0, rfl, s0⟩ := h0
 obtain ⟨k1, rfl, s1⟩ := h1
 obtain ⟨p0, c0, rfl, -⟩ := id s0
 obtain ⟨p1, c1, rfl, -⟩ := id s1
 refine calls_of_WC3 (n := 12) Tryz.func47 rfl rfl rfl ?_
 refine W ?_
 refine WL_eff (OE_box rfl) rfl ?_
 rintro _ w1 ⟨b1, rfl, hb1, e1, hS1⟩
 replace e1 : Blk w1 b1 _ (ndC y0 (.slice p0 y0.kids.length c0)) := e1
 refine WL_eff (OE_box rfl) rfl ?_
 rintro _ w2 ⟨b2, rfl, hb2, e2, hS2⟩
 replace e2 : Blk w2 b2 _ (ndC y1 (.slice p1 y1.kids.length c1)) := e2
 replace e1 := e1.up hS2
 have hS := hS1.trans hS2
 clear hS1 hS2
 refine WL_eff OE_alloc rfl ?_
 rintro _ w3 ⟨b, rfl, hb, hblk, hS3⟩
 replace e1 := e1.up hS3
 replace e2 := e2.up hS3
 have hz := hS.size
 replace hS := hS.trans hS3
 have hw : ∀ c ∈ b :: X, c ∈ X ∨ w.heap.size ≤ c := fun c hc => by
  rcases List.mem_cons.1 hc with rfl | h
  · right; omega
  · exact .inl h
 replace s0 := s0.ext hS (by simp) hw
 replace s1 := s1.ext hS (by simp) hw
 have hX : ∀ c ∈ b :: X, c < w3.heap.size := fun c hc => by
  rcases List.mem_cons.1 hc with rfl | h
  · exact hblk.lt
  · exact Nat.lt_of_lt_of_le (hX0 c h) hS.size
 refine W ?_
 refine WL_eff (OE_buildSlice (vs := [(0, .agg #[.int .i64 y0.kind, .int .i64 y0.num, str y0.word, .slice p0 y0.kids.length c0]), (1, .agg #[.int .i64 y1.kind, .int .i64 y1.num, str y1.word, .slice p1 y1.kids.length c1])]) rfl (buildSN2 _ _ _ _ _ _ _ _ _ _ _ _)) rfl ?_
 rintro bv w4 hN
 have hbv : SlV (b :: X) w4 bv [y0, y1] := hN.slvG (css := [ndC y0 _, ndC y1 _]) hX rfl rfl rfl (reps2 s0 s1) (by simp [maxLen])
 have hT := NewSl.stp hN
 clear hN
 replace hblk := hblk.up hT
 replace hS := hS.trans hT
 obtain ⟨p, c, rfl, -⟩ := id hbv
 apply WL_build (vs := [(0, .int .i64 6), (2, str s), (3, .slice p 2 c)]) rfl (buildN023 _ _ _ _ _) rfl
 have hlt := hblk.lt
 refine WL_eff0 (OE_storeA (us := ndC (.mk 6 0 s [y0, y1]) (.slice p 2 c)) rfl rfl rfl rfl (ndC_one (x := .mk 6 0 s [y0, y1]) hbv) hblk rfl) ?_
 rintro _ w5 ⟨hS5, hblk5⟩
 refine W ?_
 refine WQ_retc rfl rfl rfl hblk5 rfl ?_
 refine .mk ⟨⟨_, rfl, ?_⟩, hS.own hS5 (fun c hc => .inr (by simp at hc; omega))⟩
 exact (hbv.ext (X' := b :: X) hS5 (by simp) (fun _ h => .inl h)).wk (fun c hc => List.mem_cons_of_mem _ hc)
theorem EqualI_any (va vb : Value) (xs ys : List Int) (w : World) (ha : SlV [] w va xs) (hb : SlV [] w vb ys) :
 Calls Tryz.prog 141 #[va, vb] w (Ret fun r w' => r = .bool (decide (xs = ys)) ∧ Stp [] w w') := by
 have hma := ha.max
 have hmb := hb.max
 refine calls_of_WC2 (n := 26) Tryz.func141 rfl rfl rfl ?_
 refine W ?_
 by_cases hl : xs.length = ys.length
 case neg =>
  repeat' (first | refine W1 ?_ | (exfalso; omega) | (refine VG ?_ ?_ <;> intro hg) | (refine VC ?_ ?_ <;> intro hc))
  refine WR ?_
  exact .mk ⟨by congr 1; rw [eq_comm, decide_eq_false_iff_not]; exact fun h => hl (by rw [h]), Stp.refl _ _⟩
 repeat' (first | refine W1 ?_ | (exfalso; omega) | (refine VG ?_ ?_ <;> intro hg) | (refine VC ?_ ?_ <;> intro hc))
 refine WC_loop (σ := Nat) (fun j => [(0, va), (1, vb), (4, .bool false), (12, .int .i64 (xs.length : Int)), (13, .int .i64 (j : Int))]) (fun j w' => j ≤ xs.length ∧ Stp [] w w' ∧ ∀ i (h : i < xs.length), i < j → xs[i] = ys[i]'(by omega)) (fun j => xs.length - j) 0 ⟨rfl, rfl, rfl, rfl, rfl, trivial⟩ ⟨Nat.zero_le _, Stp.refl _ _, fun i _ h => absurd h (Nat.not_lt_zero _)⟩ ?_
 rintro j w2 ⟨hj, hS, heq⟩
 try dsimp only at hj heq ⊢
 replace ha := ha.up hS
 replace hb := hb.up hS
 by_cases hlt : j < xs.length
 · have hlt' : j < ys.length := by omega
   repeat' (first | refine W1 ?_ | (exfalso; omega) | (refine VG ?_ ?_ <;> intro hg) | (refine VC ?_ ?_ <;> intro hc))
   refine WC_drawn 9 [] [] [(0, 0), (1, 0), (2, 0), (3, 1), (4, 0), (5, 0), (6, 0), (7, 1), (8, 0)] rfl mixed (by kernel_rfl) (by kernel_rfl) (by kernel_rfl) (fun w1 hS1 => ?_)
   replace ha := ha.up hS1
   replace hb := hb.up hS1
   replace hS := hS.trans hS1
   refine D ?_
   repeat' (first | refine W1 ?_ | (exfalso; omega) | (refine VG ?_ ?_ <;> intro hg) | (refine VC ?_ ?_ <;> intro hc))
   · refine WR ?_
     exact .mk ⟨by congr 1; rw [eq_comm, decide_eq_false_iff_not]; exact fun h => hc (by simp [h]), hS⟩
   · have he : xs[j] = ys[j] := Decidable.byContradiction hc
     have hk : ∀ i (h : i < xs.length), i < j + 1 → xs[i] = ys[i]'(by omega) := fun i h hi => by
      by_cases hij : i = j
      · subst hij; exact he
      · exact heq i h (by omega)
     exact WQ_loop (j + 1) ⟨rfl, rfl, rfl, rfl, rfl, trivial⟩ ⟨hlt, hS, hk⟩ (Nat.sub_lt_sub_left hlt (Nat.lt_succ_self j))
 · have hje : j = xs.length := by omega
   subst hje
   repeat' (first | refine W1 ?_ | (exfalso; omega) | (refine VG ?_ ?_ <;> intro hg) | (refine VC ?_ ?_ <;> intro hc))
   refine WR ?_
   exact .mk ⟨by congr 1; rw [eq_comm, decide_eq_true_eq]; exact List.ext_getElem hl (fun i h h' => heq i h h), hS⟩
abbrev RwZ (w w' : World) (v : Value) (xs : List Int) : Prop := RowF 3 w w' v xs
theorem GrowI_any (k : Nat) (w : World) (hk : k ≤ 1000000) : Calls Tryz.prog 181 #[.slice none 0 0, .int .i64 (k : Int)] w (Ret fun r w' => RwZ w w' r []) := by
 refine calls_of_WC2 (n := 27) Tryz.func181 rfl rfl rfl ?_
 refine W ?_
 have h0 : SlV (α := Int) [] w (.slice none 0 0) [] := nilSlv _ _
 have hl0 : ([] : List Int).length = 0 := rfl
 repeat' (first | refine W1 ?_ | (exfalso; omega) | (refine VG ?_ ?_ <;> intro hg) | (refine VC ?_ ?_ <;> intro hc))
 apply WL_pure (PR_cap rfl) rfl
 by_cases hk0 : k = 0
 · subst hk0
   repeat' (first | refine W1 ?_ | (exfalso; omega) | (refine VG ?_ ?_ <;> intro hg) | (refine VC ?_ ?_ <;> intro hc))
   refine WR ?_
   exact .mk RowF.nil
 repeat' (first | refine W1 ?_ | (exfalso; omega) | (refine VG ?_ ?_ <;> intro hg) | (refine VC ?_ ?_ <;> intro hc))
 apply WL_pure (PR_cap rfl) rfl
 apply WL_pure (PR_slice0n rfl rfl) rfl
 refine W ?_
 refine WL_eff (OE_appZ (k := k) rfl rfl rfl (by omega) (by simp [maxLen]; omega) (by omega)) rfl ?_
 rintro _ w1 ⟨c, rfl, hown, hS⟩
 replace h0 := h0.up hS
 have hr : RwZ w w1 (.slice (some ⟨w.heap.size, 0, none⟩) 0 c) [] := ⟨⟨[], rfl, fun i h => absurd h (Nat.not_lt_zero _), hown⟩, hS⟩
 refine W ?_
 apply WL_pure (PR_slice0 rfl rfl) rfl
 refine W ?_
 refine WR ?_
 exact .mk hr
theorem ConcatI_any (v : Value) (xss : List (Sl Int)) (w : World) (hs : SlV [] w v xss) (hl : xss.length ≤ 1000) (hlen : (xss.flatMap Sl.l).length ≤ 100000) : Calls Tryz.prog 142 #[v] w (Ret fun r w' => RwZ w w' r (xss.flatMap Sl.l)) := by
 have hpre : ∀ j, ((xss.take j).flatMap Sl.l).length ≤ (xss.flatMap Sl.l).length := fun j => by
  rw [← List.take_append_drop j xss, List.flatMap_append, List.length_append]
  simp only [List.take_append_drop]
  have : (xss.take j).flatMap Sl.l = ((xss.take j ++ xss.drop j).take j).flatMap Sl.l := by rw [List.take_append_drop]
  omega
 have hstep : ∀ j (h : j < xss.length), (xss.take (j + 1)).flatMap Sl.l = (xss.take j).flatMap Sl.l ++ xss[j].l := fun j h => by
  rw [List.take_succ_eq_append_getElem h, List.flatMap_append]
  simp
 refine calls_of_WC1 (n := 36) Tryz.func142 rfl rfl rfl ?_
 refine W ?_
 refine WC_cutB (σ := Unit) (fun _ => [(0, v), (3, .int .i64 ((xss.flatMap Sl.l).length : Int))]) (fun _ w' => w' = w) ?_ ?_
 · refine WC_loop (σ := Nat) (fun j => [(0, v), (9, v), (10, .int .i64 (xss.length : Int)), (3, .int .i64 (((xss.take j).flatMap Sl.l).length : Int)), (11, .int .i64 (j : Int))]) (fun j w' => j ≤ xss.length ∧ w' = w) (fun j => xss.length - j) 0 ⟨rfl, rfl, rfl, rfl, rfl, trivial⟩ ⟨Nat.zero_le _, rfl⟩ ?_
   rintro j w2 ⟨hj, rfl⟩
   by_cases hlt : j < xss.length
   · obtain ⟨u, hcell, hsu⟩ := hs.sub hlt
     have hum := hsu.max
     have h1 := hpre j
     have h2 := hpre (j + 1)
     have h3 := hstep j hlt
     have h4 : ((xss.take (j + 1)).flatMap Sl.l).length = ((xss.take j).flatMap Sl.l).length + xss[j].l.length := by rw [h3, List.length_append]
     repeat' (first | refine W1 ?_ | (exfalso; omega) | (refine VG ?_ ?_ <;> intro hg) | (refine VC ?_ ?_ <;> intro hc))
     apply WL_pure (PR_load1 rfl rfl hcell) rfl
     repeat' (first | refine W1 ?_ | (exfalso; omega) | (refine VG ?_ ?_ <;> intro hg) | (refine VC ?_ ?_ <;> intro hc))
     refine WQ_loop (j + 1) ⟨rfl, rfl, rfl, by rw [h4, Int.natCast_add]; rfl, rfl, trivial⟩ ⟨hlt, rfl⟩ (by omega)
   · have hje : j = xss.length := by omega
     subst hje
     rw [List.take_length]
     repeat' (first | refine W1 ?_ | (exfalso; omega) | (refine VG ?_ ?_ <;> intro hg) | (refine VC ?_ ?_ <;> intro hc))
     exact WQ_cut () ⟨rfl, rfl, trivial⟩ rfl
 rintro _ w2 rfl
 refine W ?_
 refine CL rfl (evs2 rfl rfl) rfl (GrowI_any _ _ (by omega)) ?_
 rintro g w3 hr
 refine W ?_
 have hs3 := hs.up hr.2
 refine W ?_
 refine WC_loop (σ := Nat × Value) (fun q => [(6, q.2), (25, v), (26, .int .i64 (xss.length : Int)), (27, .int .i64 (q.1 : Int))]) (fun q w' => q.1 ≤ xss.length ∧ RwZ w2 w' q.2 ((xss.take q.1).flatMap Sl.l)) (fun q => xss.length - q.1) (0, g) ⟨rfl, rfl, rfl, rfl, trivial⟩ ⟨Nat.zero_le _, by simpa using hr⟩ ?_
 clear hr hs3
 rintro ⟨j, g⟩ w4 ⟨hj, hr⟩
 dsimp only at hj hr ⊢
 by_cases hlt : j < xss.length
 · have hs4 : SlV (ob g) w4 v xss := hs.ext hr.2 (by simp) (fun b hb => .inr (hr.ob_le b hb).1)
   obtain ⟨u, hcell, hsu⟩ := hs4.sub hlt
   have h1 := hpre j
   have h2 := hpre (j + 1)
   have h3 := hstep j hlt
   have h4 : ((xss.take (j + 1)).flatMap Sl.l).length = ((xss.take j).flatMap Sl.l).length + xss[j].l.length := by rw [h3, List.length_append]
   repeat' (first | refine W1 ?_ | (exfalso; omega) | (refine VG ?_ ?_ <;> intro hg) | (refine VC ?_ ?_ <;> intro hc))
   apply WL_pure (PR_load1 rfl rfl hcell) rfl
   repeat' (first | refine W1 ?_ | (exfalso; omega) | (refine VG ?_ ?_ <;> intro hg) | (refine VC ?_ ?_ <;> intro hc))
   refine WL_eff (OE_appF rfl (by decide) rfl rfl hr hsu (by omega) (by simp only [maxLen]; omega)) rfl ?_
   rintro g' w5 ⟨hr', -, -⟩
   refine W ?_
   exact WQ_loop (j + 1, g') ⟨rfl, rfl, rfl, rfl, trivial⟩ ⟨hlt, by dsimp only; rw [h3]; exact hr'⟩ (by dsimp only; omega)
 · have hje : j = xss.length := by omega
   subst hje
   rw [List.take_length] at hr
   repeat' (first | refine W1 ?_ | (exfalso; omega) | (refine VG ?_ ?_ <;> intro hg) | (refine VC ?_ ?_ <;> intro hc))
   refine WR ?_
   exact .mk hr
end Go.Proofs.YtgpibcgebpgmiaaGreatDoor
namespace Go.Eng
open Go
theorem WQ_ret4 {P : Program} {n : Nat} {fn : Func} {R : Ending → World → Prop} {e : Env} {w : World} {t u s q : Nat} {v x y z : Value} (hr : fn.results = #[.tmp t, .tmp u, .tmp s, .tmp q]) (ht : look e t = some v) (hu : look e u = some x) (hs : look e s = some y) (hq : look e q = some z) (h : R (.returned (.tuple #[v, x, y, z])) w) : WQ n (bodyPost P fn R) .ret e w :=
 ⟨fun a ha => ⟨ha.defers, .tuple #[v, x, y, z], by simp [results, hr]; simpa [Array.getD_eq_getD_getElem?] using And.intro (ha.vals t v ht) (And.intro (ha.vals u x hu) (And.intro (ha.vals s y hs) (ha.vals q z hq))), h⟩⟩
end Go.Eng
namespace Go.Proofs.YtgpibcgebpgmiaaGreatDoor
open Go Go.Eng Go.RowKit
def effF (x : Ins) : List Int × List Int × List Int × Bool :=
 if x.op = 1 then ([], [], [1], decide (-2147483647 ≤ x.n ∧ x.n ≤ 2147483647))
 else if x.op = 2 then ([], [], [2], decide (x.n = 0 ∨ x.n = 1))
 else if x.op = 3 then ([], [], [3], decide (0 ≤ x.n ∧ x.n ≤ 3652058))
 else if x.op = 4 then ([], [], [if x.n = 0 ∨ x.n = 1 then 3 else 1], decide (0 ≤ x.n ∧ x.n < 7))
 else if x.op = 13 then ([], [], [], true)
 else if x.op = 14 then ([2], [], [], true)
 else if x.op = 5 ∨ x.op = 6 ∨ x.op = 7 then ([1, 1], [], [1], decide (x.n = 0))
 else if x.op = 8 then ([1], [], [1], decide (x.n = 0))
 else if x.op = 9 ∨ x.op = 10 ∨ x.op = 11 then ([1, 1], [3, 3], [2], decide (x.n = 0))
 else if x.op = 12 then ([2], [], [2], decide (x.n = 0))
 else if x.op = 15 ∨ x.op = 16 ∨ x.op = 17 ∨ x.op = 18 then ([3, 1], [], [3], decide (x.n = 0))
 else if x.op = 19 ∨ x.op = 20 then ([3], [], [3], decide (x.n = 0))
 else if x.op = 21 ∨ x.op = 22 then ([3, 3], [], [3], decide (x.n = 0))
 else if x.op = 23 then ([3, 3], [], [1], decide (x.n = 0))
 else if x.op = 24 then ([], [], [], decide (x.n = 0))
 else ([], [], [], false)
def EffR (X : List Nat) (w : World) (x : Ins) (r : Value) (w' : World) : Prop := ∃ a b c, r = .tuple #[a, b, c, .bool (effF x).2.2.2] ∧ SlV X w' a (effF x).1 ∧ SlV X w' b (effF x).2.1 ∧ SlV X w' c (effF x).2.2.1 ∧ Stp [] w w'
theorem effPost {X : List Nat} {w w' : World} {x : Ins} {a b c : Value} {p ok : Bool} {ta al gi : List Int} (heq : effF x = (ta, al, gi, ok)) (hp : p = ok) (ha : SlV X w' a ta) (hb : SlV X w' b al) (hc : SlV X w' c gi) (hS : Stp [] w w') : Ret (EffR X w x) (.returned (.tuple #[a, b, c, .bool p])) w' := by
 refine .mk ⟨a, b, c, ?_, ?_, ?_, ?_, hS⟩ <;> rw [heq]
 · rw [hp]
 · exact ha
 · exact hb
 · exact hc
set_option maxHeartbeats 2000000 in
theorem effect_any (X : List Nat) (x : Ins) (w : World) (hX0 : ∀ b ∈ X, b < w.heap.size) :
 Calls Tryz.prog 140 #[agg x] w (Ret (EffR X w x)) := by
 refine calls_of_WC1 (n := 117) Tryz.func140 rfl rfl rfl ?_
 refine W ?_
 refine WL_eff (OE_box rfl) rfl ?_
 rintro _ w0 ⟨b, rfl, hb, hblk, hS⟩
 replace hblk : Blk w0 b _ [.int .i64 x.op, .int .i64 x.n] := hblk
 have hX : ∀ b ∈ X, b < w0.heap.size := fun b hb => Nat.lt_of_lt_of_le (hX0 b hb) hS.size
 refine W ?_
 by_cases h1 : x.op = 1
 · have heq : effF x = ([], [], [1], decide (-2147483647 ≤ x.n ∧ x.n ≤ 2147483647)) := by simp [effF, h1]
   repeat' (first | refine W1 ?_ | (exfalso; omega) | (refine VG ?_ ?_ <;> intro hg) | (refine VC ?_ ?_ <;> intro hc))
   refine WC_drawn 13 [] [] [(1, 0), (2, 1), (3, 0), (4, 0), (5, 0), (6, 1), (7, 0), (8, 0), (9, 0), (10, 0), (0, 2), (11, 0), (12, 0)] rfl mixed (by kernel_rfl) (by kernel_rfl) (by kernel_rfl) (fun w1 hS1 => ?_)
   replace hblk := hblk.up hS1
   replace hS := hS.trans hS1
   replace hX := fun b hb => Nat.lt_of_lt_of_le (hX b hb) hS1.size
   repeat' (first | refine D1 ?_ | (exfalso; omega) | refine WD_splitN rfl rfl rfl rfl (fun hg => ?_) (fun hg => ?_) | (refine WD_splitBN rfl rfl rfl rfl (fun hg => ?_) (fun hg => ?_) <;> refine D1 ?_) | fail)
   all_goals
    refine WD_eff rfl trivial (OE_buildSlice (vs := [(0, .int .i64 1)]) rfl (buildSI1 _)) (fun _ _ h => NewSl.stp h) rfl ?_
    rintro g wq hN
    have s_g : SlV X wq g [(1 : Int)] := hN.slv hX rfl rfl (by simp [maxLen])
    have hT := NewSl.stp hN
    clear hN
    replace hblk := hblk.up hT
    replace hS := hS.trans hT
    clear hT
    refine D ?_
    refine W ?_
    refine WQ_ret4 rfl rfl rfl rfl rfl ?_
    refine effPost heq ?_ (nilSlv _ _) (nilSlv _ _) (s_g) hS
    first | rfl | (simp only [decide_eq_decide]; omega) | (symm; simp only [decide_eq_false_iff_not]; omega) | (simp only [decide_eq_false_iff_not]; omega)
 by_cases h2 : x.op = 2
 · have heq : effF x = ([], [], [2], decide (x.n = 0 ∨ x.n = 1)) := by simp [effF, h2]
   repeat' (first | refine W1 ?_ | (exfalso; omega) | (refine VG ?_ ?_ <;> intro hg) | (refine VC ?_ ?_ <;> intro hc))
   refine WC_drawn 13 [] [] [(1, 0), (2, 1), (3, 0), (4, 0), (5, 0), (6, 1), (7, 0), (8, 0), (9, 0), (10, 0), (0, 2), (11, 0), (12, 0)] rfl mixed (by kernel_rfl) (by kernel_rfl) (by kernel_rfl) (fun w1 hS1 => ?_)
   replace hblk := hblk.up hS1
   replace hS := hS.trans hS1
   replace hX := fun b hb => Nat.lt_of_lt_of_le (hX b hb) hS1.size
   repeat' (first | refine D1 ?_ | (exfalso; omega) | refine WD_splitN rfl rfl rfl rfl (fun hg => ?_) (fun hg => ?_) | (refine WD_splitBN rfl rfl rfl rfl (fun hg => ?_) (fun hg => ?_) <;> refine D1 ?_) | fail)
   all_goals
    refine WD_eff rfl trivial (OE_buildSlice (vs := [(0, .int .i64 2)]) rfl (buildSI1 _)) (fun _ _ h => NewSl.stp h) rfl ?_
    rintro g wq hN
    have s_g : SlV X wq g [(2 : Int)] := hN.slv hX rfl rfl (by simp [maxLen])
    have hT := NewSl.stp hN
    clear hN
    replace hblk := hblk.up hT
    replace hS := hS.trans hT
    clear hT
    refine D ?_
    refine W ?_
    refine WQ_ret4 rfl rfl rfl rfl rfl ?_
    refine effPost heq ?_ (nilSlv _ _) (nilSlv _ _) (s_g) hS
    first | rfl | (simp only [decide_eq_decide]; omega) | (symm; simp only [decide_eq_true_eq]; omega) | (simp only [decide_eq_true_eq]; omega)
 by_cases h3 : x.op = 3
 · have heq : effF x = ([], [], [3], decide (0 ≤ x.n ∧ x.n ≤ 3652058)) := by simp [effF, h3]
   repeat' (first | refine W1 ?_ | (exfalso; omega) | (refine VG ?_ ?_ <;> intro hg) | (refine VC ?_ ?_ <;> intro hc))
   refine WC_drawn 13 [] [] [(1, 0), (2, 1), (3, 0), (4, 0), (5, 0), (6, 1), (7, 0), (8, 0), (9, 0), (10, 0), (0, 2), (11, 0), (12, 0)] rfl mixed (by kernel_rfl) (by kernel_rfl) (by kernel_rfl) (fun w1 hS1 => ?_)
   replace hblk := hblk.up hS1
   replace hS := hS.trans hS1
   replace hX := fun b hb => Nat.lt_of_lt_of_le (hX b hb) hS1.size
   repeat' (first | refine D1 ?_ | (exfalso; omega) | refine WD_splitN rfl rfl rfl rfl (fun hg => ?_) (fun hg => ?_) | (refine WD_splitBN rfl rfl rfl rfl (fun hg => ?_) (fun hg => ?_) <;> refine D1 ?_) | fail)
   all_goals
    refine WD_eff rfl trivial (OE_buildSlice (vs := [(0, .int .i64 3)]) rfl (buildSI1 _)) (fun _ _ h => NewSl.stp h) rfl ?_
    rintro g wq hN
    have s_g : SlV X wq g [(3 : Int)] := hN.slv hX rfl rfl (by simp [maxLen])
    have hT := NewSl.stp hN
    clear hN
    replace hblk := hblk.up hT
    replace hS := hS.trans hT
    clear hT
    refine D ?_
    refine W ?_
    refine WQ_ret4 rfl rfl rfl rfl rfl ?_
    refine effPost heq ?_ (nilSlv _ _) (nilSlv _ _) (s_g) hS
    first | rfl | (simp only [decide_eq_decide]; omega) | (symm; simp only [decide_eq_false_iff_not]; omega) | (simp only [decide_eq_false_iff_not]; omega)
 by_cases h4 : x.op = 4
 · by_cases h01 : x.n = 0 ∨ x.n = 1
   · have heq : effF x = ([], [], [3], decide (0 ≤ x.n ∧ x.n < 7)) := by simp [effF, h4, h01]
     repeat' (first | refine W1 ?_ | (exfalso; omega) | (refine VG ?_ ?_ <;> intro hg) | (refine VC ?_ ?_ <;> intro hc))
     all_goals
      refine WC_drawn 14 [] [] [(0, 0), (2, 0), (3, 1), (4, 0), (5, 0), (6, 0), (7, 1), (8, 0), (9, 0), (10, 0), (11, 0), (1, 2), (12, 0), (13, 0)] rfl mixed (by kernel_rfl) (by kernel_rfl) (by kernel_rfl) (fun w1 hS1 => ?_)
      replace hblk := hblk.up hS1
      replace hS := hS.trans hS1
      replace hX := fun b hb => Nat.lt_of_lt_of_le (hX b hb) hS1.size
      repeat' (first | refine D1 ?_ | (exfalso; omega) | refine WD_splitN rfl rfl rfl rfl (fun hg => ?_) (fun hg => ?_) | (refine WD_splitBN rfl rfl rfl rfl (fun hg => ?_) (fun hg => ?_) <;> refine D1 ?_) | fail)
      all_goals
       refine WD_eff rfl trivial (OE_buildSlice (vs := [(0, .int .i64 3)]) rfl (buildSI1 _)) (fun _ _ h => NewSl.stp h) rfl ?_
       rintro g wq hN
       have s_g : SlV X wq g [(3 : Int)] := hN.slv hX rfl rfl (by simp [maxLen])
       have hT := NewSl.stp hN
       clear hN
       replace hblk := hblk.up hT
       replace hS := hS.trans hT
       clear hT
       refine D ?_
       refine W ?_
       refine WQ_ret4 rfl rfl rfl rfl rfl ?_
       refine effPost heq ?_ (nilSlv _ _) (nilSlv _ _) (s_g) hS
       first | rfl | (simp only [decide_eq_decide]; omega) | (symm; simp only [decide_eq_true_eq, decide_eq_false_iff_not]; omega) | (simp only [decide_eq_true_eq, decide_eq_false_iff_not]; omega)
   · have heq : effF x = ([], [], [1], decide (0 ≤ x.n ∧ x.n < 7)) := by simp [effF, h4, h01]
     repeat' (first | refine W1 ?_ | (exfalso; omega) | (refine VG ?_ ?_ <;> intro hg) | (refine VC ?_ ?_ <;> intro hc))
     all_goals
      refine WC_drawn 14 [] [] [(0, 0), (2, 0), (3, 1), (4, 0), (5, 0), (6, 0), (7, 1), (8, 0), (9, 0), (10, 0), (11, 0), (1, 2), (12, 0), (13, 0)] rfl mixed (by kernel_rfl) (by kernel_rfl) (by kernel_rfl) (fun w1 hS1 => ?_)
      replace hblk := hblk.up hS1
      replace hS := hS.trans hS1
      replace hX := fun b hb => Nat.lt_of_lt_of_le (hX b hb) hS1.size
      repeat' (first | refine D1 ?_ | (exfalso; omega) | refine WD_splitN rfl rfl rfl rfl (fun hg => ?_) (fun hg => ?_) | (refine WD_splitBN rfl rfl rfl rfl (fun hg => ?_) (fun hg => ?_) <;> refine D1 ?_) | fail)
      all_goals
       refine WD_eff rfl trivial (OE_buildSlice (vs := [(0, .int .i64 1)]) rfl (buildSI1 _)) (fun _ _ h => NewSl.stp h) rfl ?_
       rintro g wq hN
       have s_g : SlV X wq g [(1 : Int)] := hN.slv hX rfl rfl (by simp [maxLen])
       have hT := NewSl.stp hN
       clear hN
       replace hblk := hblk.up hT
       replace hS := hS.trans hT
       clear hT
       refine D ?_
       refine W ?_
       refine WQ_ret4 rfl rfl rfl rfl rfl ?_
       refine effPost heq ?_ (nilSlv _ _) (nilSlv _ _) (s_g) hS
       first | rfl | (simp only [decide_eq_decide]; omega) | (symm; simp only [decide_eq_false_iff_not]; omega) | (simp only [decide_eq_false_iff_not]; omega)
 by_cases h13 : x.op = 13
 · have heq : effF x = ([], [], [], true) := by simp [effF, h13]
   repeat' (first | refine W1 ?_ | (exfalso; omega) | (refine VG ?_ ?_ <;> intro hg) | (refine VC ?_ ?_ <;> intro hc))
   refine WQ_ret4 rfl rfl rfl rfl rfl ?_
   refine effPost heq ?_ (nilSlv _ _) (nilSlv _ _) (nilSlv _ _) hS
   first | rfl | (simp only [decide_eq_decide]; omega) | (symm; simp only [decide_eq_true_eq, decide_eq_false_iff_not]; omega) | (simp only [decide_eq_true_eq, decide_eq_false_iff_not]; omega)
 by_cases h14 : x.op = 14
 · have heq : effF x = ([2], [], [], true) := by simp [effF, h14]
   repeat' (first | refine W1 ?_ | (exfalso; omega) | (refine VG ?_ ?_ <;> intro hg) | (refine VC ?_ ?_ <;> intro hc))
   refine WL_eff (OE_buildSlice (vs := [(0, .int .i64 2)]) rfl (buildSI1 _)) rfl ?_
   rintro t wq hN
   have s_t : SlV X wq t [(2 : Int)] := hN.slv hX rfl rfl (by simp [maxLen])
   have hT := NewSl.stp hN
   clear hN
   replace hblk := hblk.up hT
   replace hS := hS.trans hT
   replace hX := fun b hb => Nat.lt_of_lt_of_le (hX b hb) hT.size
   clear hT
   refine W ?_
   refine WQ_ret4 rfl rfl rfl rfl rfl ?_
   refine effPost heq ?_ (s_t) (nilSlv _ _) (nilSlv _ _) hS
   first | rfl | (simp only [decide_eq_decide]; omega) | (symm; simp only [decide_eq_true_eq, decide_eq_false_iff_not]; omega) | (simp only [decide_eq_true_eq, decide_eq_false_iff_not]; omega)
 by_cases h5 : x.op = 5 ∨ x.op = 6 ∨ x.op = 7
 · have heq : effF x = ([1, 1], [], [1], decide (x.n = 0)) := by rcases h5 with h | h | h <;> simp [effF, h]
   repeat' (first | refine W1 ?_ | (exfalso; omega) | (refine VG ?_ ?_ <;> intro hg) | (refine VC ?_ ?_ <;> intro hc))
   all_goals
    refine WL_eff (OE_buildSlice (vs := [(0, .int .i64 1), (1, .int .i64 1)]) rfl (buildSI2 _ _)) rfl ?_
    rintro t wq hN
    have s_t : SlV X wq t [(1 : Int), (1 : Int)] := hN.slv hX rfl rfl (by simp [maxLen])
    have hT := NewSl.stp hN
    clear hN
    replace hblk := hblk.up hT
    replace hS := hS.trans hT
    replace hX := fun b hb => Nat.lt_of_lt_of_le (hX b hb) hT.size
    clear hT
    refine WL_eff (OE_buildSlice (vs := [(0, .int .i64 1)]) rfl (buildSI1 _)) rfl ?_
    rintro g wq hN
    have s_g : SlV X wq g [(1 : Int)] := hN.slv hX rfl rfl (by simp [maxLen])
    have hT := NewSl.stp hN
    clear hN
    replace hblk := hblk.up hT
    replace hS := hS.trans hT
    replace hX := fun b hb => Nat.lt_of_lt_of_le (hX b hb) hT.size
    replace s_t := s_t.up hT
    clear hT
    refine W ?_
    refine WC_drawn 10 [] [] [(0, 0), (1, 0), (2, 0), (3, 0), (4, 1), (5, 0), (6, 0), (7, 0), (8, 0), (9, 0)] rfl mixed (by kernel_rfl) (by kernel_rfl) (by kernel_rfl) (fun w1 hS1 => ?_)
    replace hblk := hblk.up hS1
    replace hS := hS.trans hS1
    replace s_t := s_t.up hS1
    replace s_g := s_g.up hS1
    refine D ?_
    refine W ?_
    refine WQ_ret4 rfl rfl rfl rfl rfl ?_
    refine effPost heq ?_ (s_t) (nilSlv _ _) (s_g) hS
    first | rfl | (simp only [decide_eq_decide]; omega) | (symm; simp only [decide_eq_true_eq, decide_eq_false_iff_not]; omega) | (simp only [decide_eq_true_eq, decide_eq_false_iff_not]; omega)
 by_cases h8 : x.op = 8
 · have heq : effF x = ([1], [], [1], decide (x.n = 0)) := by simp [effF, h8]
   repeat' (first | refine W1 ?_ | (exfalso; omega) | (refine VG ?_ ?_ <;> intro hg) | (refine VC ?_ ?_ <;> intro hc))
   all_goals
    refine WL_eff (OE_buildSlice (vs := [(0, .int .i64 1)]) rfl (buildSI1 _)) rfl ?_
    rintro t wq hN
    have s_t : SlV X wq t [(1 : Int)] := hN.slv hX rfl rfl (by simp [maxLen])
    have hT := NewSl.stp hN
    clear hN
    replace hblk := hblk.up hT
    replace hS := hS.trans hT
    replace hX := fun b hb => Nat.lt_of_lt_of_le (hX b hb) hT.size
    clear hT
    refine WL_eff (OE_buildSlice (vs := [(0, .int .i64 1)]) rfl (buildSI1 _)) rfl ?_
    rintro g wq hN
    have s_g : SlV X wq g [(1 : Int)] := hN.slv hX rfl rfl (by simp [maxLen])
    have hT := NewSl.stp hN
    clear hN
    replace hblk := hblk.up hT
    replace hS := hS.trans hT
    replace hX := fun b hb => Nat.lt_of_lt_of_le (hX b hb) hT.size
    replace s_t := s_t.up hT
    clear hT
    refine W ?_
    refine WC_drawn 10 [] [] [(0, 0), (1, 0), (2, 0), (3, 0), (4, 1), (5, 0), (6, 0), (7, 0), (8, 0), (9, 0)] rfl mixed (by kernel_rfl) (by kernel_rfl) (by kernel_rfl) (fun w1 hS1 => ?_)
    replace hblk := hblk.up hS1
    replace hS := hS.trans hS1
    replace s_t := s_t.up hS1
    replace s_g := s_g.up hS1
    refine D ?_
    refine W ?_
    refine WQ_ret4 rfl rfl rfl rfl rfl ?_
    refine effPost heq ?_ (s_t) (nilSlv _ _) (s_g) hS
    first | rfl | (simp only [decide_eq_decide]; omega) | (symm; simp only [decide_eq_true_eq, decide_eq_false_iff_not]; omega) | (simp only [decide_eq_true_eq, decide_eq_false_iff_not]; omega)
 by_cases h9 : x.op = 9 ∨ x.op = 10 ∨ x.op = 11
 · have heq : effF x = ([1, 1], [3, 3], [2], decide (x.n = 0)) := by rcases h9 with h | h | h <;> simp [effF, h]
   repeat' (first | refine W1 ?_ | (exfalso; omega) | (refine VG ?_ ?_ <;> intro hg) | (refine VC ?_ ?_ <;> intro hc))
   all_goals
    refine WL_eff (OE_buildSlice (vs := [(0, .int .i64 1), (1, .int .i64 1)]) rfl (buildSI2 _ _)) rfl ?_
    rintro t wq hN
    have s_t : SlV X wq t [(1 : Int), (1 : Int)] := hN.slv hX rfl rfl (by simp [maxLen])
    have hT := NewSl.stp hN
    clear hN
    replace hblk := hblk.up hT
    replace hS := hS.trans hT
    replace hX := fun b hb => Nat.lt_of_lt_of_le (hX b hb) hT.size
    clear hT
    refine WL_eff (OE_buildSlice (vs := [(0, .int .i64 3), (1, .int .i64 3)]) rfl (buildSI2 _ _)) rfl ?_
    rintro a wq hN
    have s_a : SlV X wq a [(3 : Int), (3 : Int)] := hN.slv hX rfl rfl (by simp [maxLen])
    have hT := NewSl.stp hN
    clear hN
    replace hblk := hblk.up hT
    replace hS := hS.trans hT
    replace hX := fun b hb => Nat.lt_of_lt_of_le (hX b hb) hT.size
    replace s_t := s_t.up hT
    clear hT
    refine WL_eff (OE_buildSlice (vs := [(0, .int .i64 2)]) rfl (buildSI1 _)) rfl ?_
    rintro g wq hN
    have s_g : SlV X wq g [(2 : Int)] := hN.slv hX rfl rfl (by simp [maxLen])
    have hT := NewSl.stp hN
    clear hN
    replace hblk := hblk.up hT
    replace hS := hS.trans hT
    replace hX := fun b hb => Nat.lt_of_lt_of_le (hX b hb) hT.size
    replace s_t := s_t.up hT
    replace s_a := s_a.up hT
    clear hT
    refine W ?_
    refine WC_drawn 10 [] [] [(0, 0), (1, 0), (2, 0), (3, 0), (4, 1), (5, 0), (6, 0), (7, 0), (8, 0), (9, 0)] rfl mixed (by kernel_rfl) (by kernel_rfl) (by kernel_rfl) (fun w1 hS1 => ?_)
    replace hblk := hblk.up hS1
    replace hS := hS.trans hS1
    replace s_t := s_t.up hS1
    replace s_a := s_a.up hS1
    replace s_g := s_g.up hS1
    refine D ?_
    refine W ?_
    refine WQ_ret4 rfl rfl rfl rfl rfl ?_
    refine effPost heq ?_ (s_t) (s_a) (s_g) hS
    first | rfl | (simp only [decide_eq_decide]; omega) | (symm; simp only [decide_eq_true_eq, decide_eq_false_iff_not]; omega) | (simp only [decide_eq_true_eq, decide_eq_false_iff_not]; omega)
 by_cases h12 : x.op = 12
 · have heq : effF x = ([2], [], [2], decide (x.n = 0)) := by simp [effF, h12]
   repeat' (first | refine W1 ?_ | (exfalso; omega) | (refine VG ?_ ?_ <;> intro hg) | (refine VC ?_ ?_ <;> intro hc))
   all_goals
    refine WL_eff (OE_buildSlice (vs := [(0, .int .i64 2)]) rfl (buildSI1 _)) rfl ?_
    rintro t wq hN
    have s_t : SlV X wq t [(2 : Int)] := hN.slv hX rfl rfl (by simp [maxLen])
    have hT := NewSl.stp hN
    clear hN
    replace hblk := hblk.up hT
    replace hS := hS.trans hT
    replace hX := fun b hb => Nat.lt_of_lt_of_le (hX b hb) hT.size
    clear hT
    refine WL_eff (OE_buildSlice (vs := [(0, .int .i64 2)]) rfl (buildSI1 _)) rfl ?_
    rintro g wq hN
    have s_g : SlV X wq g [(2 : Int)] := hN.slv hX rfl rfl (by simp [maxLen])
    have hT := NewSl.stp hN
    clear hN
    replace hblk := hblk.up hT
    replace hS := hS.trans hT
    replace hX := fun b hb => Nat.lt_of_lt_of_le (hX b hb) hT.size
    replace s_t := s_t.up hT
    clear hT
    refine W ?_
    refine WC_drawn 10 [] [] [(0, 0), (1, 0), (2, 0), (3, 0), (4, 1), (5, 0), (6, 0), (7, 0), (8, 0), (9, 0)] rfl mixed (by kernel_rfl) (by kernel_rfl) (by kernel_rfl) (fun w1 hS1 => ?_)
    replace hblk := hblk.up hS1
    replace hS := hS.trans hS1
    replace s_t := s_t.up hS1
    replace s_g := s_g.up hS1
    refine D ?_
    refine W ?_
    refine WQ_ret4 rfl rfl rfl rfl rfl ?_
    refine effPost heq ?_ (s_t) (nilSlv _ _) (s_g) hS
    first | rfl | (simp only [decide_eq_decide]; omega) | (symm; simp only [decide_eq_true_eq, decide_eq_false_iff_not]; omega) | (simp only [decide_eq_true_eq, decide_eq_false_iff_not]; omega)
 by_cases h15 : x.op = 15 ∨ x.op = 16 ∨ x.op = 17 ∨ x.op = 18
 · have heq : effF x = ([3, 1], [], [3], decide (x.n = 0)) := by rcases h15 with h | h | h | h <;> simp [effF, h]
   repeat' (first | refine W1 ?_ | (exfalso; omega) | (refine VG ?_ ?_ <;> intro hg) | (refine VC ?_ ?_ <;> intro hc))
   all_goals
    refine WL_eff (OE_buildSlice (vs := [(0, .int .i64 3), (1, .int .i64 1)]) rfl (buildSI2 _ _)) rfl ?_
    rintro t wq hN
    have s_t : SlV X wq t [(3 : Int), (1 : Int)] := hN.slv hX rfl rfl (by simp [maxLen])
    have hT := NewSl.stp hN
    clear hN
    replace hblk := hblk.up hT
    replace hS := hS.trans hT
    replace hX := fun b hb => Nat.lt_of_lt_of_le (hX b hb) hT.size
    clear hT
    refine WL_eff (OE_buildSlice (vs := [(0, .int .i64 3)]) rfl (buildSI1 _)) rfl ?_
    rintro g wq hN
    have s_g : SlV X wq g [(3 : Int)] := hN.slv hX rfl rfl (by simp [maxLen])
    have hT := NewSl.stp hN
    clear hN
    replace hblk := hblk.up hT
    replace hS := hS.trans hT
    replace hX := fun b hb => Nat.lt_of_lt_of_le (hX b hb) hT.size
    replace s_t := s_t.up hT
    clear hT
    refine W ?_
    refine WC_drawn 10 [] [] [(0, 0), (1, 0), (2, 0), (3, 0), (4, 1), (5, 0), (6, 0), (7, 0), (8, 0), (9, 0)] rfl mixed (by kernel_rfl) (by kernel_rfl) (by kernel_rfl) (fun w1 hS1 => ?_)
    replace hblk := hblk.up hS1
    replace hS := hS.trans hS1
    replace s_t := s_t.up hS1
    replace s_g := s_g.up hS1
    refine D ?_
    refine W ?_
    refine WQ_ret4 rfl rfl rfl rfl rfl ?_
    refine effPost heq ?_ (s_t) (nilSlv _ _) (s_g) hS
    first | rfl | (simp only [decide_eq_decide]; omega) | (symm; simp only [decide_eq_true_eq, decide_eq_false_iff_not]; omega) | (simp only [decide_eq_true_eq, decide_eq_false_iff_not]; omega)
 by_cases h19 : x.op = 19 ∨ x.op = 20
 · have heq : effF x = ([3], [], [3], decide (x.n = 0)) := by rcases h19 with h | h <;> simp [effF, h]
   repeat' (first | refine W1 ?_ | (exfalso; omega) | (refine VG ?_ ?_ <;> intro hg) | (refine VC ?_ ?_ <;> intro hc))
   all_goals
    refine WL_eff (OE_buildSlice (vs := [(0, .int .i64 3)]) rfl (buildSI1 _)) rfl ?_
    rintro t wq hN
    have s_t : SlV X wq t [(3 : Int)] := hN.slv hX rfl rfl (by simp [maxLen])
    have hT := NewSl.stp hN
    clear hN
    replace hblk := hblk.up hT
    replace hS := hS.trans hT
    replace hX := fun b hb => Nat.lt_of_lt_of_le (hX b hb) hT.size
    clear hT
    refine WL_eff (OE_buildSlice (vs := [(0, .int .i64 3)]) rfl (buildSI1 _)) rfl ?_
    rintro g wq hN
    have s_g : SlV X wq g [(3 : Int)] := hN.slv hX rfl rfl (by simp [maxLen])
    have hT := NewSl.stp hN
    clear hN
    replace hblk := hblk.up hT
    replace hS := hS.trans hT
    replace hX := fun b hb => Nat.lt_of_lt_of_le (hX b hb) hT.size
    replace s_t := s_t.up hT
    clear hT
    refine W ?_
    refine WC_drawn 10 [] [] [(0, 0), (1, 0), (2, 0), (3, 0), (4, 1), (5, 0), (6, 0), (7, 0), (8, 0), (9, 0)] rfl mixed (by kernel_rfl) (by kernel_rfl) (by kernel_rfl) (fun w1 hS1 => ?_)
    replace hblk := hblk.up hS1
    replace hS := hS.trans hS1
    replace s_t := s_t.up hS1
    replace s_g := s_g.up hS1
    refine D ?_
    refine W ?_
    refine WQ_ret4 rfl rfl rfl rfl rfl ?_
    refine effPost heq ?_ (s_t) (nilSlv _ _) (s_g) hS
    first | rfl | (simp only [decide_eq_decide]; omega) | (symm; simp only [decide_eq_true_eq, decide_eq_false_iff_not]; omega) | (simp only [decide_eq_true_eq, decide_eq_false_iff_not]; omega)
 by_cases h21 : x.op = 21 ∨ x.op = 22
 · have heq : effF x = ([3, 3], [], [3], decide (x.n = 0)) := by rcases h21 with h | h <;> simp [effF, h]
   repeat' (first | refine W1 ?_ | (exfalso; omega) | (refine VG ?_ ?_ <;> intro hg) | (refine VC ?_ ?_ <;> intro hc))
   all_goals
    refine WL_eff (OE_buildSlice (vs := [(0, .int .i64 3), (1, .int .i64 3)]) rfl (buildSI2 _ _)) rfl ?_
    rintro t wq hN
    have s_t : SlV X wq t [(3 : Int), (3 : Int)] := hN.slv hX rfl rfl (by simp [maxLen])
    have hT := NewSl.stp hN
    clear hN
    replace hblk := hblk.up hT
    replace hS := hS.trans hT
    replace hX := fun b hb => Nat.lt_of_lt_of_le (hX b hb) hT.size
    clear hT
    refine WL_eff (OE_buildSlice (vs := [(0, .int .i64 3)]) rfl (buildSI1 _)) rfl ?_
    rintro g wq hN
    have s_g : SlV X wq g [(3 : Int)] := hN.slv hX rfl rfl (by simp [maxLen])
    have hT := NewSl.stp hN
    clear hN
    replace hblk := hblk.up hT
    replace hS := hS.trans hT
    replace hX := fun b hb => Nat.lt_of_lt_of_le (hX b hb) hT.size
    replace s_t := s_t.up hT
    clear hT
    refine W ?_
    refine WC_drawn 10 [] [] [(0, 0), (1, 0), (2, 0), (3, 0), (4, 1), (5, 0), (6, 0), (7, 0), (8, 0), (9, 0)] rfl mixed (by kernel_rfl) (by kernel_rfl) (by kernel_rfl) (fun w1 hS1 => ?_)
    replace hblk := hblk.up hS1
    replace hS := hS.trans hS1
    replace s_t := s_t.up hS1
    replace s_g := s_g.up hS1
    refine D ?_
    refine W ?_
    refine WQ_ret4 rfl rfl rfl rfl rfl ?_
    refine effPost heq ?_ (s_t) (nilSlv _ _) (s_g) hS
    first | rfl | (simp only [decide_eq_decide]; omega) | (symm; simp only [decide_eq_true_eq, decide_eq_false_iff_not]; omega) | (simp only [decide_eq_true_eq, decide_eq_false_iff_not]; omega)
 by_cases h23 : x.op = 23
 · have heq : effF x = ([3, 3], [], [1], decide (x.n = 0)) := by simp [effF, h23]
   repeat' (first | refine W1 ?_ | (exfalso; omega) | (refine VG ?_ ?_ <;> intro hg) | (refine VC ?_ ?_ <;> intro hc))
   all_goals
    refine WL_eff (OE_buildSlice (vs := [(0, .int .i64 3), (1, .int .i64 3)]) rfl (buildSI2 _ _)) rfl ?_
    rintro t wq hN
    have s_t : SlV X wq t [(3 : Int), (3 : Int)] := hN.slv hX rfl rfl (by simp [maxLen])
    have hT := NewSl.stp hN
    clear hN
    replace hblk := hblk.up hT
    replace hS := hS.trans hT
    replace hX := fun b hb => Nat.lt_of_lt_of_le (hX b hb) hT.size
    clear hT
    refine WL_eff (OE_buildSlice (vs := [(0, .int .i64 1)]) rfl (buildSI1 _)) rfl ?_
    rintro g wq hN
    have s_g : SlV X wq g [(1 : Int)] := hN.slv hX rfl rfl (by simp [maxLen])
    have hT := NewSl.stp hN
    clear hN
    replace hblk := hblk.up hT
    replace hS := hS.trans hT
    replace hX := fun b hb => Nat.lt_of_lt_of_le (hX b hb) hT.size
    replace s_t := s_t.up hT
    clear hT
    refine W ?_
    refine WC_drawn 10 [] [] [(0, 0), (1, 0), (2, 0), (3, 0), (4, 1), (5, 0), (6, 0), (7, 0), (8, 0), (9, 0)] rfl mixed (by kernel_rfl) (by kernel_rfl) (by kernel_rfl) (fun w1 hS1 => ?_)
    replace hblk := hblk.up hS1
    replace hS := hS.trans hS1
    replace s_t := s_t.up hS1
    replace s_g := s_g.up hS1
    refine D ?_
    refine W ?_
    refine WQ_ret4 rfl rfl rfl rfl rfl ?_
    refine effPost heq ?_ (s_t) (nilSlv _ _) (s_g) hS
    first | rfl | (simp only [decide_eq_decide]; omega) | (symm; simp only [decide_eq_true_eq, decide_eq_false_iff_not]; omega) | (simp only [decide_eq_true_eq, decide_eq_false_iff_not]; omega)
 by_cases h24 : x.op = 24
 · have heq : effF x = ([], [], [], decide (x.n = 0)) := by simp [effF, h24]
   repeat' (first | refine W1 ?_ | (exfalso; omega) | (refine VG ?_ ?_ <;> intro hg) | (refine VC ?_ ?_ <;> intro hc))
   refine WC_drawn 10 [] [] [(0, 0), (1, 0), (2, 0), (3, 0), (4, 1), (5, 0), (6, 0), (7, 0), (8, 0), (9, 0)] rfl mixed (by kernel_rfl) (by kernel_rfl) (by kernel_rfl) (fun w1 hS1 => ?_)
   replace hblk := hblk.up hS1
   replace hS := hS.trans hS1
   refine D ?_
   refine W ?_
   refine WQ_ret4 rfl rfl rfl rfl rfl ?_
   refine effPost heq ?_ (nilSlv _ _) (nilSlv _ _) (nilSlv _ _) hS
   first | rfl | (simp only [decide_eq_decide]; omega) | (symm; simp only [decide_eq_true_eq, decide_eq_false_iff_not]; omega) | (simp only [decide_eq_true_eq, decide_eq_false_iff_not]; omega)
 have heq : effF x = ([], [], [], false) := by simp [effF, h1, h2, h3, h4, h13, h14, h5, h8, h9, h12, h15, h19, h21, h23, h24]
 repeat' (first | refine W1 ?_ | (exfalso; omega) | (refine VG ?_ ?_ <;> intro hg) | (refine VC ?_ ?_ <;> intro hc))
 refine WQ_ret4 rfl rfl rfl rfl rfl ?_
 refine effPost heq ?_ (nilSlv _ _) (nilSlv _ _) (nilSlv _ _) hS
 first | rfl | (simp only [decide_eq_decide]; omega) | (symm; simp only [decide_eq_true_eq, decide_eq_false_iff_not]; omega) | (simp only [decide_eq_true_eq, decide_eq_false_iff_not]; omega)
end Go.Proofs.YtgpibcgebpgmiaaGreatDoor
namespace Go.Eng
open Go
structure RwT where
 lo : Int
 hi : Int
 t : Str
 g : Str
instance : Flat RwT where
 k := 4
 enc := fun x => [.int .i64 x.lo, .int .i64 x.hi, str x.t, str x.g]
 len := fun _ => rfl
 one := by intro x u hu; simp at hu; rcases hu with rfl | rfl | rfl | rfl <;> rfl
end Go.Eng
namespace Go.Proofs.YtgpibcgebpgmiaaGreatDoor
open Go Go.Eng Go.RowKit
def fieldS : List Str := [[100], [100], [110], [110], [110], [110], [110]]
def rowsF (x : Ins) (a z : Nat) : List RwT :=
 if x.op = 1 then [⟨-2147483647, 2147483647, [], [110]⟩]
 else if x.op = 2 then [⟨0, 1, [], [98]⟩]
 else if x.op = 3 then [⟨0, 3652058, [], [100]⟩]
 else if x.op = 4 then (if 0 ≤ x.n ∧ x.n < 7 then [⟨0, 6, [], fieldS.getD x.n.toNat []⟩] else [])
 else if x.op = 5 ∨ x.op = 6 ∨ x.op = 7 then [⟨0, 0, [110, 110], [110]⟩]
 else if x.op = 8 then [⟨0, 0, [110], [110]⟩]
 else if x.op = 9 ∨ x.op = 10 ∨ x.op = 11 then [⟨0, 0, [110, 110], [98]⟩, ⟨0, 0, [100, 100], [98]⟩]
 else if x.op = 12 then [⟨0, 0, [98], [98]⟩]
 else if x.op = 13 then [⟨(a : Int) + 1, (z : Int) - 1, [], []⟩]
 else if x.op = 14 then [⟨(a : Int) + 1, (z : Int) - 1, [98], []⟩]
 else if x.op = 15 ∨ x.op = 16 ∨ x.op = 17 ∨ x.op = 18 then [⟨0, 0, [100, 110], [100]⟩]
 else if x.op = 19 ∨ x.op = 20 then [⟨0, 0, [100], [100]⟩]
 else if x.op = 21 ∨ x.op = 22 then [⟨0, 0, [100, 100], [100]⟩]
 else if x.op = 23 then [⟨0, 0, [100, 100], [110]⟩]
 else if x.op = 24 then [⟨0, 0, [], []⟩]
 else []
abbrev Shp := List Int
def nextM (x : Ins) (s : Shp) : Option Shp :=
 let e := effF x
 let k := s.length - e.1.length
 if e.2.2.2 = true ∧ e.1.length ≤ s.length ∧ (s.drop k = e.1 ∨ e.2.1 ≠ [] ∧ s.drop k = e.2.1) ∧ (s.take k ++ e.2.2.1).length ≤ 16 then some (s.take k ++ e.2.2.1) else none
def reachM (st : List (Option Shp)) (t : Int) (sh : Shp) : Option (List (Option Shp)) :=
 if 0 ≤ t ∧ t < st.length then
  match st.getD t.toNat none with
  | some s => if s = sh then some st else none
  | none => some (st.set t.toNat (some sh))
 else none
def stepM (st : List (Option Shp)) (i : Nat) (x : Ins) : Option (List (Option Shp)) :=
 match st.getD i none with
 | none => none
 | some s =>
   match nextM x s with
   | none => none
   | some nx =>
     if x.op = 24 then (if i + 1 = st.length ∧ s.length = 1 then some st else none)
     else if x.op = 13 then (if x.n > i then reachM st x.n nx else none)
     else if x.op = 14 then (if x.n > i then (reachM st x.n nx).bind (fun st' => reachM st' ((i : Int) + 1) nx) else none)
     else reachM st ((i : Int) + 1) nx
def runM (code : List Ins) : Nat → List (Option Shp) → Option (List (Option Shp))
 | 0, st => some st
 | k + 1, st => (runM code k st).bind (fun st' => stepM st' k (code.getD k ⟨0, 0⟩))
def verM (code : List Ins) : Int × Int :=
 if code.length = 0 ∨ code.length > 200 then (0, 22) else
  match runM code code.length ((some []) :: List.replicate (code.length - 1) none) with
  | none => (0, 22)
  | some st => (((st.getD (code.length - 1) none).getD []).headD 0, 0)
theorem reachM_len {st st' : List (Option Shp)} {t : Int} {sh : Shp} (h : reachM st t sh = some st') : st'.length = st.length := by
 unfold reachM at h
 split at h
 · split at h
   · split at h
     · cases h; rfl
     · cases h
   · cases h; simp
 · cases h
example : verM [⟨4, 0⟩, ⟨1, 3⟩, ⟨15, 0⟩, ⟨24, 0⟩] = (3, 0) := by decide
example : verM [⟨24, 0⟩] = (0, 22) := by decide
end Go.Proofs.YtgpibcgebpgmiaaGreatDoor
namespace Go.Eng
open Go Go.RowKit Go.Proofs
theorem Row.slvX {α : Type} [GoRep α] {X : List Nat} {w : World} {base T : Nat} {v : Value} {xs : List α} (h : Row X w base T v xs) (hX : ∀ b ∈ X, b ∉ ob v) : SlV X w v xs := by
 obtain ⟨css, hl, hr, ho⟩ := h
 have hk : ∀ c ∈ css, c.length = GoRep.k α := by
  intro c hc
  obtain ⟨i, hi, rfl⟩ := List.getElem_of_mem hc
  exact GoRep.len (hr i (by omega) hi)
 rcases ho.2 with ⟨rfl, hn⟩ | ⟨q, cap, cur, rfl, hb, hg, hnc, hcm, hcs, ht⟩
 · exact ⟨none, 0, by rw [hn], by omega, by simp [maxLen], fun _ => rfl, fun i hi => by omega⟩
 · refine ⟨some ⟨q, 0, none⟩, cap, rfl, hnc, hcm, fun h => by simp at h, fun i hi => ?_⟩
   refine ⟨q, 0, css[i]'(by omega), rfl, (Array.getElem?_eq_some_iff.1 hg).1, fun hx => hX q hx (by simp [ob]), ?_, fun j u hu => ?_⟩
   · exact GoRep.ext (hr i hi (by omega)) (Stp.refl [] w) (by simp) (fun b hb => .inl (by simp [hb]))
   · have h1 := flatten_at css hk i (by omega) j u hu
     rw [← ht, List.getElem?_take] at h1
     split at h1
     · have h2 : cur[i * GoRep.k α + j]? = some u := by simpa using h1
       rw [Nat.zero_add, cell_of_row w q _ cur T (0, 0) hg]
       exact h2
     · cases h1
end Go.Eng
namespace Go.Proofs.YtgpibcgebpgmiaaGreatDoor
open Go Go.Eng Go.RowKit
abbrev shpS (st : List (Option Shp)) : List (Sl Int) := st.map (fun o => ⟨o.getD []⟩)
abbrev seenS (st : List (Option Shp)) : List Bool := st.map Option.isSome
structure Vf (w : World) (bv base : Nat) (cv hv sv : Value) (code : List Ins) (st : List (Option Shp)) : Prop where
 blk : Blk w bv 154 [cv, hv, sv]
 cod : SlV (bv :: (ob hv ++ ob sv)) w cv code
 shp : Row (bv :: ob sv) w base 22 hv (shpS st)
 seen : Row [] w base 4 sv (seenS st)
 nh : bv ∉ ob hv
 ns : bv ∉ ob sv
 hi : base ≤ w.heap.size
 apart : ∀ b ∈ ob hv, b ∉ ob sv
 len : st.length = code.length
theorem Vf.up {w w' : World} {bv base : Nat} {cv hv sv : Value} {code : List Ins} {st : List (Option Shp)} (h : Vf w bv base cv hv sv code st) (hS : Stp [] w w') : Vf w' bv base cv hv sv code st :=
 ⟨h.blk.up hS, h.cod.up hS, h.shp.up hS, h.seen.up hS, h.nh, h.ns, Nat.le_trans h.hi hS.size, h.apart, h.len⟩
theorem reach_any (bv base : Nat) (cv hv sv uv : Value) (code : List Ins) (st : List (Option Shp)) (t : Int) (s : Shp) (w : World) (h : Vf w bv base cv hv sv code st) (ht : 0 ≤ t) (hs : SlV (bv :: (ob hv ++ ob sv)) w uv s) :
 Calls Tryz.prog 143 #[.pointer (some ⟨bv, 0, none⟩), .int .i64 t, uv] w (Ret fun r w' => Stp (bv :: (ob hv ++ ob sv)) w w' ∧ r = .bool (reachM st t s).isSome ∧ ∀ st', reachM st t s = some st' → Vf w' bv base cv hv sv code st') := by
 have hblk := h.blk
 have hcode := h.cod
 have hmax := hcode.max
 have hlen := h.len
 have hbh := h.nh
 have hbs := h.ns
 have hshp := h.shp.slvX (fun b hb => by
  rcases List.mem_cons.1 hb with rfl | hb
  · exact hbh
  · exact fun hb' => h.apart b hb' hb)
 have hseen := h.seen.slv0
 have hl1 : (shpS st).length = st.length := by simp [shpS]
 have hl2 : (seenS st).length = st.length := by simp [seenS]
 refine calls_of_WC3 (n := 45) Tryz.func143 rfl rfl rfl ?_
 refine W ?_
 by_cases hlt : t < code.length
 case neg =>
  have hr : reachM st t s = none := by rw [reachM, if_neg (by omega)]
  repeat' (first | refine W1 ?_ | (exfalso; omega) | (refine VG ?_ ?_ <;> intro hg) | (refine VC ?_ ?_ <;> intro hc))
  refine WR ?_
  exact .mk ⟨Stp.refl _ _, by rw [hr]; rfl, fun st' h => by rw [hr] at h; cases h⟩
 obtain ⟨k, rfl⟩ : ∃ k : Nat, t = (k : Int) := ⟨t.toNat, by omega⟩
 have hk : k < st.length := by omega
 have hk1 : k < (shpS st).length := by omega
 have hk2 : k < (seenS st).length := by omega
 have hsk : (seenS st)[k] = (st[k]).isSome := by simp [seenS]
 have hgd : st.getD ((k : Int)).toNat none = st[k] := by simp [List.getD, hk]
 cases hst : st[k] with
 | some s0 =>
   have hb1 : (seenS st)[k] = true := by rw [hsk, hst]; rfl
   have hrM : reachM st (k : Int) s = if s0 = s then some st else none := by
    rw [reachM, if_pos (by omega), hgd, hst]
   repeat' (first | refine W1 ?_ | (exfalso; omega) | (refine VG ?_ ?_ <;> intro hg) | (refine VC ?_ ?_ <;> intro hc))
   · obtain ⟨u, hcell, hsu⟩ := hshp.sub hk1
     have hu0 : (shpS st)[k].l = s0 := by simp [shpS, hst]
     apply WL_pure (PR_load1 rfl rfl hcell) rfl
     refine W ?_
     refine CL rfl (evs2 rfl rfl) rfl (EqualI_any _ _ _ _ _ (hsu.wk (by simp)) (hs.wk (by simp))) ?_
     rintro _ w2 ⟨rfl, hS⟩
     refine W ?_
     refine WR ?_
     rw [hu0]
     refine .mk ⟨hS.mono (by simp), ?_, fun st' h' => ?_⟩
     · rw [hrM]
       by_cases he : s0 = s <;> simp [he]
     · rw [hrM] at h'
       split at h'
       · cases h'; exact h.up hS
       · cases h'
   · rw [hb1] at hc; exact absurd hc (by simp)
 | none =>
   have hb1 : (seenS st)[k] = false := by rw [hsk, hst]; rfl
   have hrM : reachM st (k : Int) s = some (st.set k (some s)) := by
    rw [reachM, if_pos (by omega), hgd, hst]
    simp
   repeat' (first | refine W1 ?_ | (exfalso; omega) | (refine VG ?_ ?_ <;> intro hg) | (refine VC ?_ ?_ <;> intro hc))
   · rw [hb1] at hc; exact absurd hc (by simp)
   refine WC_drawn 15 (ob hv ++ ob sv) [] [(0, 0), (1, 0), (2, 0), (3, 1), (4, 0), (5, 0), (6, 0), (7, 0), (8, 1), (9, 0), (10, 0), (11, 0), (12, 2), (13, 0), (14, 2)] rfl mixed (by kernel_rfl) (by kernel_rfl) (by kernel_rfl) (fun w1 hS1 => ?_)
   have nb : bv ∉ ob hv ++ ob sv := fun hb => (List.mem_append.1 hb).elim hbh hbs
   replace hblk := hblk.up hS1
   have hseen1 := hseen.up hS1
   have hshp1 := hshp.up hS1
   have rs := h.seen.up hS1
   have rh := h.shp.up hS1
   refine D ?_
   try (refine WD_read rfl trivial (fun w' hS' => PR_load_blk rfl rfl (hblk.ext hS' nb) rfl) rfl ?_)
   refine D ?_
   try (refine WD_read rfl trivial (fun w' hS' => PR_load_blk rfl rfl (hblk.ext hS' nb) rfl) rfl ?_)
   refine D ?_
   refine WD_eff0 rfl trivial (OE_storeElX (α := Bool) (y' := true) (u := .bool true) rfl rfl rfl rfl rs hk2) (fun _ _ h => h.2.mono (by simp_all)) ?_
   rintro _ w3 ⟨rs3, hS3⟩
   replace rh := rh.ext (X' := bv :: ob sv) hS3 (fun b hb => ⟨List.mem_cons_of_mem _ hb, fun hb' => h.apart b hb' hb⟩) (fun _ h => .inl h)
   have hshp3 := rh.slvX (fun b hb => by
    rcases List.mem_cons.1 hb with rfl | hb
    · exact hbh
    · exact fun hb' => h.apart b hb' hb)
   have hS13 : Stp (bv :: (ob hv ++ ob sv)) w w3 := (hS1.mono (by simp)).trans (hS3.mono (fun b hb => by simp [hb]))
   have hs3 := hs.ext hS13 (fun _ h => h) (fun _ h => .inl h)
   refine D ?_
   refine WD_eff0 rfl trivial (OE_storeElX (α := Sl Int) (y' := ⟨s⟩) (u := uv) rfl rfl rfl ⟨uv, hs3.cells, hs3.wk (fun b hb => by simp at hb; rcases hb with h | h | h <;> simp [h])⟩ rh hk1) (fun _ _ h => h.2.mono (by simp_all)) ?_
   rintro _ w4 ⟨rh4, hS4⟩
   refine D ?_
   refine W ?_
   refine WR ?_
   have hS14 : Stp (bv :: (ob hv ++ ob sv)) w w4 := hS13.trans (hS4.mono (fun b hb => by simp [hb]))
   refine .mk ⟨hS14, by rw [hrM]; rfl, fun st' h' => ?_⟩
   rw [hrM] at h'
   cases h'
   have rs4 := rs3.keep hS4 (fun b hb => h.apart b hb)
   refine ⟨(hblk.ext hS3 hbs).ext hS4 hbh, h.cod.ext hS14 (fun _ h => h) (fun _ h => .inl h), ?_, ?_, hbh, hbs, Nat.le_trans h.hi hS14.size, h.apart, by simpa using h.len⟩
   · have e : shpS (st.set k (some s)) = (shpS st).set k ⟨s⟩ := by simp [shpS, List.map_set]
     rw [e]; exact rh4
   · have e : seenS (st.set k (some s)) = (seenS st).set k true := by simp [seenS, List.map_set]
     rw [e]; exact rs4
def rowM (n : Int) (sh : Str) (r : RwT) : Option Str :=
 if r.lo ≤ n ∧ n ≤ r.hi ∧ r.t.length ≤ sh.length ∧ sh.drop (sh.length - r.t.length) = r.t ∧ sh.length - r.t.length + r.g.length ≤ 16 then some (sh.take (sh.length - r.t.length) ++ r.g) else none
def firstM (n : Int) (sh : Str) : List RwT → Option Str
 | [] => none
 | r :: l => match rowM n sh r with
   | some s => some s
   | none => firstM n sh l
theorem rows_no {op n : Int} {a z : Nat} (h : ¬ (1 ≤ op ∧ op ≤ 24)) : rowsF ⟨op, n⟩ a z = [] := by
 have h1 : ∀ k : Int, 1 ≤ k → k ≤ 24 → ¬ op = k := fun k h1 h2 e => h (by omega)
 simp only [rowsF]
 rw [if_neg (h1 1 (by decide) (by decide))]
 rw [if_neg (h1 2 (by decide) (by decide))]
 rw [if_neg (h1 3 (by decide) (by decide))]
 rw [if_neg (h1 4 (by decide) (by decide))]
 rw [if_neg (not_or.2 ⟨h1 5 (by decide) (by decide), (not_or.2 ⟨h1 6 (by decide) (by decide), (h1 7 (by decide) (by decide))⟩)⟩)]
 rw [if_neg (h1 8 (by decide) (by decide))]
 rw [if_neg (not_or.2 ⟨h1 9 (by decide) (by decide), (not_or.2 ⟨h1 10 (by decide) (by decide), (h1 11 (by decide) (by decide))⟩)⟩)]
 rw [if_neg (h1 12 (by decide) (by decide))]
 rw [if_neg (h1 13 (by decide) (by decide))]
 rw [if_neg (h1 14 (by decide) (by decide))]
 rw [if_neg (not_or.2 ⟨h1 15 (by decide) (by decide), (not_or.2 ⟨h1 16 (by decide) (by decide), (not_or.2 ⟨h1 17 (by decide) (by decide), (h1 18 (by decide) (by decide))⟩)⟩)⟩)]
 rw [if_neg (not_or.2 ⟨h1 19 (by decide) (by decide), (h1 20 (by decide) (by decide))⟩)]
 rw [if_neg (not_or.2 ⟨h1 21 (by decide) (by decide), (h1 22 (by decide) (by decide))⟩)]
 rw [if_neg (h1 23 (by decide) (by decide))]
 rw [if_neg (h1 24 (by decide) (by decide))]
theorem eff_no {op n : Int} (h : ¬ (1 ≤ op ∧ op ≤ 24)) : effF ⟨op, n⟩ = ([], [], [], false) := by
 have h1 : ∀ k : Int, 1 ≤ k → k ≤ 24 → ¬ op = k := fun k h1 h2 e => h (by omega)
 simp only [effF]
 rw [if_neg (h1 1 (by decide) (by decide))]
 rw [if_neg (h1 2 (by decide) (by decide))]
 rw [if_neg (h1 3 (by decide) (by decide))]
 rw [if_neg (h1 4 (by decide) (by decide))]
 rw [if_neg (h1 13 (by decide) (by decide))]
 rw [if_neg (h1 14 (by decide) (by decide))]
 rw [if_neg (not_or.2 ⟨h1 5 (by decide) (by decide), (not_or.2 ⟨h1 6 (by decide) (by decide), (h1 7 (by decide) (by decide))⟩)⟩)]
 rw [if_neg (h1 8 (by decide) (by decide))]
 rw [if_neg (not_or.2 ⟨h1 9 (by decide) (by decide), (not_or.2 ⟨h1 10 (by decide) (by decide), (h1 11 (by decide) (by decide))⟩)⟩)]
 rw [if_neg (h1 12 (by decide) (by decide))]
 rw [if_neg (not_or.2 ⟨h1 15 (by decide) (by decide), (not_or.2 ⟨h1 16 (by decide) (by decide), (not_or.2 ⟨h1 17 (by decide) (by decide), (h1 18 (by decide) (by decide))⟩)⟩)⟩)]
 rw [if_neg (not_or.2 ⟨h1 19 (by decide) (by decide), (h1 20 (by decide) (by decide))⟩)]
 rw [if_neg (not_or.2 ⟨h1 21 (by decide) (by decide), (h1 22 (by decide) (by decide))⟩)]
 rw [if_neg (h1 23 (by decide) (by decide))]
 rw [if_neg (h1 24 (by decide) (by decide))]
theorem reach_none {st : List (Option Shp)} {t : Int} {nx : Shp} (h : ¬ t < st.length) : reachM st t nx = none := if_neg (fun h' => h h'.2)
theorem buildSL2 (p q : Option Addr) (l m c d : Nat) (w : World) : (Instr.buildSlice 151 2 #[(0, .slice p l c), (1, .slice q m d)]).run Tryz.prog w = .ok (.slice (some ⟨w.heap.size, 0, none⟩) 2 2) (w.alloc (.cells #[.slice p l c, .slice q m d] 22)) := by kernel_rfl
theorem Vf.shps {w : World} {bv base : Nat} {cv hv sv : Value} {code : List Ins} {st : List (Option Shp)} (h : Vf w bv base cv hv sv code st) : SlV (bv :: ob sv) w hv (shpS st) :=
 h.shp.slvX (fun b hb => by
  rcases List.mem_cons.1 hb with rfl | hb
  · exact h.nh
  · exact fun hb' => h.apart b hb' hb)
theorem Vf.bounds {w : World} {bv base : Nat} {cv hv sv : Value} {code : List Ins} {st : List (Option Shp)} (h : Vf w bv base cv hv sv code st) : ∀ b ∈ bv :: (ob hv ++ ob sv), b < w.heap.size := fun b hb => by
 have := h.blk.lt
 simp only [List.mem_cons, List.mem_append] at hb
 rcases hb with rfl | hb | hb
 · omega
 · exact (h.shp.ob_le b hb).2
 · exact (h.seen.ob_le b hb).2
theorem eff_len (x : Ins) : (effF x).1.length ≤ 2 ∧ (effF x).2.1.length ≤ 2 ∧ (effF x).2.2.1.length ≤ 1 := by
 obtain ⟨op, n⟩ := x
 by_cases hr : 1 ≤ op ∧ op ≤ 24
 · have hn : op = 1 ∨ op = 2 ∨ op = 3 ∨ op = 4 ∨ op = 5 ∨ op = 6 ∨ op = 7 ∨ op = 8 ∨ op = 9 ∨ op = 10 ∨ op = 11 ∨ op = 12 ∨ op = 13 ∨ op = 14 ∨ op = 15 ∨ op = 16 ∨ op = 17 ∨ op = 18 ∨ op = 19 ∨ op = 20 ∨ op = 21 ∨ op = 22 ∨ op = 23 ∨ op = 24 := by omega
   rcases hn with rfl | rfl | rfl | rfl | rfl | rfl | rfl | rfl | rfl | rfl | rfl | rfl | rfl | rfl | rfl | rfl | rfl | rfl | rfl | rfl | rfl | rfl | rfl | rfl <;> simp [effF]
 · rw [eff_no hr]; simp
theorem step_any (bv base : Nat) (cv hv sv : Value) (code : List Ins) (st : List (Option Shp)) (i : Nat) (w : World) (h : Vf w bv base cv hv sv code st) (hi : i < code.length) (hn : code.length ≤ 1000) (h16 : ∀ s, some s ∈ st → s.length ≤ 16) :
 Calls Tryz.prog 95 #[.pointer (some ⟨bv, 0, none⟩), .int .i64 (i : Int)] w (Ret fun r w' => Stp (bv :: (ob hv ++ ob sv)) w w' ∧ r = .bool (stepM st i code[i]).isSome ∧ ∀ st', stepM st i code[i] = some st' → Vf w' bv base cv hv sv code st') := by
 have hlen := h.len
 have hk1 : i < (shpS st).length := by simp [shpS]; omega
 have hk2 : i < (seenS st).length := by simp [seenS]; omega
 have hist : i < st.length := by omega
 refine calls_of_WC2 (n := 140) Tryz.func95 rfl rfl rfl ?_
 refine W ?_
 refine WC_drawnE 17 ([w.heap.size]) [] [(0, 0), (1, 0), (2, 0), (3, 1), (4, 0), (5, 0), (6, 1), (7, 0), (8, 0), (9, 0), (10, 1), (11, 0), (12, 0), (13, 1), (14, 2), (15, 2), (16, 0)] rfl mixed (by kernel_rfl) (by kernel_rfl) (by kernel_rfl) (fun w1 hS1 hz1 => ?_)
 replace h := h.up hS1
 have hbd := h.bounds
 have hX : ∀ b ∈ bv :: (ob hv ++ ob sv), b ∉ [w.heap.size] := fun b hb hb' => by
  have := hbd b hb
  simp at hb'; omega
 obtain ⟨cbl, hcd, hsp⟩ : Blk w1 bv 154 [cv, hv, sv] ∧ SlV [w.heap.size] w1 cv code ∧ SlV [w.heap.size] w1 hv (shpS st) := ⟨h.blk, h.cod.ext (Stp.refl [] _) (by simp) (fun b hb => .inr (by simp at hb; omega)), h.shps.ext (Stp.refl [] _) (by simp) (fun b hb => .inr (by simp at hb; omega))⟩
 have nb : bv ∉ [w.heap.size] := hX bv (by simp)
 obtain ⟨u, hcell, hsu⟩ := hsp.sub hk1
 refine D ?_
 refine WD_read rfl trivial (fun w' hS' => PR_load1 rfl rfl (cell_on hsp hk1 hS' hcell)) rfl ?_
 refine D ?_
 refine WD_eff rfl trivial OE_allocE (fun _ _ h => h.2.2.mono (by simp)) rfl ?_
 rintro _ w2 ⟨rfl, hblk, hS2⟩
 rw [hz1] at hblk ⊢
 refine WD_eff0 rfl trivial (OE_storeA (us := Flat.enc code[i]) rfl rfl rfl rfl (Flat.one _) hblk rfl) (fun _ _ h => h.1) ?_
 rintro _ w3 ⟨hS3, hblk3⟩
 have hS13 : Stp [] w1 w3 := hS2.own hS3 (fun b hb => .inr (by simp at hb; omega))
 replace h := h.up hS13
 replace hS := hS1.trans hS13
 replace hcd := h.cod
 replace cbl := h.blk
 replace hsp := h.shps
 have hsn := h.seen.slv0
 replace hbd := h.bounds
 have hsu3 : SlV [w.heap.size] w3 u (shpS st)[i].l := hsu.ext ((hS2.mono (by simp)).trans hS3) (by simp) (fun _ h => .inl h)
 clear hblk hS1 hS13 hS2 hS3 hsu hcell
 refine D ?_
 refine W ?_
 refine CL rfl (evs1 rfl) rfl (effect_any (w.heap.size :: bv :: (ob hv ++ ob sv)) code[i] _ (fun b hb => by rcases List.mem_cons.1 hb with rfl | hb; exact hblk3.lt; exact hbd b hb)) ?_
 rintro _ w4 ⟨va, vb, vc, rfl, sa, sb, sc, hS4⟩
 have hs4 := hsu3.up hS4
 replace hblk3 := hblk3.up hS4
 replace h := h.up hS4
 replace hsn := hsn.up hS4
 replace hS := hS.trans hS4
 replace cbl := cbl.up hS4
 clear hS4 hsu3
 have hM : stepM st i code[i] = stepM st i code[i] := rfl
 conv at hM => rhs; unfold stepM nextM
 have hgd : st.getD i none = st[i] := by simp [List.getD, hist]
 have hsh : (shpS st)[i].l = (st[i]).getD [] := by simp [shpS]
 have hsk : (seenS st)[i] = (st[i]).isSome := by simp [seenS]
 rw [hgd] at hM
 have hlen16 : (shpS st)[i].l.length ≤ 16 := by
  rw [hsh]
  cases hst : st[i] with
  | none => simp
  | some s => exact h16 s (by rw [← hst]; exact List.getElem_mem hist)
 obtain ⟨el1, el2, el3⟩ := eff_len code[i]
 generalize effF code[i] = E at *
 obtain ⟨ta, al, gi, ok⟩ := E
 dsimp only at sa sb sc el1 el2 el3 hM
 generalize hsv : (shpS st)[i].l = s at *
 refine W ?_
 refine WL_cutQ (σ := Bool) (fun q => [(0, .pointer (some ⟨bv, 0, none⟩)), (1, .int .i64 (i : Int)), (4, .bool false), (5, .pointer (some ⟨w.heap.size, 0, none⟩)), (6, u), (9, vc), (11, .int .i64 ((s.length : Int) - (ta.length : Int))), (75, .bool q)])
  (fun q w' => Stp [] w4 w' ∧ q = ! (decide (st[i].isSome = true ∧ ok = true ∧ ta.length ≤ s.length ∧ (s.drop (s.length - ta.length) = ta ∨ al ≠ [] ∧ s.drop (s.length - ta.length) = al)))) ?_ ?_
 · cases ok with
   | false =>
     repeat' (first | refine W1 ?_ | (exfalso; omega) | (refine VG ?_ ?_ <;> intro hg) | (refine VC ?_ ?_ <;> intro hc))
     exact WQ_cut true ⟨rfl, rfl, rfl, rfl, rfl, rfl, rfl, rfl, trivial⟩ ⟨Stp.refl _ _, by simp⟩
   | true =>
     cases hst : st[i].isSome with
     | false =>
       rw [hst] at hsk
       repeat' (first | refine W1 ?_ | (exfalso; omega) | (refine VG ?_ ?_ <;> intro hg) | (refine VC ?_ ?_ <;> intro hc))
       · exact WQ_cut true ⟨rfl, rfl, rfl, rfl, rfl, rfl, rfl, rfl, trivial⟩ ⟨Stp.refl _ _, by simp⟩
       · exact WQ_cut true ⟨rfl, rfl, rfl, rfl, rfl, rfl, rfl, rfl, trivial⟩ ⟨Stp.refl _ _, by simp⟩
       · exact absurd (show (!(seenS st)[i]) = false by assumption) (by rw [hsk]; decide)
     | true =>
       rw [hst] at hsk
       by_cases hk : ta.length ≤ s.length
       case neg =>
        repeat' (first | refine W1 ?_ | (exfalso; omega) | (refine VG ?_ ?_ <;> intro hg) | (refine VC ?_ ?_ <;> intro hc))
        · exact absurd (show (!(seenS st)[i]) = true by assumption) (by rw [hsk]; decide)
        · exact WQ_cut true ⟨rfl, rfl, rfl, rfl, rfl, rfl, rfl, rfl, trivial⟩ ⟨Stp.refl _ _, by simp [hk]⟩
       have hkk : (s.length : Int) - (ta.length : Int) = ((s.length - ta.length : Nat) : Int) := by omega
       have sd : SlV [w.heap.size] w4 (slc u (s.length - ta.length) s.length 1) (s.drop (s.length - ta.length)) := by
        have := hs4.slc (l := s.length - ta.length) (r := s.length) (by omega) (by omega)
        rw [List.take_length] at this
        exact this
       repeat' (first | refine W1 ?_ | (exfalso; omega) | (refine VG ?_ ?_ <;> intro hg) | (refine VC ?_ ?_ <;> intro hc))
       · exact absurd (show (!(seenS st)[i]) = true by assumption) (by rw [hsk]; decide)
       refine WL_slice_l rfl hs4 rfl hkk (by omega) rfl ?_
       refine W ?_
       refine CL rfl (evs2 rfl rfl) rfl (EqualI_any _ _ _ _ _ (sd.wk (by simp)) (sa.wk (by simp))) ?_
       rintro _ w5 ⟨rfl, hS5⟩
       replace sb := sb.up hS5
       replace hs4 := hs4.up hS5
       replace sd := sd.up hS5
       repeat' (first | refine W1 ?_ | (exfalso; omega) | (refine VG ?_ ?_ <;> intro hg) | (refine VC ?_ ?_ <;> intro hc))
       · have h1 : ¬ s.drop (s.length - ta.length) = ta := by assumption
         have h2 : (al.length : Int) = 0 := by assumption
         have h3 : al = [] := List.length_eq_zero_iff.1 (by omega)
         exact WQ_cut true ⟨rfl, rfl, rfl, rfl, rfl, rfl, rfl, rfl, trivial⟩ ⟨hS5, by simp [h1, h3]⟩
       · have h1 : ¬ s.drop (s.length - ta.length) = ta := by assumption
         have h2 : ¬ (al.length : Int) = 0 := by assumption
         have h3 : al ≠ [] := fun h => h2 (by simp [h])
         refine WL_slice_l rfl hs4 rfl hkk (by omega) rfl ?_
         refine W ?_
         refine CL rfl (evs2 rfl rfl) rfl (EqualI_any _ _ _ _ _ (sd.wk (by simp)) (sb.wk (by simp))) ?_
         rintro _ w6 ⟨rfl, hS6⟩
         refine W ?_
         refine WQ_cut _ ⟨rfl, rfl, rfl, rfl, rfl, rfl, rfl, rfl, trivial⟩ ⟨hS5.trans hS6, ?_⟩
         by_cases h4 : s.drop (s.length - ta.length) = al <;> simp [h1, h3, h4, hk]
       · have h1 : s.drop (s.length - ta.length) = ta := Classical.not_not.1 (by assumption)
         exact WQ_cut false ⟨rfl, rfl, rfl, rfl, rfl, rfl, rfl, rfl, trivial⟩ ⟨hS5, by simp [h1, hk]⟩
 rintro q w5 ⟨hS5, hq⟩
 try dsimp only at hq ⊢
 replace hs4 := hs4.up hS5
 replace sc := sc.up hS5
 replace hblk3 := hblk3.up hS5
 replace h := h.up hS5
 replace cbl := cbl.up hS5
 replace hS := hS.trans hS5
 clear hS5
 by_cases hC : st[i].isSome = true ∧ ok = true ∧ ta.length ≤ s.length ∧ (s.drop (s.length - ta.length) = ta ∨ al ≠ [] ∧ s.drop (s.length - ta.length) = al)
 case neg =>
  obtain rfl : q = true := by rw [hq, decide_eq_false hC]; rfl
  have hnone : stepM st i code[i] = none := by
   rw [hM]
   cases hst : st[i] with
   | none => rfl
   | some s0 =>
     obtain rfl : s = s0 := by rw [hsh, hst]; rfl
     dsimp only
     rw [if_neg (fun h => hC ⟨by rw [hst]; rfl, h.1, h.2.1, h.2.2.1⟩)]
  refine W ?_
  refine WR ?_
  exact .mk ⟨hS.mono (by simp), by rw [hnone]; rfl, fun st' h => by rw [hnone] at h; cases h⟩
 obtain rfl : q = false := by rw [hq, decide_eq_true hC]; rfl
 obtain ⟨hst', hok, hk, hC4⟩ := hC
 have hst : st[i] = some s := by
  cases hst : st[i] with
  | none => rw [hst] at hst'; cases hst'
  | some s0 => rw [hsh, hst]; rfl
 rw [hst] at hM
 dsimp only at hM
 have hkk : (s.length : Int) - (ta.length : Int) = ((s.length - ta.length : Nat) : Int) := by omega
 have sk : SlV [w.heap.size] w5 (slc u 0 (s.length - ta.length) 1) (s.take (s.length - ta.length)) := by
  have := hs4.slc (l := 0) (r := s.length - ta.length) (by omega) (by omega)
  rw [List.drop_zero] at this
  exact this
 obtain ⟨p2, c2, hp2⟩ := sk.len
 obtain ⟨p3, c3, rfl⟩ := sc.len
 refine W ?_
 refine WL_slice_h rfl hs4 rfl hkk (by omega) rfl ?_
 rw [hp2] at sk ⊢
 refine W ?_
 refine WL_eff (OE_buildSlice (vs := [(0, .slice p2 (s.take (s.length - ta.length)).length c2), (1, .slice p3 gi.length c3)]) rfl (buildSL2 _ _ _ _ _ _)) rfl ?_
 rintro bl w6 hN
 have sbl : SlV [] w6 bl [(⟨s.take (s.length - ta.length)⟩ : Sl Int), ⟨gi⟩] := hN.slvS (X := []) (by simp) rfl rfl (fun i hi hi' => match i, hi with | 0, _ => sk.wk (by simp) | 1, _ => sc.wk (by simp)) (by simp [maxLen])
 have hT := NewSl.stp hN
 clear hN
 replace hs4 := hs4.up hT
 replace hblk3 := hblk3.up hT
 replace h := h.up hT
 replace cbl := cbl.up hT
 replace hS := hS.trans hT
 clear hT
 refine CL rfl (evs1 rfl) rfl (ConcatI_any _ _ _ sbl (by simp) (by simp; omega)) ?_
 rintro rv w7 hrow
 have hcat : [(⟨s.take (s.length - ta.length)⟩ : Sl Int), ⟨gi⟩].flatMap Sl.l = s.take (s.length - ta.length) ++ gi := by simp
 rw [hcat] at hrow
 have hS7 := hrow.2
 have sr := hrow.slv h.bounds
 replace hs4 := hs4.up hS7
 replace hblk3 := hblk3.up hS7
 replace h := h.up hS7
 replace cbl := cbl.up hS7
 replace hS := hS.trans hS7
 clear hS7 hrow
 by_cases h16n : (s.take (s.length - ta.length) ++ gi).length ≤ 16
 case neg =>
  have hnone : stepM st i code[i] = none := by
   rw [hM, if_neg (fun h => h16n h.2.2.2)]
  repeat' (first | refine W1 ?_ | (exfalso; omega) | (refine VG ?_ ?_ <;> intro hg) | (refine VC ?_ ?_ <;> intro hc))
  refine WR ?_
  exact .mk ⟨hS.mono (by simp), by rw [hnone]; rfl, fun st' h => by rw [hnone] at h; cases h⟩
 rw [if_pos ⟨hok, hk, hC4, h16n⟩] at hM
 dsimp only at hM
 generalize s.take (s.length - ta.length) ++ gi = nx at *
 have hcod := h.cod
 by_cases h24 : code[i].op = 24
 · rw [if_pos h24] at hM
   repeat' (first | refine W1 ?_ | (exfalso; omega) | (refine VG ?_ ?_ <;> intro hg) | (refine VC ?_ ?_ <;> intro hc))
   · refine WR ?_
     by_cases hl1 : s.length = 1
     · have hn : stepM st i code[i] = some st := by rw [hM, if_pos ⟨by omega, hl1⟩]
       exact .mk ⟨hS.mono (by simp), by rw [hn]; congr 1; exact decide_eq_true (by omega), fun st' h' => by rw [hn] at h'; cases h'; exact h⟩
     · have hn : stepM st i code[i] = none := by rw [hM, if_neg (fun h => hl1 h.2)]
       exact .mk ⟨hS.mono (by simp), by rw [hn]; congr 1; exact decide_eq_false (by omega), fun st' h' => by rw [hn] at h'; cases h'⟩
   · refine WR ?_
     have hn : stepM st i code[i] = none := by rw [hM, if_neg (fun h => by omega)]
     exact .mk ⟨hS.mono (by simp), by rw [hn]; rfl, fun st' h => by rw [hn] at h; cases h⟩
 rw [if_neg h24] at hM
 by_cases h13 : code[i].op = 13
 · rw [if_pos h13] at hM
   by_cases hgt : code[i].n > (i : Int)
   · rw [if_pos hgt] at hM
     repeat' (first | refine W1 ?_ | (exfalso; omega) | (refine VG ?_ ?_ <;> intro hg) | (refine VC ?_ ?_ <;> intro hc))
     refine CL rfl (evs3 rfl rfl rfl) rfl (reach_any bv base cv hv sv _ code st code[i].n nx _ h (by omega) sr) ?_
     rintro _ w8 ⟨hS8, rfl, hV⟩
     refine W ?_
     refine WR ?_
     rw [← hM] at hV
     exact .mk ⟨(hS.mono (by simp)).trans hS8, by rw [hM], hV⟩
   · rw [if_neg hgt] at hM
     repeat' (first | refine W1 ?_ | (exfalso; omega) | (refine VG ?_ ?_ <;> intro hg) | (refine VC ?_ ?_ <;> intro hc))
     refine WR ?_
     exact .mk ⟨hS.mono (by simp), by rw [hM]; rfl, fun st' h => by rw [hM] at h; cases h⟩
 rw [if_neg h13] at hM
 by_cases h14 : code[i].op = 14
 · rw [if_pos h14] at hM
   by_cases hgt : code[i].n > (i : Int)
   · rw [if_pos hgt] at hM
     repeat' (first | refine W1 ?_ | (exfalso; omega) | (refine VG ?_ ?_ <;> intro hg) | (refine VC ?_ ?_ <;> intro hc))
     refine CL rfl (evs3 rfl rfl rfl) rfl (reach_any bv base cv hv sv _ code st code[i].n nx _ h (by omega) sr) ?_
     rintro _ w8 ⟨hS8, rfl, hV⟩
     have sr8 := sr.ext (X' := bv :: (ob hv ++ ob sv)) hS8 (fun _ h => h) (fun _ h => .inl h)
     cases hr : reachM st code[i].n nx with
     | none =>
       rw [hr] at hM
       refine W ?_
       refine WR ?_
       exact .mk ⟨(hS.mono (by simp)).trans hS8, by rw [hM]; rfl, fun st' h => by rw [hM] at h; cases h⟩
     | some st1 =>
       rw [hr] at hM
       have h8 := hV st1 hr
       refine W ?_
       refine CL rfl (evs3 rfl rfl rfl) rfl (reach_any bv base cv hv sv _ code st1 ((i : Int) + 1) nx _ h8 (by omega) sr8) ?_
       rintro _ w9 ⟨hS9, rfl, hV9⟩
       refine W ?_
       refine WR ?_
       exact .mk ⟨((hS.mono (by simp)).trans hS8).trans hS9, by rw [hM]; rfl, fun st' h => hV9 st' (by rw [hM] at h; exact h)⟩
   · rw [if_neg hgt] at hM
     repeat' (first | refine W1 ?_ | (exfalso; omega) | (refine VG ?_ ?_ <;> intro hg) | (refine VC ?_ ?_ <;> intro hc))
     refine WR ?_
     exact .mk ⟨hS.mono (by simp), by rw [hM]; rfl, fun st' h => by rw [hM] at h; cases h⟩
 rw [if_neg h14] at hM
 repeat' (first | refine W1 ?_ | (exfalso; omega) | (refine VG ?_ ?_ <;> intro hg) | (refine VC ?_ ?_ <;> intro hc))
 refine CL rfl (evs3 rfl rfl rfl) rfl (reach_any bv base cv hv sv _ code st ((i : Int) + 1) nx _ h (by omega) sr) ?_
 rintro _ w8 ⟨hS8, rfl, hV⟩
 refine W ?_
 refine WR ?_
 rw [← hM] at hV
 exact .mk ⟨(hS.mono (by simp)).trans hS8, by rw [hM], hV⟩
theorem buildVf (p q r : Option Addr) (l m k c d f : Nat) (w : World) : (Instr.build 154 #[(0, .slice p l c), (1, .slice q m d), (2, .slice r k f)]).run Tryz.prog w = .ok (.agg #[.slice p l c, .slice q m d, .slice r k f]) w := by kernel_rfl
theorem step16 {st st' : List (Option Shp)} {i : Nat} {x : Ins} (h0 : ∀ s, some s ∈ st → s.length ≤ 16) (h : stepM st i x = some st') : ∀ s, some s ∈ st' → s.length ≤ 16 := by
 have hr : ∀ {st st' : List (Option Shp)} {t : Int} {nx : Shp}, (∀ s, some s ∈ st → s.length ≤ 16) → nx.length ≤ 16 → reachM st t nx = some st' → ∀ s, some s ∈ st' → s.length ≤ 16 := by
  intro st st' t nx hst hn h
  unfold reachM at h
  split at h
  · split at h
    · split at h
      · cases h; exact hst
      · cases h
    · cases h
      intro s hs
      rcases List.mem_or_eq_of_mem_set hs with h | h
      · exact hst s h
      · cases h; exact hn
  · cases h
 have hn : ∀ {s nx : Shp}, nextM x s = some nx → nx.length ≤ 16 := by
  intro s nx h
  unfold nextM at h
  dsimp only at h
  split at h
  · rename_i hc
    cases h; exact hc.2.2.2
  · cases h
 unfold stepM at h
 split at h
 · cases h
 · split at h
   · cases h
   · rename_i nx hn'
     have hnx := hn hn'
     split at h
     · split at h
       · cases h; exact h0
       · cases h
     split at h
     · split at h
       · exact hr h0 hnx h
       · cases h
     split at h
     · split at h
       · obtain ⟨s1, h1, h2⟩ := Option.bind_eq_some_iff.1 h
         exact hr (hr h0 hnx h1) hnx h2
       · cases h
     exact hr h0 hnx h
theorem runM_none {code : List Ins} {st0 : List (Option Shp)} {k : Nat} (h : runM code k st0 = none) : ∀ m, k ≤ m → runM code m st0 = none
 | 0, hm => by
   obtain rfl : k = 0 := by omega
   exact h
 | m + 1, hm => by
   by_cases hk : k = m + 1
   · subst hk; exact h
   · rw [runM, runM_none h m (by omega)]; rfl
theorem runM_len {code : List Ins} {st0 : List (Option Shp)} : ∀ {k : Nat} {st : List (Option Shp)}, runM code k st0 = some st → st.length = st0.length
 | 0, st, h => by cases h; rfl
 | k + 1, st, h => by
   obtain ⟨s1, h1, h2⟩ := Option.bind_eq_some_iff.1 h
   have e1 := runM_len h1
   have e2 : st.length = s1.length := by
    unfold stepM at h2
    split at h2
    · cases h2
    · split at h2
      · cases h2
      · split at h2
        · split at h2
          · cases h2; rfl
          · cases h2
        split at h2
        · split at h2
          · exact reachM_len h2
          · cases h2
        split at h2
        · split at h2
          · obtain ⟨s2, h3, h4⟩ := Option.bind_eq_some_iff.1 h2
            rw [reachM_len h4, reachM_len h3]
          · cases h2
        exact reachM_len h2
   omega
theorem step_last {st st' : List (Option Shp)} {i : Nat} {x : Ins} (hi : i + 1 = st.length) (h : stepM st i x = some st') : st' = st ∧ ∃ k, st.getD i none = some [k] := by
 unfold stepM at h
 cases hs : st.getD i none with
 | none => rw [hs] at h; cases h
 | some s =>
   rw [hs] at h
   dsimp only at h
   split at h
   · cases h
   · rename_i nx hn
     split at h
     · split at h
       · rename_i hc
         cases h
         obtain ⟨k, hk⟩ := List.length_eq_one_iff.1 hc.2
         exact ⟨rfl, k, by rw [hk]⟩
       · cases h
     split at h
     · split at h
       · rw [reach_none (by omega)] at h; cases h
       · cases h
     split at h
     · split at h
       · rw [reach_none (by omega)] at h; cases h
       · cases h
     rw [reach_none (by omega)] at h; cases h
theorem Verify_any (v : Value) (code : List Ins) (w : World) (hs : SlV [] w v code) :
 Calls Tryz.prog 48 #[v] w (Ret fun r w' => r = .tuple #[.int .i64 (verM code).1, .int .i64 (verM code).2] ∧ Stp [] w w') := by
 have hmax := hs.max
 obtain ⟨p, c, rfl, -⟩ := id hs
 refine calls_of_WC1 (n := 49) Tryz.func48 rfl rfl rfl ?_
 refine W ?_
 by_cases h0 : code.length = 0 ∨ code.length > 200
 · have hM : verM code = (0, 22) := if_pos h0
   repeat' (first | refine W1 ?_ | (exfalso; omega) | (refine VG ?_ ?_ <;> intro hg) | (refine VC ?_ ?_ <;> intro hc))
   all_goals
    refine WR ?_
    exact .mk ⟨by rw [hM], Stp.refl _ _⟩
 repeat' (first | refine W1 ?_ | (exfalso; omega) | (refine VG ?_ ?_ <;> intro hg) | (refine VC ?_ ?_ <;> intro hc))
 have hn0 : 0 < code.length := by omega
 have hn200 : code.length ≤ 200 := by omega
 refine WC_cutQ (σ := Nat × Value × Value) (fun q => [(0, .slice p code.length c), (4, .pointer (some ⟨q.1, 0, none⟩))]) (fun q w' => Vf w' q.1 w.heap.size (.slice p code.length c) q.2.1 q.2.2 code (List.replicate code.length none) ∧ w.heap.size ≤ q.1 ∧ Stp [] w w') ?_ ?_
 · refine WC_drawn 10 [] [] [(0, 0), (1, 0), (2, 0), (4, 0), (5, 0), (3, 9), (6, 2), (7, 0), (8, 2), (9, 0)] rfl mixed (by kernel_rfl) (by kernel_rfl) (by kernel_rfl) (fun w1 hS1 => ?_)
   have hz1 := hS1.size
   refine D ?_
   apply WD_two
   · rfl
   · refine WD1_eff rfl trivial (OE_makeSlice1 (α := Sl Int) (k := code.length) (a0 := ⟨[]⟩) rfl rfl (fun X w => ⟨_, rfl, nilSlv _ _⟩) rfl rfl (by simp [maxLen]; omega) (by omega)) (fun _ _ h => h.2) rfl ?_
     rintro hv w2 ⟨rh, hS2⟩
     refine D ?_
     refine WD_eff rfl trivial (OE_makeSlice1 (α := Bool) (k := code.length) (a0 := false) rfl rfl (fun X w => rfl) rfl rfl (by simp [maxLen]; omega) (by omega)) (fun _ _ h => h.2) rfl ?_
     rintro sv w3 ⟨rs, hS3⟩
     refine D ?_
     obtain ⟨ph, ch, hph⟩ : ∃ p c, hv = .slice p code.length c := by
      have := ((rh []).slv0).len
      simpa using this
     obtain ⟨ps, cs, hps⟩ : ∃ p c, sv = .slice p code.length c := by
      have := ((rs []).slv0).len
      simpa using this
     have hap : ∀ b ∈ ob hv, b ∉ ob sv := fun b h1 h2 => by
      have := (rh []).ob_le b h1
      have := (rs []).ob_le b h2
      omega
     subst hph hps
     refine WF_build rfl trivial (vs := [(0, .slice p code.length c), (1, .slice ph code.length ch), (2, .slice ps code.length cs)]) rfl (buildVf _ _ _ _ _ _ _ _ _) rfl ?_
     refine WD_eff rfl trivial (OE_box rfl) (fun _ _ h => h.choose_spec.2.2.2) rfl ?_
     rintro _ w4 ⟨bv, rfl, hbn, hblk, hS4⟩
     have hS := (hS1.trans hS2).trans (hS3.trans hS4)
     have hz2 := hS2.size
     have hz3 := hS3.size
     refine D ?_
     refine WQ_cut (bv, .slice ph code.length ch, .slice ps code.length cs) ⟨rfl, rfl, trivial⟩ ⟨?_, by omega, hS⟩
     have b1 : ∀ b ∈ ob (.slice ph code.length ch), w.heap.size ≤ b ∧ b < w3.heap.size := fun b h => by have := (rh []).ob_le b h; omega
     have b2 : ∀ b ∈ ob (.slice ps code.length cs), w.heap.size ≤ b ∧ b < w3.heap.size := fun b h => by have := (rs []).ob_le b h; omega
     have e1 : shpS (List.replicate code.length none) = List.replicate code.length ⟨[]⟩ := by simp [shpS]
     have e2 : seenS (List.replicate code.length none) = List.replicate code.length false := by simp [seenS]
     refine ⟨hblk, hs.ext hS (by simp) (fun b hb => .inr ?_), by rw [e1]; exact ((rh _).lower hS1.size).up (hS3.trans hS4), by rw [e2]; exact ((rs _).lower (Nat.le_trans hS1.size hS2.size)).up hS4, fun h => by have := b1 bv h; omega, fun h => by have := b2 bv h; omega, hS.size, hap, by simp⟩
     simp only [List.mem_cons, List.mem_append] at hb
     rcases hb with rfl | h | h
     · omega
     · exact (b1 b h).1
     · exact (b2 b h).1
   · refine WD1_eff rfl trivial (OE_makeSlice1 (α := Bool) (k := code.length) (a0 := false) rfl rfl (fun X w => rfl) rfl rfl (by simp [maxLen]; omega) (by omega)) (fun _ _ h => h.2) rfl ?_
     rintro sv w2 ⟨rs, hS2⟩
     refine WD_eff rfl trivial (OE_makeSlice1 (α := Sl Int) (k := code.length) (a0 := ⟨[]⟩) rfl rfl (fun X w => ⟨_, rfl, nilSlv _ _⟩) rfl rfl (by simp [maxLen]; omega) (by omega)) (fun _ _ h => h.2) rfl ?_
     rintro hv w3 ⟨rh, hS3⟩
     refine D ?_
     obtain ⟨ph, ch, hph⟩ : ∃ p c, hv = .slice p code.length c := by
      have := ((rh []).slv0).len
      simpa using this
     obtain ⟨ps, cs, hps⟩ : ∃ p c, sv = .slice p code.length c := by
      have := ((rs []).slv0).len
      simpa using this
     have hap : ∀ b ∈ ob hv, b ∉ ob sv := fun b h1 h2 => by
      have := (rh []).ob_le b h1
      have := (rs []).ob_le b h2
      omega
     subst hph hps
     refine WF_build rfl trivial (vs := [(0, .slice p code.length c), (1, .slice ph code.length ch), (2, .slice ps code.length cs)]) rfl (buildVf _ _ _ _ _ _ _ _ _) rfl ?_
     refine WD_eff rfl trivial (OE_box rfl) (fun _ _ h => h.choose_spec.2.2.2) rfl ?_
     rintro _ w4 ⟨bv, rfl, hbn, hblk, hS4⟩
     have hS := (hS1.trans hS2).trans (hS3.trans hS4)
     have hz2 := hS2.size
     have hz3 := hS3.size
     refine D ?_
     refine WQ_cut (bv, .slice ph code.length ch, .slice ps code.length cs) ⟨rfl, rfl, trivial⟩ ⟨?_, by omega, hS⟩
     have b1 : ∀ b ∈ ob (.slice ph code.length ch), w.heap.size ≤ b ∧ b < w3.heap.size := fun b h => by have := (rh []).ob_le b h; omega
     have b2 : ∀ b ∈ ob (.slice ps code.length cs), w.heap.size ≤ b ∧ b < w3.heap.size := fun b h => by have := (rs []).ob_le b h; omega
     have e1 : shpS (List.replicate code.length none) = List.replicate code.length ⟨[]⟩ := by simp [shpS]
     have e2 : seenS (List.replicate code.length none) = List.replicate code.length false := by simp [seenS]
     refine ⟨hblk, hs.ext hS (by simp) (fun b hb => .inr ?_), by rw [e1]; exact ((rh _).lower (Nat.le_trans hS1.size hS2.size)).up hS4, by rw [e2]; exact ((rs _).lower hS1.size).up (hS3.trans hS4), fun h => by have := b1 bv h; omega, fun h => by have := b2 bv h; omega, hS.size, hap, by simp⟩
     simp only [List.mem_cons, List.mem_append] at hb
     rcases hb with rfl | h | h
     · omega
     · exact (b1 b h).1
     · exact (b2 b h).1
 rintro ⟨bv, hv, sv⟩ w2 ⟨h, hbn, hS⟩
 dsimp only at h hbn ⊢
 have hblk := h.blk
 have hsn := h.seen.slv0
 have hl0 : (seenS (List.replicate code.length none)).length = code.length := by simp [seenS]
 have hk0 : 0 < (seenS (List.replicate code.length none)).length := by omega
 refine W ?_
 refine WL_eff0 (OE_storeElX (α := Bool) (y' := true) (u := .bool true) rfl rfl rfl rfl h.seen hk0) ?_
 rintro _ w3 ⟨rs3, hS3⟩
 have hS13 : Stp (bv :: (ob hv ++ ob sv)) w2 w3 := hS3.mono (fun b hb => by simp [hb])
 generalize hst0 : (some [] :: List.replicate (code.length - 1) none : List (Option Shp)) = st0 at *
 have hlen0 : st0.length = code.length := by rw [← hst0]; simp; omega
 obtain ⟨m, hm⟩ : ∃ m, code.length = m + 1 := ⟨code.length - 1, by omega⟩
 have e1 : shpS st0 = shpS (List.replicate code.length none) := by rw [← hst0, hm]; simp [shpS, List.replicate_succ]
 have e2 : seenS st0 = (seenS (List.replicate code.length none)).set 0 true := by rw [← hst0, hm]; simp [seenS, List.replicate_succ]
 have h3 : Vf w3 bv w.heap.size (.slice p code.length c) hv sv code st0 := by
  refine ⟨h.blk.ext hS3 h.ns, h.cod.ext hS13 (fun _ h => h) (fun _ h => .inl h), ?_, ?_, h.nh, h.ns, Nat.le_trans h.hi hS3.size, h.apart, hlen0⟩
  · rw [e1]
    exact h.shp.ext (X' := bv :: ob sv) hS3 (fun b hb => ⟨List.mem_cons_of_mem _ hb, fun hb' => h.apart b hb' hb⟩) (fun _ h => .inl h)
  · rw [e2]; exact rs3
 have hB : ∀ b ∈ bv :: (ob hv ++ ob sv), w.heap.size ≤ b := fun b hb => by
  simp only [List.mem_cons, List.mem_append] at hb
  rcases hb with rfl | hb | hb
  · exact hbn
  · exact (h.shp.ob_le b hb).1
  · exact (h.seen.ob_le b hb).1
 have hS' := hS.own hS13 (fun b hb => .inr (hB b hb))
 have h160 : ∀ s, some s ∈ st0 → s.length ≤ 16 := by
  intro s hs
  rw [← hst0] at hs
  simp at hs
  rw [hs]; simp
 have hverM : verM code = match runM code code.length st0 with
  | none => (0, 22)
  | some st => (((st.getD (code.length - 1) none).getD []).headD 0, 0) := by
  rw [← hst0]; exact if_neg h0
 clear hsn hblk h e1 e2 hS3 hS13 rs3 hS
 refine W ?_
 refine WC_loop (σ := Nat × List (Option Shp)) (fun q => [(0, .slice p code.length c), (4, .pointer (some ⟨bv, 0, none⟩)), (29, .int .i64 (code.length : Int)), (30, .int .i64 (q.1 : Int))])
  (fun q w' => q.1 ≤ code.length ∧ runM code q.1 st0 = some q.2 ∧ Vf w' bv w.heap.size (.slice p code.length c) hv sv code q.2 ∧ (∀ s, some s ∈ q.2 → s.length ≤ 16) ∧ Stp [] w w') (fun q => code.length - q.1) (0, st0) ⟨rfl, rfl, rfl, rfl, trivial⟩ ⟨Nat.zero_le _, rfl, h3, h160, hS'⟩ ?_
 rintro ⟨k, st⟩ w4 ⟨hk, hrun, h4, h16, hS4⟩
 try dsimp only at hk hrun h4 h16 ⊢
 by_cases hlt : k < code.length
 · repeat' (first | refine W1 ?_ | (exfalso; omega) | (refine VG ?_ ?_ <;> intro hg) | (refine VC ?_ ?_ <;> intro hc))
   refine CL rfl (evs2 rfl rfl) rfl (step_any bv w.heap.size _ hv sv code st k _ h4 hlt (by omega) h16) ?_
   rintro _ w5 ⟨hS5, rfl, hV⟩
   replace hS5 := hS4.own hS5 (fun b hb => .inr (hB b hb))
   have hcg : code.getD k ⟨0, 0⟩ = code[k] := by simp [List.getD, hlt]
   have hnext : runM code (k + 1) st0 = stepM st k code[k] := by rw [runM, hrun, Option.bind_some, hcg]
   cases hst : stepM st k code[k] with
   | none =>
     have hn : verM code = (0, 22) := by rw [hverM, runM_none (hnext.trans hst) code.length hlt]
     refine W ?_
     refine WR ?_
     exact .mk ⟨by rw [hn], hS5⟩
   | some st1 =>
     refine W ?_
     exact WQ_loop (k + 1, st1) ⟨rfl, rfl, rfl, rfl, trivial⟩ ⟨hlt, hnext.trans hst, hV st1 hst, step16 h16 hst, hS5⟩ (Nat.sub_lt_sub_left hlt (Nat.lt_succ_self k))
 · obtain rfl : k = code.length := by omega
   have hlst := runM_len hrun
   have hlast : ∃ a, st.getD (code.length - 1) none = some [a] := by
    rw [hm, runM] at hrun
    obtain ⟨s1, r1, r2⟩ := Option.bind_eq_some_iff.1 hrun
    have hl1 := runM_len r1
    obtain ⟨rfl, a, ha⟩ := step_last (by omega) r2
    exact ⟨a, by rw [hm]; exact ha⟩
   obtain ⟨a, ha⟩ := hlast
   have hve : verM code = (a, 0) := by rw [hverM, hrun]; dsimp only; rw [ha]; rfl
   have hblk := h4.blk
   have hshp := h4.shps
   have hshl : (shpS st).length = code.length := by simp [shpS]; omega
   have hkm : m < (shpS st).length := by omega
   have hkk : (code.length : Int) - 1 = (m : Int) := by omega
   obtain ⟨u, hcell, hsu⟩ := hshp.sub hkm
   have hul : (shpS st)[m].l = [a] := by
    have : st.getD m none = some [a] := by rw [← ha, hm]; rfl
    have h2 : st.getD m none = st[m]'(by omega) := by simp [List.getD, show m < st.length by omega]
    have h5 : (shpS st)[m] = ⟨(st[m]'(by omega)).getD []⟩ := by simp [shpS]
    rw [h5, ← h2, this]; rfl
   rw [hul] at hsu
   repeat' (first | refine W1 ?_ | (exfalso; omega) | (refine VG ?_ ?_ <;> intro hg) | (refine VC ?_ ?_ <;> intro hc))
   apply WL_pure (PR_load1 rfl rfl hcell) rfl
   have h01 : 0 < [a].length := by simp
   refine W ?_
   refine WR ?_
   exact .mk ⟨by rw [hve]; rfl, hS4⟩
def xA : Nd := .mk 7 0 [100, 97, 121, 115] [.mk 4 0 [100, 97, 121] [], .mk 1 3 [] []]
def xB : Nd := .mk 6 0 [97, 110, 100] [.mk 6 0 [62] [.mk 4 0 [101, 120, 116, 114, 97] [], .mk 1 2 [] []], .mk 2 1 [] []]
def xC : Nd := .mk 6 0 [45] [.mk 4 0 [97, 109, 111, 117, 110, 116] [], .mk 1 1 [] []]
theorem nA : nestN xA = 2 ∧ typeT xA = 3 ∧ sizeN xA = 3 ∧ exprF xA = [⟨4, 0⟩, ⟨1, 3⟩, ⟨15, 0⟩, ⟨24, 0⟩] := by
 refine ⟨?_, ?_, ?_, ?_⟩
 · simp only [xA, nestN_eq, Nd.kids, List.map_cons, List.map_nil]; rfl
 · simp only [xA, typeT_eq, Nd.kids, Nd.kind, Nd.num, Nd.word, List.map_cons, List.map_nil]; rfl
 · simp only [xA, sizeN_eq, Nd.kids, List.map_cons, List.map_nil]; rfl
 · simp only [xA, exprF, codeN_eq, Nd.kids, Nd.kind, Nd.num, Nd.word, List.map_cons, List.map_nil]; rfl
theorem nB : nestN xB = 3 ∧ typeT xB = 2 ∧ sizeN xB = 5 ∧ exprF xB = [⟨4, 2⟩, ⟨1, 2⟩, ⟨10, 0⟩, ⟨12, 0⟩, ⟨14, 7⟩, ⟨2, 1⟩, ⟨13, 8⟩, ⟨2, 0⟩, ⟨24, 0⟩] := by
 refine ⟨?_, ?_, ?_, ?_⟩
 · simp only [xB, nestN_eq, Nd.kids, List.map_cons, List.map_nil]; rfl
 · simp only [xB, typeT_eq, Nd.kids, Nd.kind, Nd.num, Nd.word, List.map_cons, List.map_nil]; rfl
 · simp only [xB, sizeN_eq, Nd.kids, List.map_cons, List.map_nil]; rfl
 · simp only [xB, exprF, codeN_eq, Nd.kids, Nd.kind, Nd.num, Nd.word, List.map_cons, List.map_nil]; rfl
theorem nC : nestN xC = 2 ∧ typeT xC = 1 ∧ sizeN xC = 3 ∧ exprF xC = [⟨4, 6⟩, ⟨1, 1⟩, ⟨6, 0⟩, ⟨24, 0⟩] := by
 refine ⟨?_, ?_, ?_, ?_⟩
 · simp only [xC, nestN_eq, Nd.kids, List.map_cons, List.map_nil]; rfl
 · simp only [xC, typeT_eq, Nd.kids, Nd.kind, Nd.num, Nd.word, List.map_cons, List.map_nil]; rfl
 · simp only [xC, sizeN_eq, Nd.kids, List.map_cons, List.map_nil]; rfl
 · simp only [xC, exprF, codeN_eq, Nd.kids, Nd.kind, Nd.num, Nd.word, List.map_cons, List.map_nil]; rfl
theorem buildIns1 (a0 : Ins) (w : World) : (Instr.buildSlice 29 1 #[(0, agg a0)]).run Tryz.prog w = .ok (.slice (some ⟨w.heap.size, 0, none⟩) 1 1) (w.alloc (.cells #[.int .i64 a0.op, .int .i64 a0.n] 105)) := by kernel_rfl
theorem buildIns3 (a0 a1 a2 : Ins) (w : World) : (Instr.buildSlice 29 3 #[(0, agg a0), (1, agg a1), (2, agg a2)]).run Tryz.prog w = .ok (.slice (some ⟨w.heap.size, 0, none⟩) 3 3) (w.alloc (.cells #[.int .i64 a0.op, .int .i64 a0.n, .int .i64 a1.op, .int .i64 a1.n, .int .i64 a2.op, .int .i64 a2.n] 105)) := by kernel_rfl
theorem buildIns4 (a0 a1 a2 a3 : Ins) (w : World) : (Instr.buildSlice 29 4 #[(0, agg a0), (1, agg a1), (2, agg a2), (3, agg a3)]).run Tryz.prog w = .ok (.slice (some ⟨w.heap.size, 0, none⟩) 4 4) (w.alloc (.cells #[.int .i64 a0.op, .int .i64 a0.n, .int .i64 a1.op, .int .i64 a1.n, .int .i64 a2.op, .int .i64 a2.n, .int .i64 a3.op, .int .i64 a3.n] 105)) := by kernel_rfl
theorem buildIns9 (a0 a1 a2 a3 a4 a5 a6 a7 a8 : Ins) (w : World) : (Instr.buildSlice 29 9 #[(0, agg a0), (1, agg a1), (2, agg a2), (3, agg a3), (4, agg a4), (5, agg a5), (6, agg a6), (7, agg a7), (8, agg a8)]).run Tryz.prog w = .ok (.slice (some ⟨w.heap.size, 0, none⟩) 9 9) (w.alloc (.cells #[.int .i64 a0.op, .int .i64 a0.n, .int .i64 a1.op, .int .i64 a1.n, .int .i64 a2.op, .int .i64 a2.n, .int .i64 a3.op, .int .i64 a3.n, .int .i64 a4.op, .int .i64 a4.n, .int .i64 a5.op, .int .i64 a5.n, .int .i64 a6.op, .int .i64 a6.n, .int .i64 a7.op, .int .i64 a7.n, .int .i64 a8.op, .int .i64 a8.n] 105)) := by kernel_rfl
theorem bad_any (v : Value) (code : List Ins) (w : World) (hs : SlV [] w v code) (hb : verM code = (0, 22)) : Calls Tryz.prog 49 #[v] w (Ret fun r w' => r = .bool true ∧ Stp [] w w') := by
 refine calls_of_WC1 (n := 16) Tryz.func49 rfl rfl rfl ?_
 refine W ?_
 refine CL rfl (evs1 rfl) rfl (Verify_any v code _ hs) ?_
 rintro _ w2 ⟨rfl, hS⟩
 rw [hb]
 repeat' (first | refine W1 ?_ | (exfalso; omega) | (refine VG ?_ ?_ <;> intro hg) | (refine VC ?_ ?_ <;> intro hc))
 refine WR ?_
 exact .mk ⟨rfl, hS⟩
theorem lives15_any (w : World) (hF : SlV [] w flds fieldNames) : Calls Tryz.prog 15 #[] w (Ret fun r w' => r = .bool true ∧ Stp [] w w') := by
 obtain ⟨na1, na2, na3, na4⟩ := nA
 obtain ⟨nb1, nb2, nb3, nb4⟩ := nB
 obtain ⟨nc1, nc2, nc3, nc4⟩ := nC
 have ea : errX xA = 0 := by rw [errX, if_pos (by omega), if_neg (by omega), if_neg (by rw [na4]; decide)]
 have eb : errX xB = 0 := by rw [errX, if_pos (by omega), if_neg (by omega), if_neg (by rw [nb4]; decide)]
 have ec : errX xC = 0 := by rw [errX, if_pos (by omega), if_neg (by omega), if_neg (by rw [nc4]; decide)]
 refine calls_of_WC0 (n := 123) Tryz.func15 rfl rfl ?_
 refine W ?_
 refine CL rfl (evs1 rfl) rfl (field15_any [100, 97, 121] _) ?_
 rintro r1 w1 ⟨h1, hS1⟩
 refine W ?_
 refine CL rfl (evs1 rfl) rfl (number15_any 3 _) ?_
 rintro r2 w2 ⟨h2, hS2⟩
 replace h1 := (h1 []).up hS2
 replace h2 := h2 []
 replace hS1 := hS1.trans hS2
 clear hS2
 obtain ⟨k1, rfl, s1⟩ := h1
 obtain ⟨k2, rfl, s2⟩ := h2
 obtain ⟨p1, c1, rfl, -⟩ := id s1
 obtain ⟨p2, c2, rfl, -⟩ := id s2
 refine WL_eff (OE_buildSlice (vs := [(0, .agg #[.int .i64 4, .int .i64 0, str [100, 97, 121], .slice p1 0 c1]), (1, .agg #[.int .i64 1, .int .i64 3, str [], .slice p2 0 c2])]) rfl (buildSN2 _ _ _ _ _ _ _ _ _ _ _ _)) rfl ?_
 rintro bv w3 hN
 have hbv : SlV [] w3 bv [Nd.mk 4 0 [100, 97, 121] [], Nd.mk 1 3 [] []] := hN.slvG (X := []) (css := [ndC (Nd.mk 4 0 [100, 97, 121] []) _, ndC (Nd.mk 1 3 [] []) _]) (by simp) rfl rfl rfl (reps2 (y0 := .mk 4 0 [100, 97, 121] []) (y1 := .mk 1 3 [] []) s1 s2) (by simp [maxLen])
 have hT := NewSl.stp hN
 clear hN
 replace hS1 := hS1.trans hT
 obtain ⟨p, c, rfl, -⟩ := id hbv
 apply WL_build (vs := [(0, .int .i64 7), (2, str [100, 97, 121, 115]), (3, .slice p 2 c)]) rfl (buildN023 _ _ _ _ _) rfl
 refine CL rfl (evs1 rfl) rfl (Expression_any _ xA _ (by omega) ⟨_, rfl, hbv⟩ (hF.up hS1)) ?_
 rintro _ w4 ⟨va, rfl, ha, hS4⟩
 rw [ea]
 replace ha := ha [] (by simp)
 rw [ea, if_pos rfl, na4] at ha
 replace hS1 := hS1.trans hS4
 clear hS4
 refine W ?_
 refine CL rfl (evs1 rfl) rfl (field15_any [101, 120, 116, 114, 97] _) ?_
 rintro q1 w5 ⟨h1, hS5⟩
 refine W ?_
 refine CL rfl (evs1 rfl) rfl (number15_any 2 _) ?_
 rintro q2 w6 ⟨h2, hS6⟩
 refine W ?_
 refine CL rfl (evs3 rfl rfl rfl) rfl (binary15_any [] [62] _ _ _ _ _ (by simp) ((h1 []).up hS6) (h2 [])) ?_
 rintro q3 w7 ⟨h3, hS7⟩
 refine W ?_
 apply WL_build (vs := [(0, .int .i64 2), (1, .int .i64 1)]) rfl (buildN01 _ _) rfl
 refine CL rfl (evs3 rfl rfl rfl) rfl (binary15_any [] [97, 110, 100] _ _ _ (.mk 2 1 [] []) _ (by simp) h3 ⟨.slice none 0 0, rfl, nilSlv _ _⟩) ?_
 rintro q4 w8 ⟨h4, hS8⟩
 have hS := (((hS1.trans hS5).trans hS6).trans hS7).trans hS8
 replace ha := (((ha.up hS5).up hS6).up hS7).up hS8
 clear hS1 hS5 hS6 hS7 hS8 h1 h2 h3
 refine W ?_
 refine CL rfl (evs1 rfl) rfl (Expression_any _ xB _ (by omega) h4 (hF.up hS)) ?_
 rintro _ w9 ⟨vb, rfl, hb, hS9⟩
 rw [eb]
 replace hb := hb [] (by simp)
 rw [eb, if_pos rfl, nb4] at hb
 replace ha := ha.up hS9
 replace hS := hS.trans hS9
 clear hS9
 refine W ?_
 refine CL rfl (evs1 rfl) rfl (field15_any [97, 109, 111, 117, 110, 116] _) ?_
 rintro q1 w5 ⟨h1, hS5⟩
 refine W ?_
 refine CL rfl (evs1 rfl) rfl (number15_any 1 _) ?_
 rintro q2 w6 ⟨h2, hS6⟩
 refine W ?_
 refine CL rfl (evs3 rfl rfl rfl) rfl (binary15_any [] [45] _ _ _ _ _ (by simp) ((h1 []).up hS6) (h2 [])) ?_
 rintro q3 w7 ⟨h3, hS7⟩
 have hSS := (hS5.trans hS6).trans hS7
 replace ha := ha.up hSS
 replace hb := hb.up hSS
 replace hS := hS.trans hSS
 clear hSS hS5 hS6 hS7 h1 h2
 refine W ?_
 refine CL rfl (evs1 rfl) rfl (Expression_any _ xC _ (by omega) h3 (hF.up hS)) ?_
 rintro _ w9 ⟨vc, rfl, hc, hS9⟩
 rw [ec]
 replace hc := hc [] (by simp)
 rw [ec, if_pos rfl, nc4] at hc
 replace ha := ha.up hS9
 replace hb := hb.up hS9
 replace hS := hS.trans hS9
 clear hS9
 refine W ?_
 refine CL rfl (evs1 rfl) rfl (Verify_any _ _ _ ha) ?_
 rintro _ w10 ⟨rfl, hS10⟩
 replace ha := ha.up hS10
 replace hb := hb.up hS10
 replace hc := hc.up hS10
 replace hS := hS.trans hS10
 clear hS10
 rw [show verM [⟨4, 0⟩, ⟨1, 3⟩, ⟨15, 0⟩, ⟨24, 0⟩] = (3, 0) by decide]
 repeat' (first | refine W1 ?_ | (exfalso; omega) | (refine VG ?_ ?_ <;> intro hg) | (refine VC ?_ ?_ <;> intro hc))
 apply WL_build (vs := [(0, .int .i64 4), (1, .int .i64 2)]) rfl (buildI _ _) rfl
 refine W ?_
 apply WL_build (vs := [(0, .int .i64 1), (1, .int .i64 2)]) rfl (buildI _ _) rfl
 refine W ?_
 apply WL_build (vs := [(0, .int .i64 10)]) rfl (buildI0 _) rfl
 refine W ?_
 apply WL_build (vs := [(0, .int .i64 12)]) rfl (buildI0 _) rfl
 refine W ?_
 apply WL_build (vs := [(0, .int .i64 14), (1, .int .i64 7)]) rfl (buildI _ _) rfl
 refine W ?_
 apply WL_build (vs := [(0, .int .i64 2), (1, .int .i64 1)]) rfl (buildI _ _) rfl
 refine W ?_
 apply WL_build (vs := [(0, .int .i64 13), (1, .int .i64 8)]) rfl (buildI _ _) rfl
 refine W ?_
 apply WL_build (vs := [(0, .int .i64 2)]) rfl (buildI0 _) rfl
 refine W ?_
 apply WL_build (vs := [(0, .int .i64 24)]) rfl (buildI0 _) rfl
 refine W ?_
 refine WL_eff (OE_buildSlice (vs := [(0, agg (Ins.mk 4 2)), (1, agg (Ins.mk 1 2)), (2, agg (Ins.mk 10 0)), (3, agg (Ins.mk 12 0)), (4, agg (Ins.mk 14 7)), (5, agg (Ins.mk 2 1)), (6, agg (Ins.mk 13 8)), (7, agg (Ins.mk 2 0)), (8, agg (Ins.mk 24 0))]) rfl (buildIns9 _ _ _ _ _ _ _ _ _ )) rfl ?_
 rintro want w11 hN
 have s_want : SlV [] w11 want ([(Ins.mk 4 2), (Ins.mk 1 2), (Ins.mk 10 0), (Ins.mk 12 0), (Ins.mk 14 7), (Ins.mk 2 1), (Ins.mk 13 8), (Ins.mk 2 0), (Ins.mk 24 0)] : List Ins) := hN.slv (by simp) rfl rfl (by simp [maxLen])
 have hT := NewSl.stp hN
 clear hN
 replace ha := ha.up hT
 replace hb := hb.up hT
 replace hc := hc.up hT
 replace hS := hS.trans hT
 clear hT
 refine W ?_
 apply WL_build (vs := [(0, .int .i64 4)]) rfl (buildI0 _) rfl
 refine W ?_
 apply WL_build (vs := [(0, .int .i64 1), (1, .int .i64 3)]) rfl (buildI _ _) rfl
 refine W ?_
 apply WL_build (vs := [(0, .int .i64 15)]) rfl (buildI0 _) rfl
 refine W ?_
 apply WL_build (vs := [(0, .int .i64 24)]) rfl (buildI0 _) rfl
 refine W ?_
 refine WL_eff (OE_buildSlice (vs := [(0, agg (Ins.mk 4 0)), (1, agg (Ins.mk 1 3)), (2, agg (Ins.mk 15 0)), (3, agg (Ins.mk 24 0))]) rfl (buildIns4 _ _ _ _ )) rfl ?_
 rintro wa w12 hN
 have s_wa : SlV [] w12 wa ([(Ins.mk 4 0), (Ins.mk 1 3), (Ins.mk 15 0), (Ins.mk 24 0)] : List Ins) := hN.slv (by simp) rfl rfl (by simp [maxLen])
 have hT := NewSl.stp hN
 clear hN
 replace ha := ha.up hT
 replace hb := hb.up hT
 replace hc := hc.up hT
 replace s_want := s_want.up hT
 replace hS := hS.trans hT
 clear hT
 refine W ?_
 refine CL rfl (evs2 rfl rfl) rfl (SameCode_any _ _ _ _ _ ha s_wa) ?_
 rintro _ w13 ⟨rfl, hT⟩
 replace hb := hb.up hT
 replace hc := hc.up hT
 replace s_want := s_want.up hT
 replace hS := hS.trans hT
 clear hT
 repeat' (first | refine W1 ?_ | (exfalso; omega) | (refine VG ?_ ?_ <;> intro hg) | (refine VC ?_ ?_ <;> intro hc))
 refine CL rfl (evs2 rfl rfl) rfl (SameCode_any _ _ _ _ _ hb s_want) ?_
 rintro _ w14 ⟨rfl, hT⟩
 replace hc := hc.up hT
 replace hS := hS.trans hT
 clear hT
 repeat' (first | refine W1 ?_ | (exfalso; omega) | (refine VG ?_ ?_ <;> intro hg) | (refine VC ?_ ?_ <;> intro hc))
 apply WL_build (vs := [(0, .int .i64 4), (1, .int .i64 6)]) rfl (buildI _ _) rfl
 refine W ?_
 apply WL_build (vs := [(0, .int .i64 1), (1, .int .i64 1)]) rfl (buildI _ _) rfl
 refine W ?_
 apply WL_build (vs := [(0, .int .i64 6)]) rfl (buildI0 _) rfl
 refine W ?_
 apply WL_build (vs := [(0, .int .i64 24)]) rfl (buildI0 _) rfl
 refine W ?_
 refine WL_eff (OE_buildSlice (vs := [(0, agg (Ins.mk 4 6)), (1, agg (Ins.mk 1 1)), (2, agg (Ins.mk 6 0)), (3, agg (Ins.mk 24 0))]) rfl (buildIns4 _ _ _ _ )) rfl ?_
 rintro wc w15 hN
 have s_wc : SlV [] w15 wc ([(Ins.mk 4 6), (Ins.mk 1 1), (Ins.mk 6 0), (Ins.mk 24 0)] : List Ins) := hN.slv (by simp) rfl rfl (by simp [maxLen])
 have hT := NewSl.stp hN
 clear hN
 replace hc := hc.up hT
 replace hS := hS.trans hT
 clear hT
 refine W ?_
 refine CL rfl (evs2 rfl rfl) rfl (SameCode_any _ _ _ _ _ hc s_wc) ?_
 rintro _ w16 ⟨rfl, hT⟩
 replace hS := hS.trans hT
 clear hT
 repeat' (first | refine W1 ?_ | (exfalso; omega) | (refine VG ?_ ?_ <;> intro hg) | (refine VC ?_ ?_ <;> intro hc))
 apply WL_build (vs := [(0, .int .i64 1), (1, .int .i64 1)]) rfl (buildI _ _) rfl
 refine WL_eff OE_alloc rfl ?_
 rintro _ w17 ⟨b10, rfl, hb10, e10, hT⟩
 have q10 := hb10
 refine WL_eff0 (OE_storeA (us := Flat.enc (Ins.mk 1 1)) rfl rfl rfl rfl (Flat.one _) e10 rfl) ?_
 rintro _ w18 ⟨hT2, e10'⟩
 replace hS := hS.trans (hT.own hT2 (fun b hb => .inr (by simp at hb; omega)))
 clear hT hT2 e10
 refine W ?_
 apply WL_build (vs := [(0, .int .i64 24)]) rfl (buildI0 _) rfl
 refine WL_eff OE_alloc rfl ?_
 rintro _ w19 ⟨b11, rfl, hb11, e11, hT⟩
 have l10 := e10'.lt
 replace e10' := e10'.up hT
 refine WL_eff0 (OE_storeA (us := Flat.enc (Ins.mk 24 0)) rfl rfl rfl rfl (Flat.one _) e11 rfl) ?_
 rintro _ w20 ⟨hT2, e11'⟩
 replace e10' := e10'.ext hT2 (by simp; omega)
 replace hS := hS.trans (hT.own hT2 (fun b hb => .inr (by simp at hb; omega)))
 clear hT hT2 e11
 refine W ?_
 refine CL rfl (evs1 rfl) rfl (bad_any _ [] _ (nilSlv _ _) (by decide)) ?_
 rintro _ w21 ⟨rfl, hT⟩
 replace e10' := e10'.up hT
 replace e11' := e11'.up hT
 replace hS := hS.trans hT
 clear hT
 refine W ?_
 refine WL_eff (OE_buildSlice (vs := [(0, agg (Ins.mk 24 0))]) rfl (buildIns1 _ )) rfl ?_
 rintro x1 w22 hN
 have s_x1 : SlV [] w22 x1 ([(Ins.mk 24 0)] : List Ins) := hN.slv (by simp) rfl rfl (by simp [maxLen])
 have hT := NewSl.stp hN
 clear hN
 replace e10' := e10'.up hT
 replace e11' := e11'.up hT
 replace hS := hS.trans hT
 clear hT
 refine W ?_
 refine CL rfl (evs1 rfl) rfl (bad_any _ _ _ s_x1 (by decide)) ?_
 rintro _ w23 ⟨rfl, hT⟩
 replace e10' := e10'.up hT
 replace e11' := e11'.up hT
 replace hS := hS.trans hT
 clear hT
 refine W ?_
 apply WL_build (vs := [(0, .int .i64 1), (1, .int .i64 2)]) rfl (buildI _ _) rfl
 refine W ?_
 refine WL_eff (OE_buildSlice (vs := [(0, agg (Ins.mk 1 1)), (1, agg (Ins.mk 1 2)), (2, agg (Ins.mk 24 0))]) rfl (buildIns3 _ _ _ )) rfl ?_
 rintro x2 w24 hN
 have s_x2 : SlV [] w24 x2 ([(Ins.mk 1 1), (Ins.mk 1 2), (Ins.mk 24 0)] : List Ins) := hN.slv (by simp) rfl rfl (by simp [maxLen])
 have hT := NewSl.stp hN
 clear hN
 replace e10' := e10'.up hT
 replace e11' := e11'.up hT
 replace hS := hS.trans hT
 clear hT
 refine W ?_
 refine CL rfl (evs1 rfl) rfl (bad_any _ _ _ s_x2 (by decide)) ?_
 rintro _ w25 ⟨rfl, hT⟩
 replace e10' := e10'.up hT
 replace e11' := e11'.up hT
 replace hS := hS.trans hT
 clear hT
 refine W ?_
 apply WL_build (vs := [(0, .int .i64 2), (1, .int .i64 1)]) rfl (buildI _ _) rfl
 refine W ?_
 apply WL_build (vs := [(0, .int .i64 14), (1, .int .i64 1)]) rfl (buildI _ _) rfl
 refine W ?_
 refine WL_eff (OE_buildSlice (vs := [(0, agg (Ins.mk 2 1)), (1, agg (Ins.mk 14 1)), (2, agg (Ins.mk 24 0))]) rfl (buildIns3 _ _ _ )) rfl ?_
 rintro x3 w26 hN
 have s_x3 : SlV [] w26 x3 ([(Ins.mk 2 1), (Ins.mk 14 1), (Ins.mk 24 0)] : List Ins) := hN.slv (by simp) rfl rfl (by simp [maxLen])
 have hT := NewSl.stp hN
 clear hN
 replace e10' := e10'.up hT
 replace e11' := e11'.up hT
 replace hS := hS.trans hT
 clear hT
 refine W ?_
 refine CL rfl (evs1 rfl) rfl (bad_any _ _ _ s_x3 (by decide)) ?_
 rintro _ w27 ⟨rfl, hT⟩
 replace e10' := e10'.up hT
 replace e11' := e11'.up hT
 replace hS := hS.trans hT
 clear hT
 refine W ?_
 apply WL_build (vs := [(0, .int .i64 13), (1, .int .i64 3)]) rfl (buildI _ _) rfl
 refine W ?_
 apply WL_build (vs := [(0, .int .i64 8)]) rfl (buildI0 _) rfl
 refine W ?_
 refine WL_eff (OE_buildSlice (vs := [(0, agg (Ins.mk 1 1)), (1, agg (Ins.mk 13 3)), (2, agg (Ins.mk 8 0)), (3, agg (Ins.mk 24 0))]) rfl (buildIns4 _ _ _ _ )) rfl ?_
 rintro x4 w28 hN
 have s_x4 : SlV [] w28 x4 ([(Ins.mk 1 1), (Ins.mk 13 3), (Ins.mk 8 0), (Ins.mk 24 0)] : List Ins) := hN.slv (by simp) rfl rfl (by simp [maxLen])
 have hT := NewSl.stp hN
 clear hN
 replace e10' := e10'.up hT
 replace e11' := e11'.up hT
 replace hS := hS.trans hT
 clear hT
 refine W ?_
 refine CL rfl (evs1 rfl) rfl (bad_any _ _ _ s_x4 (by decide)) ?_
 rintro _ w29 ⟨rfl, hT⟩
 replace e10' := e10'.up hT
 replace e11' := e11'.up hT
 replace hS := hS.trans hT
 clear hT
 refine W ?_
 refine WR ?_
 exact .mk ⟨rfl, hS⟩
open Go Go.Eng Go.RowKit Go.Proofs Go.ChangeShapes Go.WideShapes Go.Deep
theorem law_own : ownKnob Tryz.prog.godebug = none := by kernel_rfl
theorem law_laid : laidOutB Tryz.prog = true := by kernel_rfl
section
variable {H : Type} {enc : TypeId × Value → H} {w : World} {base : Nat} {spare : Nat → Bool} {held : Bool}
set_option maxRecDepth 100000 in
theorem ints_read {r : Reach} {b0 : Nat} {v : Value} {d : DataW H} {p : List MemPlace} (hv : Value.okWide Tryz.prog w r b0 22 v) (h : DataW.Trod enc Tryz.prog w base spare held 22 v d p) :
 ∃ l : List Int, SlV [] w v l ∧ (∀ x ∈ l, I64 x) ∧ dlen d = l.length := by
 obtain ⟨fuel, h⟩ := h
 obtain ⟨u, l, hu, hs, hok, hln⟩ := slv_ints Tryz.underlying22 (by kernel_rfl) Tryz.underlying3 h
 obtain ⟨a, m, c, rfl⟩ := okWide_slice Tryz.underlying22 hv
 have hu' : Value.slice a m c = u := by simpa [Value.cells] using hu
 subst hu'
 exact ⟨l, hs, hok, hln⟩
end
end Go.Proofs.YtgpibcgebpgmiaaGreatDoor
namespace Go.Eng
open Go Go.RowKit Go.Proofs Go.ChangeShapes Go.WideShapes Go.Deep
section
variable {H : Type} {enc : TypeId × Value → H} {P : Program} {w : World} {base : Nat} {spare : Nat → Bool} {held : Bool}
end
end Go.Eng
namespace Go.Proofs.YtgpibcgebpgmiaaGreatDoor
open Go Go.Eng Go.RowKit Go.Proofs Go.ChangeShapes Go.WideShapes Go.Deep
section
variable {H : Type} {enc : TypeId × Value → H} {w : World} {base : Nat} {spare : Nat → Bool} {held : Bool}
theorem k3 : Tryz.prog.cellsOf 3 = 1 := by kernel_rfl
theorem k9 : Tryz.prog.cellsOf 9 = 1 := by kernel_rfl
end
theorem SameR_any (va vb : Value) (q : Cr) (w : World) (ha : CrV [] w va q) (hb : CrV [] w vb q) :
 Calls Tryz.prog 10 #[va, vb] w (Ret fun r w' => r = .bool true ∧ Stp [] w w') := by
 obtain ⟨ka, da, rfl, ha1, ha2⟩ := ha
 obtain ⟨kb, db, rfl, hb1, hb2⟩ := hb
 refine calls_of_WC2 (n := 52) Tryz.func10 rfl rfl rfl ?_
 refine W ?_
 refine WL_eff (OE_box rfl) rfl ?_
 rintro _ w1 ⟨b1, rfl, hb1', e1, hS⟩
 replace e1 : Blk w1 b1 31 (crC q ka da) := e1
 refine W ?_
 refine WL_eff (OE_box rfl) rfl ?_
 rintro _ w2 ⟨b2, rfl, hb2', e2, hT⟩
 replace e2 : Blk w2 b2 31 (crC q kb db) := e2
 replace e1 := e1.up hT
 replace hS := hS.trans hT
 replace ha1 := ha1.up hS
 replace ha2 := ha2.up hS
 replace hb1 := hb1.up hS
 replace hb2 := hb2.up hS
 clear hT hb1' hb2'
 repeat' (first | refine W1 ?_ | (exfalso; omega) | (refine VG ?_ ?_ <;> intro hg) | (refine VC ?_ ?_ <;> intro hc))
 all_goals try (exact absurd rfl (by assumption))
 refine CL rfl (evs2 rfl rfl) rfl (SameCode_any _ _ q.cnd q.cnd _ ha1 hb1) ?_
 rintro _ w3 ⟨rfl, hT⟩
 replace e1 := e1.up hT
 replace e2 := e2.up hT
 replace hS := hS.trans hT
 replace ha2 := ha2.up hT
 replace hb2 := hb2.up hT
 clear hT
 rw [decide_eq_true (rfl : q.cnd = q.cnd)]
 repeat' (first | refine W1 ?_ | (exfalso; omega) | (refine VG ?_ ?_ <;> intro hg) | (refine VC ?_ ?_ <;> intro hc))
 all_goals try (exact absurd rfl (by assumption))
 refine CL rfl (evs2 rfl rfl) rfl (SameCode_any _ _ q.due q.due _ ha2 hb2) ?_
 rintro _ w3 ⟨rfl, hT⟩
 replace e1 := e1.up hT
 replace e2 := e2.up hT
 replace hS := hS.trans hT
 clear hT
 rw [decide_eq_true (rfl : q.due = q.due)]
 repeat' (first | refine W1 ?_ | (exfalso; omega) | (refine VG ?_ ?_ <;> intro hg) | (refine VC ?_ ?_ <;> intro hc))
 all_goals try (exact absurd rfl (by assumption))
 refine WR ?_
 exact .mk ⟨by simp, hS⟩
theorem field_spec (s : Str) (y : Int) : ((fieldF s).2.2 = true ∧ y = (fieldF s).1) ↔ ∃ i, i < 7 ∧ s = fieldNames.getD i [] ∧ y = (i : Int) := by
 by_cases h0 : s = [100, 97, 121]
 · subst h0
   have e : fieldF [100, 97, 121] = (0, 3, true) := by decide +kernel
   have u : ∀ i, i < 7 → [100, 97, 121] = fieldNames.getD i [] → i = 0 := by decide +kernel
   rw [e]
   constructor
   · rintro ⟨-, rfl⟩; exact ⟨0, by decide, by decide +kernel, rfl⟩
   · rintro ⟨i, hi, he, rfl⟩; rw [u i hi he]; exact ⟨rfl, rfl⟩
 by_cases h1 : s = [115, 101, 114, 118, 101, 100]
 · subst h1
   have e : fieldF [115, 101, 114, 118, 101, 100] = (1, 3, true) := by decide +kernel
   have u : ∀ i, i < 7 → [115, 101, 114, 118, 101, 100] = fieldNames.getD i [] → i = 1 := by decide +kernel
   rw [e]
   constructor
   · rintro ⟨-, rfl⟩; exact ⟨1, by decide, by decide +kernel, rfl⟩
   · rintro ⟨i, hi, he, rfl⟩; rw [u i hi he]; exact ⟨rfl, rfl⟩
 by_cases h2 : s = [101, 120, 116, 114, 97]
 · subst h2
   have e : fieldF [101, 120, 116, 114, 97] = (2, 1, true) := by decide +kernel
   have u : ∀ i, i < 7 → [101, 120, 116, 114, 97] = fieldNames.getD i [] → i = 2 := by decide +kernel
   rw [e]
   constructor
   · rintro ⟨-, rfl⟩; exact ⟨2, by decide, by decide +kernel, rfl⟩
   · rintro ⟨i, hi, he, rfl⟩; rw [u i hi he]; exact ⟨rfl, rfl⟩
 by_cases h3 : s = [98, 121]
 · subst h3
   have e : fieldF [98, 121] = (3, 1, true) := by decide +kernel
   have u : ∀ i, i < 7 → [98, 121] = fieldNames.getD i [] → i = 3 := by decide +kernel
   rw [e]
   constructor
   · rintro ⟨-, rfl⟩; exact ⟨3, by decide, by decide +kernel, rfl⟩
   · rintro ⟨i, hi, he, rfl⟩; rw [u i hi he]; exact ⟨rfl, rfl⟩
 by_cases h4 : s = [116, 111]
 · subst h4
   have e : fieldF [116, 111] = (4, 1, true) := by decide +kernel
   have u : ∀ i, i < 7 → [116, 111] = fieldNames.getD i [] → i = 4 := by decide +kernel
   rw [e]
   constructor
   · rintro ⟨-, rfl⟩; exact ⟨4, by decide, by decide +kernel, rfl⟩
   · rintro ⟨i, hi, he, rfl⟩; rw [u i hi he]; exact ⟨rfl, rfl⟩
 by_cases h5 : s = [99, 111, 117, 114, 116]
 · subst h5
   have e : fieldF [99, 111, 117, 114, 116] = (5, 1, true) := by decide +kernel
   have u : ∀ i, i < 7 → [99, 111, 117, 114, 116] = fieldNames.getD i [] → i = 5 := by decide +kernel
   rw [e]
   constructor
   · rintro ⟨-, rfl⟩; exact ⟨5, by decide, by decide +kernel, rfl⟩
   · rintro ⟨i, hi, he, rfl⟩; rw [u i hi he]; exact ⟨rfl, rfl⟩
 by_cases h6 : s = [97, 109, 111, 117, 110, 116]
 · subst h6
   have e : fieldF [97, 109, 111, 117, 110, 116] = (6, 1, true) := by decide +kernel
   have u : ∀ i, i < 7 → [97, 109, 111, 117, 110, 116] = fieldNames.getD i [] → i = 6 := by decide +kernel
   rw [e]
   constructor
   · rintro ⟨-, rfl⟩; exact ⟨6, by decide, by decide +kernel, rfl⟩
   · rintro ⟨i, hi, he, rfl⟩; rw [u i hi he]; exact ⟨rfl, rfl⟩
 constructor
 · rintro ⟨h, -⟩
   exfalso
   have hn : fieldNames.findIdx? (isS s) = none := List.findIdx?_eq_none_iff.2 fun x hx => by
    simp only [fieldNames, List.mem_cons, List.not_mem_nil, or_false] at hx
    rcases hx with rfl | rfl | rfl | rfl | rfl | rfl | rfl <;> simp only [isS, decide_eq_false_iff_not] <;> intro e <;> first | exact (absurd e h0) | exact (absurd e.symm h0) | exact (absurd e h1) | exact (absurd e.symm h1) | exact (absurd e h2) | exact (absurd e.symm h2) | exact (absurd e h3) | exact (absurd e.symm h3) | exact (absurd e h4) | exact (absurd e.symm h4) | exact (absurd e h5) | exact (absurd e.symm h5) | exact (absurd e h6) | exact (absurd e.symm h6) | skip
   simp [fieldF, idx, hn] at h
 · rintro ⟨i, hi, he, -⟩
   exfalso
   match i, hi with
   | 0, _ => exact h0 he
   | 1, _ => exact h1 he
   | 2, _ => exact h2 he
   | 3, _ => exact h3 he
   | 4, _ => exact h4 he
   | 5, _ => exact h5 he
   | 6, _ => exact h6 he
end Go.Proofs.YtgpibcgebpgmiaaGreatDoor
namespace Go.Eng
open Go Go.RowKit Go.Proofs
def Laid1 (P : Program) (w : World) (n : String) (d : DataW Unit) : Prop := ∃ g t cs fuel p, P.globalNamed n = some g ∧ (P.globals[g]?).map (·.type) = some t ∧ w.var? P n = some cs ∧ DataW.trod (fun _ => ()) P w 0 (fun _ => true) false fuel t cs.toList = some (d, p)
theorem laid1_of {P : Program} {w : World} : ∀ (l : List (String × DataW Unit)) (ps : List MemPlace), DataW.LaidVars P w l ps → ∀ (n : String) (d : DataW Unit), (n, d) ∈ l → Laid1 P w n d
 | [], _, _, n, d, h => by simp at h
 | (n0, d0) :: r, ps, hl, n, d, h => by
   obtain ⟨g, t, cs, fuel, p, q, h1, h2, h3, h4, h5, _⟩ := hl
   rcases List.mem_cons.1 h with h | h
   · cases h
     exact ⟨g, t, cs, fuel, p, h1, h2, h3, h4⟩
   · exact laid1_of r q h5 n d h
theorem laid1_tab {P : Program} {w : World} {name : String} {g t e n : Nat} {k : IntKind} {zs : List Int} (h : Laid1 P w name (Lib.tabData k zs)) (hg : P.globalNamed name = some g) (hty : (P.globals[g]?).map (·.type) = some t) (ht : P.underlying t = some (.array n e)) (he : P.underlying e = some (.int k)) (hce : P.cellsOf e = 1) (hct : P.cellsOf t = n) : Lib.TabIs P w name k zs := by
 obtain ⟨g', t', cs, fuel, p, hg', ht', hvar, hd⟩ := h
 obtain rfl := Option.some.inj (hg.symm.trans hg')
 obtain rfl := Option.some.inj (hty.symm.trans ht')
 unfold Lib.TabIs
 rw [hvar, ← Lib.cells_of_tab ht he hce hct hd]
theorem laid1_strs {P : Program} {W : World} {name : String} {g t e n : Nat} {ss : List Str} (hg : P.globalNamed name = some g) (ht : (P.globals[g]?).map (·.type) = some t) (hu : P.underlying t = some (.array n e)) (he : P.underlying e = some .string) (hc : P.cellsOf e = 1)
 (hn : ss.length = n) (h : Laid1 P W name (.agg (ss.map (fun s => DataW.lit (.string s))))) :
 ∀ i (hi : i < ss.length), W.cell? ⟨g, i, none⟩ = some (str ss[i]) := by
 obtain ⟨g0, t0, cs0, f0, p0, hg0, ht0, hv0, hd0⟩ := h
 obtain rfl := Option.some.inj (hg.symm.trans hg0)
 obtain rfl := Option.some.inj (ht.symm.trans ht0)
 obtain ⟨xs, m1, rfl, hx1, hlen, hn3, hel⟩ := DataW.trod_array hu hd0
 intro i hi
 have h1 := hel i (by omega)
 rw [hc, Nat.mul_one] at h1
 have hxi : xs[i]? = some (xs[i]'(by omega)) := List.getElem?_eq_getElem (by omega)
 rw [hxi] at h1
 obtain ⟨s, e1, e2, _⟩ := DataW.trod_string he h1
 have e3 : DataW.agg (ss.map (fun s => DataW.lit (.string s))) = (DataW.agg (xs.map (·.1)) : DataW Unit) := congrArg Prod.fst hx1
 simp only [DataW.agg.injEq] at e3
 have e4 : (DataW.lit (.string ss[i]) : DataW Unit) = (xs[i]'(by omega)).1 := by
  have h2 := congrArg (fun l => l[i]?) e3
  simp only [List.getElem?_map, hxi, List.getElem?_eq_getElem hi, Option.map_some, Option.some.injEq] at h2
  exact h2
 rw [e2] at e4
 simp only [DataW.lit.injEq, Lit.string.injEq] at e4
 have hv := World.var?_cell hg0 hv0 i
 rw [hv]
 have h5 : cs0.toList[i]? = some (.string s) := by
  have h6 := congrArg (fun l => l[0]?) e1
  simpa [List.getElem?_take, List.getElem?_drop] using h6
 rw [← Array.getElem?_toList, h5]
 congr 1
 simp only [str, e4]
theorem laid1_iface {P : Program} {W : World} {name : String} {g t : Nat} {ms : Array (String × TypeId)} {d : DataW Unit} (hg : P.globalNamed name = some g) (ht : (P.globals[g]?).map (·.type) = some t) (hu : P.underlying t = some (.interface ms)) (h : Laid1 P W name d) :
 ∃ er, W.cell? ⟨g, 0, none⟩ = some er ∧ (er = .nilIface ∨ ∃ te pe, er = .iface te pe) := by
 obtain ⟨g0, t0, cs0, f0, p0, hg0, ht0, hv0, hd0⟩ := h
 obtain rfl := Option.some.inj (hg.symm.trans hg0)
 obtain rfl := Option.some.inj (ht.symm.trans ht0)
 have hv := World.var?_cell hg0 hv0 0
 rw [hv]
 rw [← Array.getElem?_toList]
 generalize cs0.toList = cs at *
 cases f0 with
 | zero => simp [DataW.trod] at hd0
 | succ f =>
   unfold DataW.trod at hd0
   rw [hu] at hd0
   match cs, hd0 with
   | [], hd0 => simp at hd0
   | a :: b :: r, hd0 => simp at hd0
   | [x], hd0 =>
     refine ⟨x, rfl, ?_⟩
     cases x with
     | nilIface => exact .inl rfl
     | iface u v => exact .inr ⟨u, v, rfl⟩
     | _ => simp at hd0
end Go.Eng
namespace Go.Proofs.YtgpibcgebpgmiaaGreatDoor
open Go Go.Eng Go.RowKit Go.Proofs
abbrev laid7 : List (String × DataW Unit) := [("math/bits.deBruijn32tab", Rows.laid_math_bits_deBruijn32tab), ("math/bits.deBruijn64tab", Rows.laid_math_bits_deBruijn64tab), ("internal/strconv.uint64pow10", Rows.laid_internal_strconv_uint64pow10), ("strconv.ErrRange", Rows.laid_strconv_ErrRange), ("strconv.ErrSyntax", Rows.laid_strconv_ErrSyntax), ("rollbook/date.lengths", Rows.laid_rollbook_date_lengths), ("rollbook/types.fields", Rows.laid_rollbook_types_fields)]
theorem laid7_vars {W : World} (h : laidMetH Tryz.prog laid7 W) : ∃ ps, DataW.LaidVars Tryz.prog W laid7 ps := by
 rw [MakeChecks.laidMetH_plain _ _ _ (by kernel_rfl)] at h
 obtain ⟨ps, h, _⟩ := h
 exact ⟨ps, h⟩
theorem laid7_fields {W : World} (h : laidMetH Tryz.prog laid7 W) : SlV [] W flds fieldNames := by
 obtain ⟨ps, h⟩ := laid7_vars h
 have h1 := laid1_of _ _ h "rollbook/types.fields" Rows.laid_rollbook_types_fields (by simp [laid7])
 have hc := laid1_strs (g := 0) (t := 166) (e := 9) (n := 7) (ss := fieldNames) (by kernel_rfl) (by kernel_rfl) Tryz.underlying166 Tryz.underlying9 (by kernel_rfl) rfl h1
 have hlt : 0 < W.heap.size := block_lt_of_cell (a := ⟨0, 0, none⟩) (hc 0 (by decide))
 refine ⟨some ⟨0, 0, none⟩, 7, rfl, by decide, by decide, (fun h => by cases h), fun i hi => ⟨0, 0, [str fieldNames[i]], rfl, hlt, by simp, rfl, fun j u hu => ?_⟩⟩
 have hj : j = 0 := by
  have := (List.getElem?_eq_some_iff.1 hu).1
  simp at this
  exact this
 subst hj
 simp at hu
 subst hu
 have := hc i hi
 simpa [GoRep.k, Flat.k] using this
theorem laid7_tab {W : World} (h : laidMetH Tryz.prog laid7 W) : TabW W := by
 obtain ⟨ps, h⟩ := laid7_vars h
 have h1 := laid1_of _ _ h "internal/strconv.uint64pow10" Rows.laid_internal_strconv_uint64pow10 (by simp [laid7])
 exact laid1_tab (k := .u64) (zs := Lib.pow10Tab) (g := 2) (t := 236) (e := 97) (n := 20) h1 (by kernel_rfl) (by kernel_rfl) Tryz.underlying236 Tryz.underlying97 (by kernel_rfl) (by kernel_rfl)
theorem laid7_lengths {W : World} (h : laidMetH Tryz.prog laid7 W) : LenG W := by
 obtain ⟨ps, h⟩ := laid7_vars h
 have h1 := laid1_of _ _ h "rollbook/date.lengths" Rows.laid_rollbook_date_lengths (by simp [laid7])
 have h2 := laid1_tab (k := .i64) (zs := lengthsL) (g := 5) (t := 249) (e := 3) (n := 13) h1 (by kernel_rfl) (by kernel_rfl) Tryz.underlying249 Tryz.underlying3 (by kernel_rfl) (by kernel_rfl)
 intro i u hu
 have hi := (List.getElem?_eq_some_iff.1 hu).1
 rw [Lib.TabIs.cell h2 (g := 5) (by kernel_rfl) i hi]
 simp [List.getD, hu]
theorem laid7_err {W : World} (h : laidMetH Tryz.prog laid7 W) : ∃ er, W.cell? ⟨4, 0, none⟩ = some er ∧ (er = .nilIface ∨ ∃ te pe, er = .iface te pe) := by
 obtain ⟨ps, h⟩ := laid7_vars h
 have h1 := laid1_of _ _ h "strconv.ErrRange" Rows.laid_strconv_ErrRange (by simp [laid7])
 exact laid1_iface (g := 4) (t := 72) (by kernel_rfl) (by kernel_rfl) Tryz.underlying72 h1
def numF : List Str := [[101, 120, 116, 114, 97], [98, 121], [116, 111], [99, 111, 117, 114, 116], [97, 109, 111, 117, 110, 116]]
def dateF : List Str := [[100, 97, 121], [115, 101, 114, 118, 101, 100]]
inductive Gn : Int → Nat → Nd → Prop
 | num (d : Nat) (n : Int) (h : 0 ≤ n ∧ n < 25) : Gn 1 d (.mk 1 n [] [])
 | fldN (d : Nat) (s : Str) (h : s ∈ numF) : Gn 1 d (.mk 4 0 s [])
 | fldD (d : Nat) (s : Str) (h : s ∈ dateF) : Gn 3 d (.mk 4 0 s [])
 | day (d : Nat) (n : Int) (h : 739616 ≤ n ∧ n < 739676) : Gn 3 d (.mk 3 n [] [])
 | bool (d : Nat) (n : Int) (h : n = 0 ∨ n = 1) : Gn 2 d (.mk 2 n [] [])
 | neg (d : Nat) (a : Nd) : Gn 1 d a → Gn 1 (d + 1) (.mk 5 0 [45] [a])
 | not (d : Nat) (a : Nd) : Gn 2 d a → Gn 2 (d + 1) (.mk 5 0 [110, 111, 116] [a])
 | btw (d : Nat) (a b : Nd) : Gn 3 d a → Gn 3 d b → Gn 1 (d + 1) (.mk 10 0 [98, 101, 116, 119, 101, 101, 110] [a, b])
 | cond (d : Nat) (t : Int) (c a b : Nd) (h : t = 1 ∨ t = 3) : Gn 2 d c → Gn t d a → Gn t d b → Gn t (d + 1) (.mk 9 0 [] [c, a, b])
 | arith (d : Nat) (s : Str) (a b : Nd) (h : s ∈ opsA) : Gn 1 d a → Gn 1 d b → Gn 1 (d + 1) (.mk 6 0 s [a, b])
 | adj (d : Nat) (s : Str) (a : Nd) (h : s ∈ opsN) : Gn 3 d a → Gn 3 (d + 1) (.mk 10 0 s [a])
 | two (d : Nat) (s : Str) (a b : Nd) (h : s ∈ opsE) : Gn 3 d a → Gn 3 d b → Gn 3 (d + 1) (.mk 10 0 s [a, b])
 | move (d : Nat) (k : Int) (s : Str) (a b : Nd) (hk : k = 7 ∨ k = 8) (h : s ∈ units) : Gn 3 d a → Gn 1 d b → Gn 3 (d + 1) (.mk k 0 s [a, b])
 | logic (d : Nat) (s : Str) (a b : Nd) (h : s ∈ opsL) : Gn 2 d a → Gn 2 d b → Gn 2 (d + 1) (.mk 6 0 s [a, b])
 | cmp (d : Nat) (t : Int) (s : Str) (a b : Nd) (ht : t = 1 ∨ t = 3) (h : s ∈ opsC) : Gn t d a → Gn t d b → Gn 2 (d + 1) (.mk 6 0 s [a, b])
theorem gA : ∀ s ∈ opsA, combT 6 0 s [1, 1] = 1 := by decide
theorem gL : ∀ s ∈ opsL, combT 6 0 s [2, 2] = 2 := by decide
theorem gC1 : ∀ s ∈ opsC, combT 6 0 s [1, 1] = 2 := by decide
theorem gC3 : ∀ s ∈ opsC, combT 6 0 s [3, 3] = 2 := by decide
theorem gN : ∀ s ∈ opsN, combT 10 0 s [3] = 3 := by
 intro s h
 simp only [opsN, List.mem_cons, List.not_mem_nil, or_false] at h
 rcases h with rfl | rfl <;> rfl
theorem gE : ∀ s ∈ opsE, combT 10 0 s [3, 3] = 3 := by
 intro s h
 simp only [opsE, List.mem_cons, List.not_mem_nil, or_false] at h
 rcases h with rfl | rfl <;> rfl
theorem gU7 : ∀ s ∈ units, combT 7 0 s [3, 1] = 3 := by
 intro s h
 simp only [units, List.mem_cons, List.not_mem_nil, or_false] at h
 rcases h with rfl | rfl | rfl | rfl <;> rfl
theorem gU8 : ∀ s ∈ units, combT 8 0 s [3, 1] = 3 := by
 intro s h
 simp only [units, List.mem_cons, List.not_mem_nil, or_false] at h
 rcases h with rfl | rfl | rfl | rfl <;> rfl
theorem gF1 : ∀ s ∈ numF, leafN 4 0 s = 1 := by
 intro s h
 simp only [numF, List.mem_cons, List.not_mem_nil, or_false] at h
 rcases h with rfl | rfl | rfl | rfl | rfl <;> rfl
theorem gF3 : ∀ s ∈ dateF, leafN 4 0 s = 3 := by
 intro s h
 simp only [dateF, List.mem_cons, List.not_mem_nil, or_false] at h
 rcases h with rfl | rfl <;> rfl
theorem Gn.type {t : Int} {d : Nat} {x : Nd} (h : Gn t d x) : typeT x = t := by
 induction h with
 | num d n h =>
   refine ty0 ?_
   unfold leafN
   rw [if_neg (by decide), if_neg (by simp), if_pos rfl, if_pos (by omega)]
 | fldN d s h => exact ty0 (gF1 s h)
 | fldD d s h => exact ty0 (gF3 s h)
 | day d n h =>
   refine ty0 ?_
   unfold leafN
   rw [if_neg (by decide), if_neg (by simp), if_neg (by decide), if_neg (by decide), if_pos rfl, if_pos (by omega)]
 | bool d n h => rcases h with rfl | rfl <;> exact ty0 rfl
 | neg d a ha ia => exact ty1 ia rfl
 | not d a ha ia => exact ty1 ia rfl
 | btw d a b ha hb ia ib => exact ty2 ia ib rfl
 | cond d t c a b h hc ha hb ic ia ib => rcases h with rfl | rfl <;> exact ty3 ic ia ib rfl
 | arith d s a b h ha hb ia ib => exact ty2 ia ib (gA s h)
 | adj d s a h ha ia => exact ty1 ia (gN s h)
 | two d s a b h ha hb ia ib => exact ty2 ia ib (gE s h)
 | move d k s a b hk h ha hb ia ib => rcases hk with rfl | rfl <;> first | exact ty2 ia ib (gU7 s h) | exact ty2 ia ib (gU8 s h)
 | logic d s a b h ha hb ia ib => exact ty2 ia ib (gL s h)
 | cmp d t s a b ht h ha hb ia ib => rcases ht with rfl | rfl <;> first | exact ty2 ia ib (gC1 s h) | exact ty2 ia ib (gC3 s h)
theorem Gn.nest {t : Int} {d : Nat} {x : Nd} (h : Gn t d x) : nestN x ≤ d + 1 := by
 induction h with
 | num | fldN | fldD | day | bool => rw [nest0]; omega
 | neg | not | adj => rw [nest1]; omega
 | btw | arith | two | move | logic | cmp => rw [nest2]; omega
 | cond => rw [nest3]; omega
theorem szD_pos (d : Nat) : 1 ≤ szD (d + 1) := by show 1 ≤ 1 + 3 * szD d; omega
theorem Gn.size {t : Int} {d : Nat} {x : Nd} (h : Gn t d x) : sizeN x ≤ szD (d + 1) := by
 induction h with
 | num d | fldN d | fldD d | day d | bool d => rw [size0]; exact szD_pos d
 | neg d | not d | adj d => rw [size1, szD_eq (by omega)]; simp only [Nat.add_sub_cancel]; omega
 | btw d | arith d | two d | move d | logic d | cmp d => rw [size2, szD_eq (by omega)]; simp only [Nat.add_sub_cancel]; omega
 | cond d => rw [size3, szD_eq (by omega)]; simp only [Nat.add_sub_cancel]; omega
end Go.Proofs.YtgpibcgebpgmiaaGreatDoor
namespace Go.Eng
open Go Go.RowKit Go.Proofs
structure WT (P : Program) (n : Nat) (ops : Array Oper) (S : List Nat) (Lt : List Nat) (Q : Exit → Act → World → Prop) (listed : Array Bool) (fuel : Nat) (e : Env) (w : World) : Prop where
 h : ∀ a, Has n e a → wpAnyE P .any ops S (fun j => Lt.contains j) (fun a w => Q .normal a w) fuel listed a w
structure WT1 (P : Program) (n : Nat) (ops : Array Oper) (S : List Nat) (Lt : List Nat) (Q : Exit → Act → World → Prop) (i : Nat) (listed : Array Bool) (fuel : Nat) (e : Env) (w : World) : Prop where
 h : ∀ a, Has n e a → wpOp P ops (fun _ _ _ => False) i (fun a' w' => (Stp S w w' ∨ Lt.contains i = true) ∧ wpAnyE P .any ops S (fun j => Lt.contains j) (fun a w => Q .normal a w) fuel (listed.setIfInBounds i true) a' w') a w
section rules
variable {P : Program} {n : Nat} {Q : Exit → Act → World → Prop} {e : Env} {w : World} {ops : Array Oper} {S : List Nat} {Lt : List Nat} {listed : Array Bool} {fuel : Nat}
theorem WC_drawnT {id : Nat} {l : List Oper} (m : Nat) (S : List Nat) (Lt : List Nat) (hlm : l.length = m) (hm : P.follows .mixedOrders = true)
 (h : ∀ w', Stp [] w w' → WT P n l.toArray S Lt Q (Array.replicate m false) m e w') : WC P n (.region id l.toArray true) Q e w := by
 subst hlm
 refine ⟨fun a ha => wp_region_any hm ?_⟩
 have h1 := (h { w with drawn := w.drawn + 1 } (Stp.drew [] w)).h a ha
 have h2 := wpAny_of_E (Q := Q) (fun a w hz => hz) _ _ _ _ h1
 simpa using h2
theorem WT_D (ord : List (Nat × Nat)) (hs : Region.noSelect ops = true) (hB : checkD ops Lt ord listed = true) (hl : Nat.beq (wt ord) fuel = true) (h : WD P n ops S Lt Q ord e w) : WT P n ops S Lt Q listed fuel e w := by
 have := Nat.eq_of_beq_eq_true hl
 subst this
 exact ⟨fun a ha => h.h _ hs hB a ha⟩
theorem WT_two (i q : Nat) (hr : (Region.ready .any ops listed == [i, q]) = true) (h1 : WT1 P n ops S Lt Q i listed fuel e w) (h2 : WT1 P n ops S Lt Q q listed fuel e w) : WT P n ops S Lt Q listed (fuel + 1) e w := by
 have hr := beq_iff_eq.1 hr
 refine ⟨fun a ha => ⟨fun h0 => absurd (hr ▸ h0) (by simp), fun j hj => ?_⟩⟩
 rw [hr] at hj
 have hj' : j = i ∨ j = q := by simpa using hj
 rcases hj' with rfl | rfl
 · exact h1.h a ha
 · exact h2.h a ha
variable {i d : Nat} {op : Op} {ty : TypeId} {pos : String} {af : Array Edge} {gd : Option (Nat × Bool)} {v : Value}
theorem WT1_mk {o : Oper} {dst : Option Nat} {G : Value → World → Prop} (hi : ops[i]? = some o) (hdst : o.dst = dst) (hg : gdOk ops e o.guard) (hp : OE P n o e w (fun v w' => (Stp S w w' ∨ Lt.contains i = true) ∧ G v w'))
 (k : ∀ v w' a', G v w' → ∀ a, Has n e a → a' = a.put dst v → ∃ e', Has n e' a' ∧ WT P n ops S Lt Q (listed.setIfInBounds i true) fuel e' w') : WT1 P n ops S Lt Q i listed fuel e w := by
 refine ⟨fun a ha => ?_⟩
 unfold wpOp
 simp only [hi]
 rw [if_pos (wanted_ok ha hg)]
 refine .inl (Oper.wp_mono ?_ (hp.h a ha _))
 rintro a' w' ⟨v, rfl, hs', hG⟩
 obtain ⟨e', he', hk⟩ := k v w' (a.put o.dst v) hG a ha (by rw [hdst])
 exact ⟨hs', hk.h _ he'⟩
theorem WT1_eff {G : Value → World → Prop} (hi : ops[i]? = some ⟨some d, op, ty, pos, af, gd⟩) (hg : gdOk ops e gd) (hp : OE P n ⟨some d, op, ty, pos, af, gd⟩ e w G) (hG : ∀ v w', G v w' → Stp S w w') (hdn : Nat.blt d n = true)
 (k : ∀ v w', G v w' → WT P n ops S Lt Q (listed.setIfInBounds i true) fuel ((d, v) :: e) w') : WT1 P n ops S Lt Q i listed fuel e w :=
 WT1_mk (G := G) hi rfl hg (hp.mono fun v w' h => ⟨.inl (hG v w' h), h⟩) (fun v w' a' h a ha e => ⟨_, by rw [e]; exact ha.put hdn, k v w' h⟩)
theorem WT_step0 (i : Nat) {o : Oper} (hi : ops[i]? = some o) (hd : o.dst = some d) (hY : ∀ a, Has n e a → YE P ops (fun _ _ => True) o v a w) (hdn : Nat.blt d n = true) (hs : Region.noSelect ops = true)
 (hB : ((Region.ready .any ops listed).contains i && Region.free .any ops listed i) = true)
 (k : WT P n ops S Lt Q (listed.setIfInBounds i true) fuel ((d, v) :: e) w) : WT P n ops S Lt Q listed (fuel + 1) e w := by
 refine ⟨fun a ha => ?_⟩
 simp only [Bool.and_eq_true] at hB
 have hk := k.h _ (ha.put (v := v) hdn)
 rw [← hd] at hk
 exact first_E (R := fun _ _ => True) (fun _ => trivial) (fun _ _ _ _ _ => trivial) hi (fun _ _ _ _ _ _ _ _ => trivial) (Region.noSelect_spec hs) _ _ _ _ (Region.free_spec hi hB.2) (fun _ => trivial) (by simpa using hB.1) (hY a ha) hk
theorem WT_step1 (i : Nat) {o : Oper} (hi : ops[i]? = some o) (hd : o.dst = some d) (hY : ∀ a, Has n e a → YE P ops (Stp S) o v a w) (hdn : Nat.blt d n = true) (hs : Region.noSelect ops = true)
 (hB : ((Region.ready .any ops listed).contains i && Region.free .any ops listed i && bound ops Lt i) = true)
 (k : WT P n ops S Lt Q (listed.setIfInBounds i true) fuel ((d, v) :: e) w) : WT P n ops S Lt Q listed (fuel + 1) e w := by
 refine ⟨fun a ha => ?_⟩
 simp only [Bool.and_eq_true] at hB
 obtain ⟨⟨h1, h2⟩, hb⟩ := hB
 have hk := k.h _ (ha.put (v := v) hdn)
 rw [← hd] at hk
 refine first_E (R := Stp S) (fun w => Stp.refl _ w) (fun _ _ _ h k => h.trans k) hi (fun j oj hj hn hji w w' hs => ?_) (Region.noSelect_spec hs) _ _ _ _ (Region.free_spec hi h2) (fun _ => trivial) (by simpa using h1) (hY a ha) hk
 rcases hs with hs | hs
 · exact hs
 · rw [bound_spec hb hj hn hji] at hs; cases hs
theorem WT_free (i : Nat) (hi : ops[i]? = some ⟨some d, op, ty, pos, af, gd⟩) (hg : gdOk ops e gd) (hp : ∀ w', PR P n ⟨some d, op, ty, pos, af, gd⟩ e w' v) (hdn : Nat.blt d n = true) (hs : Region.noSelect ops = true)
 (hB : ((Region.ready .any ops listed).contains i && Region.free .any ops listed i) = true)
 (k : WT P n ops S Lt Q (listed.setIfInBounds i true) fuel ((d, v) :: e) w) : WT P n ops S Lt Q listed (fuel + 1) e w :=
 WT_step0 i hi rfl (fun a ha => .inl ⟨wanted_ok ha hg, fun w' _ => (hp w').h a ha⟩) hdn hs hB k
theorem WT_read (i : Nat) (hi : ops[i]? = some ⟨some d, op, ty, pos, af, gd⟩) (hg : gdOk ops e gd) (hp : ∀ w', Stp S w w' → PR P n ⟨some d, op, ty, pos, af, gd⟩ e w' v) (hdn : Nat.blt d n = true) (hs : Region.noSelect ops = true)
 (hB : ((Region.ready .any ops listed).contains i && Region.free .any ops listed i && bound ops Lt i) = true)
 (k : WT P n ops S Lt Q (listed.setIfInBounds i true) fuel ((d, v) :: e) w) : WT P n ops S Lt Q listed (fuel + 1) e w :=
 WT_step1 i hi rfl (fun a ha => .inl ⟨wanted_ok ha hg, fun w' hw => (hp w' hw).h a ha⟩) hdn hs hB k
end rules
end Go.Eng
namespace Go.Proofs.YtgpibcgebpgmiaaGreatDoor
open Go Go.Eng Go.RowKit
theorem bS1 (a : Str) (w : World) : (Instr.buildSlice 56 1 #[(0, str a)]).run Tryz.prog w = .ok (.slice (some ⟨w.heap.size, 0, none⟩) 1 1) (w.alloc (.cells #[str a] 9)) := by kernel_rfl
theorem bS2 (a b : Str) (w : World) : (Instr.buildSlice 56 2 #[(0, str a), (1, str b)]).run Tryz.prog w = .ok (.slice (some ⟨w.heap.size, 0, none⟩) 2 2) (w.alloc (.cells #[str a, str b] 9)) := by kernel_rfl
theorem bS3 (a b c : Str) (w : World) : (Instr.buildSlice 56 3 #[(0, str a), (1, str b), (2, str c)]).run Tryz.prog w = .ok (.slice (some ⟨w.heap.size, 0, none⟩) 3 3) (w.alloc (.cells #[str a, str b, str c] 9)) := by kernel_rfl
theorem bS5 (a b c d e : Str) (w : World) : (Instr.buildSlice 56 5 #[(0, str a), (1, str b), (2, str c), (3, str d), (4, str e)]).run Tryz.prog w = .ok (.slice (some ⟨w.heap.size, 0, none⟩) 5 5) (w.alloc (.cells #[str a, str b, str c, str d, str e] 9)) := by kernel_rfl
theorem bS6 (a b c d e f : Str) (w : World) : (Instr.buildSlice 56 6 #[(0, str a), (1, str b), (2, str c), (3, str d), (4, str e), (5, str f)]).run Tryz.prog w = .ok (.slice (some ⟨w.heap.size, 0, none⟩) 6 6) (w.alloc (.cells #[str a, str b, str c, str d, str e, str f] 9)) := by kernel_rfl
abbrev Mk3 (w : World) (bm : Nat) (lv : Value) (i : Nat) : Prop := Blk w bm 132 [lv, .int .i64 (i : Int)]
theorem Next3_any (bm : Nat) (lv : Value) (l : List Int) (i : Nat) (n : Int) (w : World) (hn : 0 < n) (hi : i ≤ 1000000) (hb : Mk3 w bm lv i) (hs : SlV [bm] w lv l) (hl : ∀ a ∈ l, I64 a) :
 Calls Tryz.prog 80 #[.pointer (some ⟨bm, 0, none⟩), .int .i64 n] w (Ret fun r w' => ∃ q : Nat, r = .int .i64 (q : Int) ∧ (q : Int) < n ∧ Mk3 w' bm lv (i + 1) ∧ Stp [bm] w w') := by
 refine calls_of_WC2 (n := 23) Tryz.func80 rfl rfl rfl ?_
 refine W ?_
 refine WL_eff0 (OE_store1 (u := .int .i64 ((i : Int) + 1)) rfl rfl rfl rfl hb (by simp)) ?_
 rintro _ w1 ⟨hS1', hb1⟩
 replace hb1 : Mk3 w1 bm lv (i + 1) := hb1
 replace hs := hs.ext hS1' (fun _ h => h) (fun _ h => .inl h)
 replace hs : SlV [] w1 lv l := hs.wk (by simp)
 refine W ?_
 refine WC_drawn 12 [] [] [(0, 0), (1, 0), (2, 0), (3, 1), (4, 0), (5, 0), (6, 0), (7, 1), (8, 0), (9, 0), (10, 2), (11, 0)] rfl mixed (by kernel_rfl) (by kernel_rfl) (by kernel_rfl) (fun w1 hS1 => ?_)
 replace hb1 := hb1.up hS1
 replace hs := hs.up hS1
 refine D ?_
 refine WD_eff rfl trivial (OE_call rfl (evs3 rfl rfl rfl) (Pick01_any [] _ l _ n _ hn (by unfold I64; omega) hs hl)) (fun _ _ h => h.choose_spec.2.2) rfl ?_
 rintro _ w3 ⟨q, rfl, hq, hS3⟩
 replace hb1 := hb1.up hS3
 refine D ?_
 refine W ?_
 refine WR ?_
 exact .mk ⟨q, rfl, hq, hb1, (hS1'.trans (hS1.mono (by simp))).trans (hS3.mono (by simp))⟩
theorem Done3_any (bm : Nat) (lv : Value) (l : List Int) (i : Nat) (d : Nat) (z : Int) (w : World) (hz : z = (d : Int)) (hb : Mk3 w bm lv i) (hs : SlV [bm] w lv l) :
 Calls Tryz.prog 167 #[.pointer (some ⟨bm, 0, none⟩), .int .i64 z] w (Ret fun r w' => ∃ b : Bool, r = .bool b ∧ (d = 0 → b = true) ∧ Stp [] w w') := by
 subst hz
 refine calls_of_WC2 (n := 19) Tryz.func167 rfl rfl rfl ?_
 refine W ?_
 by_cases h0 : d = 0
 · refine WC_drawn 15 [] [] [(0, 0), (1, 0), (2, 0), (3, 0), (4, 0), (5, 0), (6, 1), (7, 0), (8, 0), (9, 0), (10, 1), (11, 0), (12, 0), (13, 0), (14, 0)] rfl mixed (by kernel_rfl) (by kernel_rfl) (by kernel_rfl) (fun w1 hS1 => ?_)
   refine D ?_
   have e0 : ((d : Int) ≤ 0) := by omega
   simp only [e0, decide_true]
   refine D ?_
   refine W ?_
   refine WR ?_
   exact .mk ⟨true, rfl, fun _ => rfl, hS1⟩
 · refine WC_drawn 15 [] [] [(0, 0), (1, 0), (2, 0), (3, 0), (4, 0), (5, 0), (6, 1), (7, 0), (8, 0), (9, 0), (10, 1), (11, 0), (12, 0), (13, 0), (14, 0)] rfl mixed (by kernel_rfl) (by kernel_rfl) (by kernel_rfl) (fun w1 hS1 => ?_)
   replace hb := hb.up hS1
   replace hs := hs.up hS1
   refine D ?_
   have e0 : ¬ ((d : Int) ≤ 0) := by omega
   simp only [e0, decide_false]
   refine D ?_
   refine W ?_
   refine WR ?_
   exact .mk ⟨_, rfl, fun h => absurd h h0, hS1⟩
theorem node13_any (X : List Nat) (k : Int) (s : Str) (kv : Value) (kids : List Nd) (w : World) (hX : ∀ b ∈ X, b < w.heap.size) (hs : SlV X w kv kids) : Calls Tryz.prog 168 #[.int .i64 k, str s, kv] w (Ret fun r w' => NdV X w' r (.mk k 0 s kids) ∧ Stp [] w w') := by
 obtain ⟨p, c, rfl, -⟩ := id hs
 refine calls_of_WC3 (n := 11) Tryz.func168 rfl rfl rfl ?_
 refine W ?_
 refine WL_eff OE_alloc rfl ?_
 rintro _ w1 ⟨b, rfl, hb, hblk, hS⟩
 refine W ?_
 apply WL_build (vs := [(0, .int .i64 k), (2, str s), (3, .slice p kids.length c)]) rfl (buildN023 _ _ _ _ _) rfl
 refine WL_eff0 (OE_storeA (us := ndC (.mk k 0 s kids) (.slice p kids.length c)) rfl rfl rfl rfl (ndC_one hs) hblk rfl) ?_
 rintro _ w2 ⟨hS2, hblk2⟩
 have hT := hS.own hS2 (fun c hc => .inr (by simp at hc; omega))
 refine W ?_
 refine WQ_retc rfl rfl rfl hblk2 rfl ?_
 exact .mk ⟨⟨_, rfl, hs.up hT⟩, hT⟩
def levS (k : Int) : List Str := if k = 1 then [[111, 114]] else if k = 2 then [[97, 110, 100]] else if k = 4 then opsC else if k = 5 then [[43], [45]] else [[42]]
theorem operators13_any (X : List Nat) (k : Int) (w : World) (hX : ∀ b ∈ X, b < w.heap.size) : Calls Tryz.prog 202 #[.int .i64 k] w (Ret fun r w' => SlV X w' r (levS k) ∧ Stp [] w w') := by
 refine calls_of_WC1 (n := 17) Tryz.func202 rfl rfl rfl ?_
 have key : ∀ (n : Nat) (vs : List Value) (v : Value) (w' : World) (ys : List Str), NewSl w n ys.length vs v w' → vs = ys.flatMap Flat.enc → ys.length ≤ maxLen → SlV X w' v ys := fun n vs v w' ys h e hm => NewSl.slv h hX rfl e hm
 by_cases h1 : k = 1
 · subst h1
   repeat' (first | refine W1 ?_ | (exfalso; omega) | (refine VG ?_ ?_ <;> intro hg) | (refine VC ?_ ?_ <;> intro hc))
   refine WL_eff (OE_buildSlice (vs := [(0, str [111, 114])]) rfl (bS1 _)) rfl ?_
   rintro v w1 hN
   have hv : SlV X w1 v ([[111, 114]] : List Str) := hN.slv hX rfl rfl (by decide)
   have hT := NewSl.stp hN
   refine W ?_
   refine WR ?_
   exact .mk ⟨hv, hT⟩
 by_cases h2 : k = 2
 · subst h2
   repeat' (first | refine W1 ?_ | (exfalso; omega) | (refine VG ?_ ?_ <;> intro hg) | (refine VC ?_ ?_ <;> intro hc))
   refine WL_eff (OE_buildSlice (vs := [(0, str [97, 110, 100])]) rfl (bS1 _)) rfl ?_
   rintro v w1 hN
   have hv : SlV X w1 v ([[97, 110, 100]] : List Str) := hN.slv hX rfl rfl (by decide)
   have hT := NewSl.stp hN
   refine W ?_
   refine WR ?_
   exact .mk ⟨hv, hT⟩
 by_cases h4 : k = 4
 · subst h4
   repeat' (first | refine W1 ?_ | (exfalso; omega) | (refine VG ?_ ?_ <;> intro hg) | (refine VC ?_ ?_ <;> intro hc))
   refine WL_eff (OE_buildSlice (vs := [(0, str [60]), (1, str [60, 61]), (2, str [61]), (3, str [33, 61]), (4, str [62]), (5, str [62, 61])]) rfl (bS6 _ _ _ _ _ _)) rfl ?_
   rintro v w1 hN
   have hv : SlV X w1 v opsC := hN.slv hX rfl rfl (by decide)
   have hT := NewSl.stp hN
   refine W ?_
   refine WR ?_
   exact .mk ⟨hv, hT⟩
 by_cases h5 : k = 5
 · subst h5
   repeat' (first | refine W1 ?_ | (exfalso; omega) | (refine VG ?_ ?_ <;> intro hg) | (refine VC ?_ ?_ <;> intro hc))
   refine WL_eff (OE_buildSlice (vs := [(0, str [43]), (1, str [45])]) rfl (bS2 _ _)) rfl ?_
   rintro v w1 hN
   have hv : SlV X w1 v ([[43], [45]] : List Str) := hN.slv hX rfl rfl (by decide)
   have hT := NewSl.stp hN
   refine W ?_
   refine WR ?_
   exact .mk ⟨hv, hT⟩
 · repeat' (first | refine W1 ?_ | (exfalso; omega) | (refine VG ?_ ?_ <;> intro hg) | (refine VC ?_ ?_ <;> intro hc))
   refine WL_eff (OE_buildSlice (vs := [(0, str [42])]) rfl (bS1 _)) rfl ?_
   rintro v w1 hN
   have hv : SlV X w1 v ([[42]] : List Str) := hN.slv hX rfl rfl (by decide)
   have hT := NewSl.stp hN
   refine W ?_
   refine WR ?_
   exact .mk ⟨by unfold levS; rw [if_neg h1, if_neg h2, if_neg h4, if_neg h5]; exact hv, hT⟩
theorem compared_any (q : Nat) (w : World) (hq : q < 6) : Calls Tryz.prog 169 #[.int .i64 (q : Int)] w (Ret fun r w' => (∃ s ∈ opsC, r = str s) ∧ Stp [] w w') := by
 refine calls_of_WC1 (n := 7) Tryz.func169 rfl rfl rfl ?_
 refine W ?_
 refine CL rfl (evs1 rfl) rfl (operators13_any [] 4 _ (by simp)) ?_
 rintro v w1 ⟨hv, hS⟩
 replace hv : SlV [] w1 v opsC := hv
 have hqn : q < opsC.length := by show q < 6; exact hq
 refine W ?_
 refine WR ?_
 exact .mk ⟨⟨_, List.getElem_mem hqn, rfl⟩, hS⟩
structure G3 (X : List Nat) (w0 w : World) (bm b4 : Nat) (lv : Value) (l : List Int) (i : Nat) : Prop where
 mkr : Mk3 w bm lv i
 sl : SlV [bm] w lv l
 stp : Stp [bm] w0 w
 blk : ∃ cs : List Value, cs.length = 4 ∧ Blk w b4 36 cs
 ne : b4 ≠ bm
 hX : ∀ b ∈ X, b < w.heap.size
theorem G3.nxt {X : List Nat} {w0 w w' : World} {bm b4 : Nat} {lv : Value} {l : List Int} {i i' : Nat} (h : G3 X w0 w bm b4 lv l i) (hm : Mk3 w' bm lv i') (hS : Stp [bm] w w') : G3 X w0 w' bm b4 lv l i' :=
 ⟨hm, h.sl.ext hS (fun _ h => h) (fun _ h => .inl h), h.stp.trans hS, h.blk.imp (fun cs hc => ⟨hc.1, hc.2.ext hS (by simpa using h.ne)⟩), h.ne, fun b hb => Nat.lt_of_lt_of_le (h.hX b hb) hS.size⟩
theorem G3.up {X : List Nat} {w0 w w' : World} {bm b4 : Nat} {lv : Value} {l : List Int} {i : Nat} (h : G3 X w0 w bm b4 lv l i) (hS : Stp [] w w') : G3 X w0 w' bm b4 lv l i :=
 h.nxt (h.mkr.up hS) (hS.mono (by simp))
theorem G3.fin {X : List Nat} {w0 w1 w w' : World} {bm b4 : Nat} {lv : Value} {l : List Int} {i : Nat} {y : Nd} {ky : Value} (h : G3 (b4 :: bm :: X) w1 w bm b4 lv l i) (hw : Stp [] w0 w1) (hb : w0.heap.size ≤ b4) (hy : SlV (b4 :: bm :: X) w ky y.kids) (hS : Stp [b4] w w') :
 NdV X w' (.agg (ndC y ky).toArray) y ∧ Mk3 w' bm lv i ∧ Stp [bm] w0 w' :=
 ⟨⟨ky, rfl, (hy.ext (X' := b4 :: bm :: X) hS (by simp) (fun _ h => .inl h)).wk (fun c hc => by simp [hc])⟩, h.mkr.ext hS (by simpa using h.ne.symm), ((hw.mono (by simp)).trans h.stp).own hS (fun c hc => .inr (by simp at hc; omega))⟩
def GenQ (f : Nat) (t : Int) (d : Nat) : Prop := ∀ (X : List Nat) (w : World) (bm : Nat) (lv : Value) (l : List Int) (i : Nat) (z : Int), z = (d : Int) → Mk3 w bm lv i → SlV [bm] w lv l → (∀ a ∈ l, I64 a) → i + 3 * szD (d + 1) ≤ 100000 → (∀ b ∈ X, b < w.heap.size) →
 Calls Tryz.prog f #[.pointer (some ⟨bm, 0, none⟩), .int .i64 z] w (Ret fun r w' => ∃ y i', NdV X w' r y ∧ Gn t d y ∧ Mk3 w' bm lv i' ∧ i' ≤ i + 3 * szD (d + 1) ∧ Stp [bm] w w')
theorem keep_node {w w1 w2 : World} {b : Nat} (h : Stp [] w w1) (hb : w.heap.size ≤ b) (h2 : Stp [b] w1 w2) : Stp [] w w2 := h.own h2 (fun c hc => .inr (by simp at hc; omega))
set_option maxHeartbeats 1000000
theorem Number3_step (d : Nat) (hd6 : d ≤ 6) (ih : ∀ e, d = e + 1 → GenQ 170 1 e ∧ GenQ 127 2 e ∧ GenQ 128 3 e) : GenQ 170 1 d := by
 intro X w bm lv l i z hz hmk hsl hl hi hX
 subst hz
 have hsz : szD (d + 1) = 1 + 3 * szD d := rfl
 refine calls_of_WC2 (n := 88) Tryz.func170 rfl rfl rfl ?_
 refine W ?_
 refine WL_eff OE_alloc rfl ?_
 rintro _ w1 ⟨b4, rfl, hb4, hblk4, hS0⟩
 have gm : G3 (b4 :: bm :: X) w1 w1 bm b4 lv l i := ⟨hmk.up hS0, hsl.up hS0, Stp.refl _ _, ⟨_, rfl, hblk4⟩, fun h => by have := hmk.lt; omega, fun c hc => by
  simp only [List.mem_cons] at hc
  have h1 := hblk4.lt
  have h2 := hmk.lt
  have h3 := hS0.size
  rcases hc with rfl | rfl | hc
  · exact h1
  · omega
  · have := hX c hc; omega⟩
 clear hblk4 hX hsl hmk
 refine W ?_
 refine CL rfl (evs2 rfl rfl) rfl (Next3_any bm lv l _ 9 _ (by decide) (by omega) gm.mkr gm.sl hl) ?_
 rintro _ wq ⟨q, rfl, hq, hm, hS⟩
 replace gm := gm.nxt hm hS
 clear hm hS
 refine W ?_
 refine CL rfl (evs2 rfl rfl) rfl (Done3_any bm lv l _ d _ _ rfl gm.mkr gm.sl) ?_
 rintro _ wq ⟨dn, rfl, hdn, hT⟩
 replace gm := gm.up hT
 clear hT
 refine W ?_
 refine WC_cutQ (σ := Nat) (fun k => [(0, .pointer (some ⟨bm, 0, none⟩)), (1, .int .i64 (d : Int)), (4, .pointer (some ⟨b4, 0, none⟩)), (5, .int .i64 (k : Int))]) (fun k w' => w' = wq ∧ k < 9 ∧ (d = 0 → k < 4)) ?_ ?_
 · cases dn with
   | true =>
     repeat' (first | refine W1 ?_ | (exfalso; omega) | (refine VG ?_ ?_ <;> intro hg) | (refine VC ?_ ?_ <;> intro hc))
     exact WQ_cut (q % 4) ⟨rfl, rfl, rfl, rfl, trivial⟩ ⟨rfl, by omega, fun _ => by omega⟩
   | false =>
     repeat' (first | refine W1 ?_ | (exfalso; omega) | (refine VG ?_ ?_ <;> intro hg) | (refine VC ?_ ?_ <;> intro hc))
     exact WQ_cut q ⟨rfl, rfl, rfl, rfl, trivial⟩ ⟨rfl, by omega, fun h => absurd (hdn h) (by decide)⟩
 rintro k w3 ⟨rfl, hkn, hk1⟩
 clear hq hdn
 by_cases k0 : k ≤ 2
 · repeat' (first | refine W1 ?_ | (exfalso; omega) | (refine VG ?_ ?_ <;> intro hg) | (refine VC ?_ ?_ <;> intro hc))
   all_goals
    refine CL rfl (evs2 rfl rfl) rfl (Next3_any bm lv l _ 25 _ (by decide) (by omega) gm.mkr gm.sl hl) ?_
    rintro _ wq ⟨q', rfl, hq', hm, hS⟩
    replace gm := gm.nxt hm hS
    clear hm hS
    refine W ?_
    apply WL_build (vs := [(0, .int .i64 1), (1, .int .i64 _)]) rfl (buildN01 _ _) rfl
    have hy : SlV (α := Nd) (b4 :: bm :: X) _ (.slice none 0 0) [] := nilSlv _ wq
    obtain ⟨cs, hcl, hcb⟩ := gm.blk
    refine WL_eff0 (OE_storeA (us := ndC (.mk 1 (q' : Int) [] []) _) rfl rfl rfl rfl (ndC_one (x := (.mk 1 (q' : Int) [] [])) hy) hcb hcl.symm) ?_
    rintro _ wz ⟨hz, hbz⟩
    refine W ?_
    refine WQ_retc rfl rfl rfl hbz rfl ?_
    have hf := gm.fin (y := (.mk 1 (q' : Int) [] [])) hS0 hb4 hy hz
    exact .mk ⟨_, _, hf.1, .num _ _ (by omega), hf.2.1, by omega, hf.2.2⟩
 by_cases k3 : k = 3
 · repeat' (first | refine W1 ?_ | (exfalso; omega) | (refine VG ?_ ?_ <;> intro hg) | (refine VC ?_ ?_ <;> intro hc))
   refine WL_eff (OE_buildSlice (vs := [(0, str [101, 120, 116, 114, 97]), (1, str [98, 121]), (2, str [116, 111]), (3, str [99, 111, 117, 114, 116]), (4, str [97, 109, 111, 117, 110, 116])]) rfl (bS5 _ _ _ _ _)) rfl ?_
   rintro wv wq hN
   have hws : SlV [bm] wq wv numF := hN.slv (fun c hc => gm.hX c (by simp at hc; subst hc; simp)) rfl rfl (by decide)
   have hT := NewSl.stp hN
   clear hN
   replace gm := gm.up hT
   clear hT
   refine W ?_
   refine CL rfl (evs2 rfl rfl) rfl (Next3_any bm lv l _ 5 _ (by decide) (by omega) gm.mkr gm.sl hl) ?_
   rintro _ wq ⟨q', rfl, hq', hm, hS⟩
   replace gm := gm.nxt hm hS
   replace hws := hws.ext hS (by simp) (fun _ h => .inl h)
   clear hm hS
   have hqn : q' < numF.length := by show q' < 5; omega
   refine W ?_
   refine CL rfl (evs3 rfl rfl rfl) rfl (node13_any (b4 :: bm :: X) 4 numF[q'] (.slice none 0 0) [] _ gm.hX (nilSlv _ _)) ?_
   rintro _ wq ⟨⟨ky, rfl, hy⟩, hT⟩
   replace gm := gm.up hT
   clear hT
   obtain ⟨cs, hcl, hcb⟩ := gm.blk
   refine WL_eff0 (OE_storeA (us := ndC (.mk 4 0 numF[q'] []) _) rfl rfl rfl rfl (ndC_one (x := (.mk 4 0 numF[q'] [])) hy) hcb hcl.symm) ?_
   rintro _ wz ⟨hz, hbz⟩
   refine W ?_
   refine WQ_retc rfl rfl rfl hbz rfl ?_
   have hf := gm.fin (y := (.mk 4 0 numF[q'] [])) hS0 hb4 hy hz
   exact .mk ⟨_, _, hf.1, .fldN _ _ (List.getElem_mem hqn), hf.2.1, by omega, hf.2.2⟩
 by_cases k4 : k = 4
 · obtain ⟨e, rfl⟩ : ∃ e, d = e + 1 := ⟨d - 1, by omega⟩
   replace ih := ih e rfl
   have hsp := szD_pos e
   repeat' (first | refine W1 ?_ | (exfalso; omega) | (refine VG ?_ ?_ <;> intro hg) | (refine VC ?_ ?_ <;> intro hc))
   refine W ?_
   refine CL rfl (evs2 rfl rfl) rfl ((ih.1) (b4 :: bm :: X) _ bm lv l _ _ (by omega) gm.mkr gm.sl hl (by omega) gm.hX) ?_
   rintro _ wq ⟨y0, i0, ⟨k0, rfl, s0⟩, g0, hm, hi0, hS⟩
   obtain ⟨p0, c0, rfl, -⟩ := id s0
   replace gm := gm.nxt hm hS
   clear hm hS
   refine W ?_
   refine WL_eff (OE_buildSlice (vs := [(0, .agg #[.int .i64 y0.kind, .int .i64 y0.num, str y0.word, .slice p0 y0.kids.length c0])]) rfl (buildSN1 _ _ _ _ _ _)) rfl ?_
   rintro bv wq hN
   have hbv : SlV (b4 :: bm :: X) wq bv [y0] := hN.slvG (css := [ndC y0 _]) gm.hX rfl rfl rfl (reps1 s0) (by simp [maxLen])
   have hT := NewSl.stp hN
   clear hN
   replace gm := gm.up hT
   clear hT
   refine W ?_
   refine CL rfl (evs3 rfl rfl rfl) rfl (node13_any (b4 :: bm :: X) 5 [45] bv [y0] _ gm.hX hbv) ?_
   rintro _ wq ⟨⟨ky, rfl, hy⟩, hT⟩
   replace gm := gm.up hT
   clear hT hbv
   refine W ?_
   obtain ⟨cs, hcl, hcb⟩ := gm.blk
   refine WL_eff0 (OE_storeA (us := ndC (.mk 5 0 [45] [y0]) _) rfl rfl rfl rfl (ndC_one (x := (.mk 5 0 [45] [y0])) hy) hcb hcl.symm) ?_
   rintro _ wz ⟨hz, hbz⟩
   refine W ?_
   refine WQ_retc rfl rfl rfl hbz rfl ?_
   have hf := gm.fin (y := (.mk 5 0 [45] [y0])) hS0 hb4 hy hz
   exact .mk ⟨_, _, hf.1, .neg _ _ g0, hf.2.1, by omega, hf.2.2⟩
 by_cases k5 : k = 5
 · obtain ⟨e, rfl⟩ : ∃ e, d = e + 1 := ⟨d - 1, by omega⟩
   replace ih := ih e rfl
   have hsp := szD_pos e
   repeat' (first | refine W1 ?_ | (exfalso; omega) | (refine VG ?_ ?_ <;> intro hg) | (refine VC ?_ ?_ <;> intro hc))
   refine W ?_
   refine CL rfl (evs2 rfl rfl) rfl ((ih.2.2) (b4 :: bm :: X) _ bm lv l _ _ (by omega) gm.mkr gm.sl hl (by omega) gm.hX) ?_
   rintro _ wq ⟨y0, i0, ⟨k0, rfl, s0⟩, g0, hm, hi0, hS⟩
   obtain ⟨p0, c0, rfl, -⟩ := id s0
   replace gm := gm.nxt hm hS
   clear hm hS
   refine WL_eff OE_alloc rfl ?_
   rintro _ wq ⟨b0', rfl, hb0', e0, hT⟩
   refine WL_eff0 (OE_storeA (us := ndC y0 _) rfl rfl rfl rfl (ndC_one s0) e0 rfl) ?_
   rintro _ wq ⟨hT2, e0⟩
   replace hT := keep_node hT hb0' hT2
   clear hT2
   have n0 : b0' ≠ bm := fun h => by have := gm.mkr.lt; omega
   have n0' : b0' ≠ b4 := fun h => by obtain ⟨_, _, hc⟩ := gm.blk; have := hc.lt; omega
   replace gm := gm.up hT
   replace s0 := s0.up hT
   clear hT hb0'
   refine W ?_
   refine WC_drawn 8 ([b4, bm]) [] [(0, 1), (1, 0), (2, 0), (3, 0), (4, 2), (5, 2), (6, 2), (7, 2)] rfl mixed (by kernel_rfl) (by kernel_rfl) (by kernel_rfl) (fun w1 hS1 => ?_)
   have hT := hS1
   replace gm := gm.up hT
   replace s0 := s0.up hT
   replace e0 := e0.up hT
   clear hT hS1
   refine WD_read rfl trivial (fun w' hS' => PR_load_blkA rfl rfl (e0.ext hS' (by simp; exact ⟨n0', n0⟩)) rfl) rfl ?_
   refine D ?_
   refine WD_eff rfl trivial (OE_call rfl (evs2 rfl rfl) ((ih.2.2) (b4 :: bm :: X) _ bm lv l _ _ (by omega) gm.mkr gm.sl hl (by omega) gm.hX)) (fun _ _ h => by obtain ⟨_, _, _, _, _, _, h⟩ := h; exact h.mono (by simp)) rfl ?_
   rintro _ wq ⟨y1, i1, ⟨k1, rfl, s1⟩, g1, hm, hi1, hS⟩
   obtain ⟨p1, c1, rfl, -⟩ := id s1
   replace gm := gm.nxt hm hS
   replace s0 := s0.ext hS (by simp) (fun _ h => .inl h)
   replace e0 := e0.ext hS (by simp; exact n0)
   clear hm hS
   refine D ?_
   refine WD_eff rfl trivial (OE_buildSlice (vs := [(0, .agg #[.int .i64 y0.kind, .int .i64 y0.num, str y0.word, .slice p0 y0.kids.length c0]), (1, .agg #[.int .i64 y1.kind, .int .i64 y1.num, str y1.word, .slice p1 y1.kids.length c1])]) rfl (buildSN2 _ _ _ _ _ _ _ _ _ _ _ _)) (fun _ _ h => (NewSl.stp h).mono (by simp)) rfl ?_
   rintro bv wq hN
   have hbv : SlV (b4 :: bm :: X) wq bv [y0, y1] := hN.slvG (css := [ndC y0 _, ndC y1 _]) gm.hX rfl rfl rfl (reps2 s0 s1) (by simp [maxLen])
   have hT := NewSl.stp hN
   clear hN
   replace gm := gm.up hT
   clear hT
   refine D ?_
   refine WD_eff rfl trivial (OE_call rfl (evs3 rfl rfl rfl) (node13_any (b4 :: bm :: X) 10 [98, 101, 116, 119, 101, 101, 110] bv [y0, y1] _ gm.hX hbv)) (fun _ _ h => h.2.mono (by simp)) rfl ?_
   rintro _ wq ⟨⟨ky, rfl, hy⟩, hT⟩
   replace gm := gm.up hT
   clear hT hbv
   refine D ?_
   obtain ⟨cs, hcl, hcb⟩ := gm.blk
   refine WD_eff0 rfl trivial (OE_storeA (us := ndC (.mk 10 0 [98, 101, 116, 119, 101, 101, 110] [y0, y1]) _) rfl rfl rfl rfl (ndC_one (x := (.mk 10 0 [98, 101, 116, 119, 101, 101, 110] [y0, y1])) hy) hcb hcl.symm) (fun _ _ h => h.1.mono (by simp)) ?_
   rintro _ wz ⟨hz, hbz⟩
   refine D ?_
   refine W ?_
   refine WQ_retc rfl rfl rfl hbz rfl ?_
   have hf := gm.fin (y := (.mk 10 0 [98, 101, 116, 119, 101, 101, 110] [y0, y1])) hS0 hb4 hy hz
   exact .mk ⟨_, _, hf.1, .btw _ _ _ g0 g1, hf.2.1, by omega, hf.2.2⟩
 by_cases k6 : k = 6
 · obtain ⟨e, rfl⟩ : ∃ e, d = e + 1 := ⟨d - 1, by omega⟩
   replace ih := ih e rfl
   have hsp := szD_pos e
   repeat' (first | refine W1 ?_ | (exfalso; omega) | (refine VG ?_ ?_ <;> intro hg) | (refine VC ?_ ?_ <;> intro hc))
   refine W ?_
   refine CL rfl (evs2 rfl rfl) rfl ((ih.2.1) (b4 :: bm :: X) _ bm lv l _ _ (by omega) gm.mkr gm.sl hl (by omega) gm.hX) ?_
   rintro _ wq ⟨y0, i0, ⟨k0, rfl, s0⟩, g0, hm, hi0, hS⟩
   obtain ⟨p0, c0, rfl, -⟩ := id s0
   replace gm := gm.nxt hm hS
   clear hm hS
   refine WL_eff OE_alloc rfl ?_
   rintro _ wq ⟨b0', rfl, hb0', e0, hT⟩
   refine WL_eff0 (OE_storeA (us := ndC y0 _) rfl rfl rfl rfl (ndC_one s0) e0 rfl) ?_
   rintro _ wq ⟨hT2, e0⟩
   replace hT := keep_node hT hb0' hT2
   clear hT2
   have n0 : b0' ≠ bm := fun h => by have := gm.mkr.lt; omega
   have n0' : b0' ≠ b4 := fun h => by obtain ⟨_, _, hc⟩ := gm.blk; have := hc.lt; omega
   replace gm := gm.up hT
   replace s0 := s0.up hT
   clear hT hb0'
   refine W ?_
   refine CL rfl (evs2 rfl rfl) rfl ((ih.1) (b4 :: bm :: X) _ bm lv l _ _ (by omega) gm.mkr gm.sl hl (by omega) gm.hX) ?_
   rintro _ wq ⟨y1, i1, ⟨k1, rfl, s1⟩, g1, hm, hi1, hS⟩
   obtain ⟨p1, c1, rfl, -⟩ := id s1
   replace gm := gm.nxt hm hS
   replace s0 := s0.ext hS (by simp) (fun _ h => .inl h)
   replace e0 := e0.ext hS (by simp; exact n0)
   clear hm hS
   refine WL_eff OE_alloc rfl ?_
   rintro _ wq ⟨b1', rfl, hb1', e1, hT⟩
   refine WL_eff0 (OE_storeA (us := ndC y1 _) rfl rfl rfl rfl (ndC_one s1) e1 rfl) ?_
   rintro _ wq ⟨hT2, e1⟩
   replace hT := keep_node hT hb1' hT2
   clear hT2
   have n1 : b1' ≠ bm := fun h => by have := gm.mkr.lt; omega
   have n1' : b1' ≠ b4 := fun h => by obtain ⟨_, _, hc⟩ := gm.blk; have := hc.lt; omega
   replace gm := gm.up hT
   replace s0 := s0.up hT
   replace e0 := e0.up hT
   replace s1 := s1.up hT
   clear hT hb1'
   refine W ?_
   refine WC_drawn 9 ([b4, bm]) [] [(0, 1), (1, 1), (2, 0), (3, 0), (4, 0), (5, 2), (6, 2), (7, 2), (8, 2)] rfl mixed (by kernel_rfl) (by kernel_rfl) (by kernel_rfl) (fun w1 hS1 => ?_)
   have hT := hS1
   replace gm := gm.up hT
   replace s0 := s0.up hT
   replace e0 := e0.up hT
   replace s1 := s1.up hT
   replace e1 := e1.up hT
   clear hT hS1
   refine WD_read rfl trivial (fun w' hS' => PR_load_blkA rfl rfl (e0.ext hS' (by simp; exact ⟨n0', n0⟩)) rfl) rfl ?_
   refine WD_read rfl trivial (fun w' hS' => PR_load_blkA rfl rfl (e1.ext hS' (by simp; exact ⟨n1', n1⟩)) rfl) rfl ?_
   refine D ?_
   refine WD_eff rfl trivial (OE_call rfl (evs2 rfl rfl) ((ih.1) (b4 :: bm :: X) _ bm lv l _ _ (by omega) gm.mkr gm.sl hl (by omega) gm.hX)) (fun _ _ h => by obtain ⟨_, _, _, _, _, _, h⟩ := h; exact h.mono (by simp)) rfl ?_
   rintro _ wq ⟨y2, i2, ⟨k2, rfl, s2⟩, g2, hm, hi2, hS⟩
   obtain ⟨p2, c2, rfl, -⟩ := id s2
   replace gm := gm.nxt hm hS
   replace s0 := s0.ext hS (by simp) (fun _ h => .inl h)
   replace e0 := e0.ext hS (by simp; exact n0)
   replace s1 := s1.ext hS (by simp) (fun _ h => .inl h)
   replace e1 := e1.ext hS (by simp; exact n1)
   clear hm hS
   refine D ?_
   refine WD_eff rfl trivial (OE_buildSlice (vs := [(0, .agg #[.int .i64 y0.kind, .int .i64 y0.num, str y0.word, .slice p0 y0.kids.length c0]), (1, .agg #[.int .i64 y1.kind, .int .i64 y1.num, str y1.word, .slice p1 y1.kids.length c1]), (2, .agg #[.int .i64 y2.kind, .int .i64 y2.num, str y2.word, .slice p2 y2.kids.length c2])]) rfl (buildSN3 _ _ _ _ _ _ _ _ _ _ _ _ _ _ _ _ _ _)) (fun _ _ h => (NewSl.stp h).mono (by simp)) rfl ?_
   rintro bv wq hN
   have hbv : SlV (b4 :: bm :: X) wq bv [y0, y1, y2] := hN.slvG (css := [ndC y0 _, ndC y1 _, ndC y2 _]) gm.hX rfl rfl rfl (reps3 s0 s1 s2) (by simp [maxLen])
   have hT := NewSl.stp hN
   clear hN
   replace gm := gm.up hT
   clear hT
   refine D ?_
   refine WD_eff rfl trivial (OE_call rfl (evs3 rfl rfl rfl) (node13_any (b4 :: bm :: X) 9 [] bv [y0, y1, y2] _ gm.hX hbv)) (fun _ _ h => h.2.mono (by simp)) rfl ?_
   rintro _ wq ⟨⟨ky, rfl, hy⟩, hT⟩
   replace gm := gm.up hT
   clear hT hbv
   refine D ?_
   obtain ⟨cs, hcl, hcb⟩ := gm.blk
   refine WD_eff0 rfl trivial (OE_storeA (us := ndC (.mk 9 0 [] [y0, y1, y2]) _) rfl rfl rfl rfl (ndC_one (x := (.mk 9 0 [] [y0, y1, y2])) hy) hcb hcl.symm) (fun _ _ h => h.1.mono (by simp)) ?_
   rintro _ wz ⟨hz, hbz⟩
   refine D ?_
   refine W ?_
   refine WQ_retc rfl rfl rfl hbz rfl ?_
   have hf := gm.fin (y := (.mk 9 0 [] [y0, y1, y2])) hS0 hb4 hy hz
   exact .mk ⟨_, _, hf.1, .cond _ _ _ _ _ (by decide) g0 g1 g2, hf.2.1, by omega, hf.2.2⟩
 obtain ⟨e, rfl⟩ : ∃ e, d = e + 1 := ⟨d - 1, by omega⟩
 replace ih := ih e rfl
 have hsp := szD_pos e
 repeat' (first | refine W1 ?_ | (exfalso; omega) | (refine VG ?_ ?_ <;> intro hg) | (refine VC ?_ ?_ <;> intro hc))
 refine W ?_
 refine CL rfl (evs2 rfl rfl) rfl ((ih.1) (b4 :: bm :: X) _ bm lv l _ _ (by omega) gm.mkr gm.sl hl (by omega) gm.hX) ?_
 rintro _ wq ⟨y0, i0, ⟨k0, rfl, s0⟩, g0, hm, hi0, hS⟩
 obtain ⟨p0, c0, rfl, -⟩ := id s0
 replace gm := gm.nxt hm hS
 clear hm hS
 refine WL_eff OE_alloc rfl ?_
 rintro _ wq ⟨b0', rfl, hb0', e0, hT⟩
 refine WL_eff0 (OE_storeA (us := ndC y0 _) rfl rfl rfl rfl (ndC_one s0) e0 rfl) ?_
 rintro _ wq ⟨hT2, e0⟩
 replace hT := keep_node hT hb0' hT2
 clear hT2
 have n0 : b0' ≠ bm := fun h => by have := gm.mkr.lt; omega
 have n0' : b0' ≠ b4 := fun h => by obtain ⟨_, _, hc⟩ := gm.blk; have := hc.lt; omega
 replace gm := gm.up hT
 replace s0 := s0.up hT
 clear hT hb0'
 refine W ?_
 refine WC_drawnT 13 [b4, bm] [] rfl mixed (fun w1 hS1 => ?_)
 have hT := hS1
 replace gm := gm.up hT
 replace s0 := s0.up hT
 replace e0 := e0.up hT
 clear hT hS1
 refine WT_free 1 rfl trivial (fun w' => PR_move rfl) rfl (by kernel_rfl) (by kernel_rfl) ?_
 refine WT_read 5 rfl trivial (fun w' hS' => PR_load_blkA rfl rfl (e0.ext hS' (by simp; exact ⟨n0', n0⟩)) rfl) rfl (by kernel_rfl) (by kernel_rfl) ?_
 refine WT_free 6 rfl trivial (fun w' => PR_move rfl) rfl (by kernel_rfl) (by kernel_rfl) ?_
 refine WT_free 7 rfl trivial (fun w' => PR_move rfl) rfl (by kernel_rfl) (by kernel_rfl) ?_
 refine WT_free 8 rfl trivial (fun w' => PR_sub rfl rfl (by unfold I64; omega)) rfl (by kernel_rfl) (by kernel_rfl) ?_
 refine WT_two 0 2 (by kernel_rfl) ?_ ?_
 · refine WT1_eff rfl trivial (OE_buildSlice (vs := [(0, str [43]), (1, str [45]), (2, str [42])]) rfl (bS3 _ _ _)) (fun _ _ h => (NewSl.stp h).mono (by simp)) rfl ?_
   rintro wv wq hN
   have hws : SlV [b4, bm] wq wv opsA := hN.slv (fun c hc => gm.hX c (by simp at hc; rcases hc with rfl | rfl <;> simp)) rfl rfl (by decide)
   have hT := NewSl.stp hN
   clear hN
   replace gm := gm.up hT
   replace s0 := s0.up hT
   replace e0 := e0.up hT
   clear hT
   refine WT_D [(2, 2), (3, 0), (4, 1), (9, 2), (10, 2), (11, 2), (12, 2)] (by kernel_rfl) (by kernel_rfl) (by kernel_rfl) ?_
   refine WD_eff rfl trivial (OE_call rfl (evs2 rfl rfl) (Next3_any bm lv l _ 3 _ (by decide) (by omega) gm.mkr gm.sl hl)) (fun _ _ h => h.choose_spec.2.2.2.mono (by simp)) rfl ?_
   rintro _ wq ⟨q, rfl, hq, hm, hS⟩
   replace gm := gm.nxt hm hS
   replace s0 := s0.ext hS (by simp) (fun _ h => .inl h)
   replace e0 := e0.ext hS (by simp; exact n0)
   replace hws := hws.ext hS (by simp) (fun _ h => .inl h)
   clear hm hS
   have hqn : q < opsA.length := by show q < 3; omega
   refine D ?_
   refine WD_eff rfl trivial (OE_call rfl (evs2 rfl rfl) ((ih.1) (b4 :: bm :: X) _ bm lv l _ _ (by omega) gm.mkr gm.sl hl (by omega) gm.hX)) (fun _ _ h => by obtain ⟨_, _, _, _, _, _, h⟩ := h; exact h.mono (by simp)) rfl ?_
   rintro _ wq ⟨y1, i1, ⟨k1, rfl, s1⟩, g1, hm, hi1, hS⟩
   obtain ⟨p1, c1, rfl, -⟩ := id s1
   replace gm := gm.nxt hm hS
   replace s0 := s0.ext hS (by simp) (fun _ h => .inl h)
   replace e0 := e0.ext hS (by simp; exact n0)
   replace hws := hws.ext hS (by simp) (fun _ h => .inl h)
   clear hm hS
   refine D ?_
   refine WD_eff rfl trivial (OE_buildSlice (vs := [(0, .agg #[.int .i64 y0.kind, .int .i64 y0.num, str y0.word, .slice p0 y0.kids.length c0]), (1, .agg #[.int .i64 y1.kind, .int .i64 y1.num, str y1.word, .slice p1 y1.kids.length c1])]) rfl (buildSN2 _ _ _ _ _ _ _ _ _ _ _ _)) (fun _ _ h => (NewSl.stp h).mono (by simp)) rfl ?_
   rintro bv wq hN
   have hbv : SlV (b4 :: bm :: X) wq bv [y0, y1] := hN.slvG (css := [ndC y0 _, ndC y1 _]) gm.hX rfl rfl rfl (reps2 s0 s1) (by simp [maxLen])
   have hT := NewSl.stp hN
   clear hN
   replace gm := gm.up hT
   replace hws := hws.up hT
   clear hT
   refine D ?_
   refine WD_eff rfl trivial (OE_call rfl (evs3 rfl rfl rfl) (node13_any (b4 :: bm :: X) 6 opsA[q] bv [y0, y1] _ gm.hX hbv)) (fun _ _ h => h.2.mono (by simp)) rfl ?_
   rintro _ wq ⟨⟨ky, rfl, hy⟩, hT⟩
   replace gm := gm.up hT
   clear hT hbv
   refine D ?_
   obtain ⟨cs, hcl, hcb⟩ := gm.blk
   refine WD_eff0 rfl trivial (OE_storeA (us := ndC (.mk 6 0 opsA[q] [y0, y1]) _) rfl rfl rfl rfl (ndC_one (x := (.mk 6 0 opsA[q] [y0, y1])) hy) hcb hcl.symm) (fun _ _ h => h.1.mono (by simp)) ?_
   rintro _ wz ⟨hz, hbz⟩
   refine D ?_
   refine W ?_
   refine WQ_retc rfl rfl rfl hbz rfl ?_
   have hf := gm.fin (y := (.mk 6 0 opsA[q] [y0, y1])) hS0 hb4 hy hz
   exact .mk ⟨_, _, hf.1, .arith _ _ _ _ (List.getElem_mem hqn) g0 g1, hf.2.1, by omega, hf.2.2⟩
 · refine WT1_eff rfl trivial (OE_call rfl (evs2 rfl rfl) (Next3_any bm lv l _ 3 _ (by decide) (by omega) gm.mkr gm.sl hl)) (fun _ _ h => h.choose_spec.2.2.2.mono (by simp)) rfl ?_
   rintro _ wq ⟨q, rfl, hq, hm, hS⟩
   replace gm := gm.nxt hm hS
   replace s0 := s0.ext hS (by simp) (fun _ h => .inl h)
   replace e0 := e0.ext hS (by simp; exact n0)
   clear hm hS
   have hqn : q < opsA.length := by show q < 3; omega
   refine WT_two 0 9 (by kernel_rfl) ?_ ?_
   · refine WT1_eff rfl trivial (OE_buildSlice (vs := [(0, str [43]), (1, str [45]), (2, str [42])]) rfl (bS3 _ _ _)) (fun _ _ h => (NewSl.stp h).mono (by simp)) rfl ?_
     rintro wv wq hN
     have hws : SlV [b4, bm] wq wv opsA := hN.slv (fun c hc => gm.hX c (by simp at hc; rcases hc with rfl | rfl <;> simp)) rfl rfl (by decide)
     have hT := NewSl.stp hN
     clear hN
     replace gm := gm.up hT
     replace s0 := s0.up hT
     replace e0 := e0.up hT
     clear hT
     refine WT_D [(3, 0), (4, 1), (9, 2), (10, 2), (11, 2), (12, 2)] (by kernel_rfl) (by kernel_rfl) (by kernel_rfl) ?_
     refine D ?_
     refine WD_eff rfl trivial (OE_call rfl (evs2 rfl rfl) ((ih.1) (b4 :: bm :: X) _ bm lv l _ _ (by omega) gm.mkr gm.sl hl (by omega) gm.hX)) (fun _ _ h => by obtain ⟨_, _, _, _, _, _, h⟩ := h; exact h.mono (by simp)) rfl ?_
     rintro _ wq ⟨y1, i1, ⟨k1, rfl, s1⟩, g1, hm, hi1, hS⟩
     obtain ⟨p1, c1, rfl, -⟩ := id s1
     replace gm := gm.nxt hm hS
     replace s0 := s0.ext hS (by simp) (fun _ h => .inl h)
     replace e0 := e0.ext hS (by simp; exact n0)
     replace hws := hws.ext hS (by simp) (fun _ h => .inl h)
     clear hm hS
     refine D ?_
     refine WD_eff rfl trivial (OE_buildSlice (vs := [(0, .agg #[.int .i64 y0.kind, .int .i64 y0.num, str y0.word, .slice p0 y0.kids.length c0]), (1, .agg #[.int .i64 y1.kind, .int .i64 y1.num, str y1.word, .slice p1 y1.kids.length c1])]) rfl (buildSN2 _ _ _ _ _ _ _ _ _ _ _ _)) (fun _ _ h => (NewSl.stp h).mono (by simp)) rfl ?_
     rintro bv wq hN
     have hbv : SlV (b4 :: bm :: X) wq bv [y0, y1] := hN.slvG (css := [ndC y0 _, ndC y1 _]) gm.hX rfl rfl rfl (reps2 s0 s1) (by simp [maxLen])
     have hT := NewSl.stp hN
     clear hN
     replace gm := gm.up hT
     replace hws := hws.up hT
     clear hT
     refine D ?_
     refine WD_eff rfl trivial (OE_call rfl (evs3 rfl rfl rfl) (node13_any (b4 :: bm :: X) 6 opsA[q] bv [y0, y1] _ gm.hX hbv)) (fun _ _ h => h.2.mono (by simp)) rfl ?_
     rintro _ wq ⟨⟨ky, rfl, hy⟩, hT⟩
     replace gm := gm.up hT
     clear hT hbv
     refine D ?_
     obtain ⟨cs, hcl, hcb⟩ := gm.blk
     refine WD_eff0 rfl trivial (OE_storeA (us := ndC (.mk 6 0 opsA[q] [y0, y1]) _) rfl rfl rfl rfl (ndC_one (x := (.mk 6 0 opsA[q] [y0, y1])) hy) hcb hcl.symm) (fun _ _ h => h.1.mono (by simp)) ?_
     rintro _ wz ⟨hz, hbz⟩
     refine D ?_
     refine W ?_
     refine WQ_retc rfl rfl rfl hbz rfl ?_
     have hf := gm.fin (y := (.mk 6 0 opsA[q] [y0, y1])) hS0 hb4 hy hz
     exact .mk ⟨_, _, hf.1, .arith _ _ _ _ (List.getElem_mem hqn) g0 g1, hf.2.1, by omega, hf.2.2⟩
   · refine WT1_eff rfl trivial (OE_call rfl (evs2 rfl rfl) ((ih.1) (b4 :: bm :: X) _ bm lv l _ _ (by omega) gm.mkr gm.sl hl (by omega) gm.hX)) (fun _ _ h => by obtain ⟨_, _, _, _, _, _, h⟩ := h; exact h.mono (by simp)) rfl ?_
     rintro _ wq ⟨y1, i1, ⟨k1, rfl, s1⟩, g1, hm, hi1, hS⟩
     obtain ⟨p1, c1, rfl, -⟩ := id s1
     replace gm := gm.nxt hm hS
     replace s0 := s0.ext hS (by simp) (fun _ h => .inl h)
     replace e0 := e0.ext hS (by simp; exact n0)
     clear hm hS
     refine WT_two 0 10 (by kernel_rfl) ?_ ?_
     · refine WT1_eff rfl trivial (OE_buildSlice (vs := [(0, str [43]), (1, str [45]), (2, str [42])]) rfl (bS3 _ _ _)) (fun _ _ h => (NewSl.stp h).mono (by simp)) rfl ?_
       rintro wv wq hN
       have hws : SlV [b4, bm] wq wv opsA := hN.slv (fun c hc => gm.hX c (by simp at hc; rcases hc with rfl | rfl <;> simp)) rfl rfl (by decide)
       have hT := NewSl.stp hN
       clear hN
       replace gm := gm.up hT
       replace s0 := s0.up hT
       replace e0 := e0.up hT
       replace s1 := s1.up hT
       clear hT
       refine WT_D [(3, 0), (4, 1), (10, 2), (11, 2), (12, 2)] (by kernel_rfl) (by kernel_rfl) (by kernel_rfl) ?_
       refine D ?_
       refine D ?_
       refine WD_eff rfl trivial (OE_buildSlice (vs := [(0, .agg #[.int .i64 y0.kind, .int .i64 y0.num, str y0.word, .slice p0 y0.kids.length c0]), (1, .agg #[.int .i64 y1.kind, .int .i64 y1.num, str y1.word, .slice p1 y1.kids.length c1])]) rfl (buildSN2 _ _ _ _ _ _ _ _ _ _ _ _)) (fun _ _ h => (NewSl.stp h).mono (by simp)) rfl ?_
       rintro bv wq hN
       have hbv : SlV (b4 :: bm :: X) wq bv [y0, y1] := hN.slvG (css := [ndC y0 _, ndC y1 _]) gm.hX rfl rfl rfl (reps2 s0 s1) (by simp [maxLen])
       have hT := NewSl.stp hN
       clear hN
       replace gm := gm.up hT
       replace hws := hws.up hT
       clear hT
       refine D ?_
       refine WD_eff rfl trivial (OE_call rfl (evs3 rfl rfl rfl) (node13_any (b4 :: bm :: X) 6 opsA[q] bv [y0, y1] _ gm.hX hbv)) (fun _ _ h => h.2.mono (by simp)) rfl ?_
       rintro _ wq ⟨⟨ky, rfl, hy⟩, hT⟩
       replace gm := gm.up hT
       clear hT hbv
       refine D ?_
       obtain ⟨cs, hcl, hcb⟩ := gm.blk
       refine WD_eff0 rfl trivial (OE_storeA (us := ndC (.mk 6 0 opsA[q] [y0, y1]) _) rfl rfl rfl rfl (ndC_one (x := (.mk 6 0 opsA[q] [y0, y1])) hy) hcb hcl.symm) (fun _ _ h => h.1.mono (by simp)) ?_
       rintro _ wz ⟨hz, hbz⟩
       refine D ?_
       refine W ?_
       refine WQ_retc rfl rfl rfl hbz rfl ?_
       have hf := gm.fin (y := (.mk 6 0 opsA[q] [y0, y1])) hS0 hb4 hy hz
       exact .mk ⟨_, _, hf.1, .arith _ _ _ _ (List.getElem_mem hqn) g0 g1, hf.2.1, by omega, hf.2.2⟩
     · refine WT1_eff rfl trivial (OE_buildSlice (vs := [(0, .agg #[.int .i64 y0.kind, .int .i64 y0.num, str y0.word, .slice p0 y0.kids.length c0]), (1, .agg #[.int .i64 y1.kind, .int .i64 y1.num, str y1.word, .slice p1 y1.kids.length c1])]) rfl (buildSN2 _ _ _ _ _ _ _ _ _ _ _ _)) (fun _ _ h => (NewSl.stp h).mono (by simp)) rfl ?_
       rintro bv wq hN
       have hbv : SlV (b4 :: bm :: X) wq bv [y0, y1] := hN.slvG (css := [ndC y0 _, ndC y1 _]) gm.hX rfl rfl rfl (reps2 s0 s1) (by simp [maxLen])
       have hT := NewSl.stp hN
       clear hN
       replace gm := gm.up hT
       clear hT
       refine WT_D [(0, 2), (3, 0), (4, 1), (11, 2), (12, 2)] (by kernel_rfl) (by kernel_rfl) (by kernel_rfl) ?_
       refine WD_eff rfl trivial (OE_buildSlice (vs := [(0, str [43]), (1, str [45]), (2, str [42])]) rfl (bS3 _ _ _)) (fun _ _ h => (NewSl.stp h).mono (by simp)) rfl ?_
       rintro wv wq hN
       have hws : SlV [b4, bm] wq wv opsA := hN.slv (fun c hc => gm.hX c (by simp at hc; rcases hc with rfl | rfl <;> simp)) rfl rfl (by decide)
       have hT := NewSl.stp hN
       clear hN
       replace gm := gm.up hT
       replace hbv := hbv.up hT
       clear hT
       refine D ?_
       refine D ?_
       refine D ?_
       refine WD_eff rfl trivial (OE_call rfl (evs3 rfl rfl rfl) (node13_any (b4 :: bm :: X) 6 opsA[q] bv [y0, y1] _ gm.hX hbv)) (fun _ _ h => h.2.mono (by simp)) rfl ?_
       rintro _ wq ⟨⟨ky, rfl, hy⟩, hT⟩
       replace gm := gm.up hT
       clear hT hbv
       refine D ?_
       obtain ⟨cs, hcl, hcb⟩ := gm.blk
       refine WD_eff0 rfl trivial (OE_storeA (us := ndC (.mk 6 0 opsA[q] [y0, y1]) _) rfl rfl rfl rfl (ndC_one (x := (.mk 6 0 opsA[q] [y0, y1])) hy) hcb hcl.symm) (fun _ _ h => h.1.mono (by simp)) ?_
       rintro _ wz ⟨hz, hbz⟩
       refine D ?_
       refine W ?_
       refine WQ_retc rfl rfl rfl hbz rfl ?_
       have hf := gm.fin (y := (.mk 6 0 opsA[q] [y0, y1])) hS0 hb4 hy hz
       exact .mk ⟨_, _, hf.1, .arith _ _ _ _ (List.getElem_mem hqn) g0 g1, hf.2.1, by omega, hf.2.2⟩
set_option maxHeartbeats 1000000
theorem Bool3_step (d : Nat) (hd6 : d ≤ 6) (ih : ∀ e, d = e + 1 → GenQ 170 1 e ∧ GenQ 127 2 e ∧ GenQ 128 3 e) : GenQ 127 2 d := by
 intro X w bm lv l i z hz hmk hsl hl hi hX
 subst hz
 have hsz : szD (d + 1) = 1 + 3 * szD d := rfl
 refine calls_of_WC2 (n := 80) Tryz.func127 rfl rfl rfl ?_
 refine W ?_
 refine WL_eff OE_alloc rfl ?_
 rintro _ w1 ⟨b4, rfl, hb4, hblk4, hS0⟩
 have gm : G3 (b4 :: bm :: X) w1 w1 bm b4 lv l i := ⟨hmk.up hS0, hsl.up hS0, Stp.refl _ _, ⟨_, rfl, hblk4⟩, fun h => by have := hmk.lt; omega, fun c hc => by
  simp only [List.mem_cons] at hc
  have h1 := hblk4.lt
  have h2 := hmk.lt
  have h3 := hS0.size
  rcases hc with rfl | rfl | hc
  · exact h1
  · omega
  · have := hX c hc; omega⟩
 clear hblk4 hX hsl hmk
 refine W ?_
 refine CL rfl (evs2 rfl rfl) rfl (Next3_any bm lv l _ 6 _ (by decide) (by omega) gm.mkr gm.sl hl) ?_
 rintro _ wq ⟨q, rfl, hq, hm, hS⟩
 replace gm := gm.nxt hm hS
 clear hm hS
 refine W ?_
 refine CL rfl (evs2 rfl rfl) rfl (Done3_any bm lv l _ d _ _ rfl gm.mkr gm.sl) ?_
 rintro _ wq ⟨dn, rfl, hdn, hT⟩
 replace gm := gm.up hT
 clear hT
 cases dn with
 | true =>
   repeat' (first | refine W1 ?_ | (exfalso; omega) | (refine VG ?_ ?_ <;> intro hg) | (refine VC ?_ ?_ <;> intro hc))
   apply WL_build (vs := [(0, .int .i64 2), (1, .int .i64 (1 - (q : Int) / 5))]) rfl (buildN01 _ _) rfl
   have hy : SlV (α := Nd) (b4 :: bm :: X) _ (.slice none 0 0) [] := nilSlv _ wq
   obtain ⟨cs, hcl, hcb⟩ := gm.blk
   refine WL_eff0 (OE_storeA (us := ndC (.mk 2 (1 - (q : Int) / 5) [] []) _) rfl rfl rfl rfl (ndC_one (x := (.mk 2 (1 - (q : Int) / 5) [] [])) hy) hcb hcl.symm) ?_
   rintro _ wz ⟨hz, hbz⟩
   refine W ?_
   refine WQ_retc rfl rfl rfl hbz rfl ?_
   have hf := gm.fin (y := (.mk 2 (1 - (q : Int) / 5) [] [])) hS0 hb4 hy hz
   exact .mk ⟨_, _, hf.1, .bool _ _ (by omega), hf.2.1, by omega, hf.2.2⟩
 | false =>
   have hd1 : d ≠ 0 := fun h => absurd (hdn h) (by decide)
   obtain ⟨e, rfl⟩ : ∃ e, d = e + 1 := ⟨d - 1, by omega⟩
   replace ih := ih e rfl
   have hsp := szD_pos e
   clear hd1 hdn
   by_cases k0 : q = 0
   · repeat' (first | refine W1 ?_ | (exfalso; omega) | (refine VG ?_ ?_ <;> intro hg) | (refine VC ?_ ?_ <;> intro hc))
     refine CL rfl (evs2 rfl rfl) rfl (Next3_any bm lv l _ 2 _ (by decide) (by omega) gm.mkr gm.sl hl) ?_
     rintro _ wq ⟨q', rfl, hq', hm, hS⟩
     replace gm := gm.nxt hm hS
     clear hm hS
     refine W ?_
     apply WL_build (vs := [(0, .int .i64 2), (1, .int .i64 _)]) rfl (buildN01 _ _) rfl
     have hy : SlV (α := Nd) (b4 :: bm :: X) _ (.slice none 0 0) [] := nilSlv _ wq
     obtain ⟨cs, hcl, hcb⟩ := gm.blk
     refine WL_eff0 (OE_storeA (us := ndC (.mk 2 (q' : Int) [] []) _) rfl rfl rfl rfl (ndC_one (x := (.mk 2 (q' : Int) [] [])) hy) hcb hcl.symm) ?_
     rintro _ wz ⟨hz, hbz⟩
     refine W ?_
     refine WQ_retc rfl rfl rfl hbz rfl ?_
     have hf := gm.fin (y := (.mk 2 (q' : Int) [] [])) hS0 hb4 hy hz
     exact .mk ⟨_, _, hf.1, .bool _ _ (by omega), hf.2.1, by omega, hf.2.2⟩
   by_cases k1 : q = 1
   · repeat' (first | refine W1 ?_ | (exfalso; omega) | (refine VG ?_ ?_ <;> intro hg) | (refine VC ?_ ?_ <;> intro hc))
     refine W ?_
     refine CL rfl (evs2 rfl rfl) rfl ((ih.2.1) (b4 :: bm :: X) _ bm lv l _ _ (by omega) gm.mkr gm.sl hl (by omega) gm.hX) ?_
     rintro _ wq ⟨y0, i0, ⟨k0, rfl, s0⟩, g0, hm, hi0, hS⟩
     obtain ⟨p0, c0, rfl, -⟩ := id s0
     replace gm := gm.nxt hm hS
     clear hm hS
     refine W ?_
     refine WL_eff (OE_buildSlice (vs := [(0, .agg #[.int .i64 y0.kind, .int .i64 y0.num, str y0.word, .slice p0 y0.kids.length c0])]) rfl (buildSN1 _ _ _ _ _ _)) rfl ?_
     rintro bv wq hN
     have hbv : SlV (b4 :: bm :: X) wq bv [y0] := hN.slvG (css := [ndC y0 _]) gm.hX rfl rfl rfl (reps1 s0) (by simp [maxLen])
     have hT := NewSl.stp hN
     clear hN
     replace gm := gm.up hT
     clear hT
     refine W ?_
     refine CL rfl (evs3 rfl rfl rfl) rfl (node13_any (b4 :: bm :: X) 5 [110, 111, 116] bv [y0] _ gm.hX hbv) ?_
     rintro _ wq ⟨⟨ky, rfl, hy⟩, hT⟩
     replace gm := gm.up hT
     clear hT hbv
     refine W ?_
     obtain ⟨cs, hcl, hcb⟩ := gm.blk
     refine WL_eff0 (OE_storeA (us := ndC (.mk 5 0 [110, 111, 116] [y0]) _) rfl rfl rfl rfl (ndC_one (x := (.mk 5 0 [110, 111, 116] [y0])) hy) hcb hcl.symm) ?_
     rintro _ wz ⟨hz, hbz⟩
     refine W ?_
     refine WQ_retc rfl rfl rfl hbz rfl ?_
     have hf := gm.fin (y := (.mk 5 0 [110, 111, 116] [y0])) hS0 hb4 hy hz
     exact .mk ⟨_, _, hf.1, .not _ _ g0, hf.2.1, by omega, hf.2.2⟩
   by_cases k2 : q = 2
   · repeat' (first | refine W1 ?_ | (exfalso; omega) | (refine VG ?_ ?_ <;> intro hg) | (refine VC ?_ ?_ <;> intro hc))
     refine W ?_
     refine CL rfl (evs2 rfl rfl) rfl ((ih.2.1) (b4 :: bm :: X) _ bm lv l _ _ (by omega) gm.mkr gm.sl hl (by omega) gm.hX) ?_
     rintro _ wq ⟨y0, i0, ⟨k0, rfl, s0⟩, g0, hm, hi0, hS⟩
     obtain ⟨p0, c0, rfl, -⟩ := id s0
     replace gm := gm.nxt hm hS
     clear hm hS
     refine WL_eff OE_alloc rfl ?_
     rintro _ wq ⟨b0', rfl, hb0', e0, hT⟩
     refine WL_eff0 (OE_storeA (us := ndC y0 _) rfl rfl rfl rfl (ndC_one s0) e0 rfl) ?_
     rintro _ wq ⟨hT2, e0⟩
     replace hT := keep_node hT hb0' hT2
     clear hT2
     have n0 : b0' ≠ bm := fun h => by have := gm.mkr.lt; omega
     have n0' : b0' ≠ b4 := fun h => by obtain ⟨_, _, hc⟩ := gm.blk; have := hc.lt; omega
     replace gm := gm.up hT
     replace s0 := s0.up hT
     clear hT hb0'
     refine W ?_
     refine WC_drawnT 13 [b4, bm] [] rfl mixed (fun w1 hS1 => ?_)
     have hT := hS1
     replace gm := gm.up hT
     replace s0 := s0.up hT
     replace e0 := e0.up hT
     clear hT hS1
     refine WT_free 1 rfl trivial (fun w' => PR_move rfl) rfl (by kernel_rfl) (by kernel_rfl) ?_
     refine WT_read 5 rfl trivial (fun w' hS' => PR_load_blkA rfl rfl (e0.ext hS' (by simp; exact ⟨n0', n0⟩)) rfl) rfl (by kernel_rfl) (by kernel_rfl) ?_
     refine WT_free 6 rfl trivial (fun w' => PR_move rfl) rfl (by kernel_rfl) (by kernel_rfl) ?_
     refine WT_free 7 rfl trivial (fun w' => PR_move rfl) rfl (by kernel_rfl) (by kernel_rfl) ?_
     refine WT_free 8 rfl trivial (fun w' => PR_sub rfl rfl (by unfold I64; omega)) rfl (by kernel_rfl) (by kernel_rfl) ?_
     refine WT_two 0 2 (by kernel_rfl) ?_ ?_
     · refine WT1_eff rfl trivial (OE_buildSlice (vs := [(0, str [97, 110, 100]), (1, str [111, 114])]) rfl (bS2 _ _)) (fun _ _ h => (NewSl.stp h).mono (by simp)) rfl ?_
       rintro wv wq hN
       have hws : SlV [b4, bm] wq wv opsL := hN.slv (fun c hc => gm.hX c (by simp at hc; rcases hc with rfl | rfl <;> simp)) rfl rfl (by decide)
       have hT := NewSl.stp hN
       clear hN
       replace gm := gm.up hT
       replace s0 := s0.up hT
       replace e0 := e0.up hT
       clear hT
       refine WT_D [(2, 2), (3, 0), (4, 1), (9, 2), (10, 2), (11, 2), (12, 2)] (by kernel_rfl) (by kernel_rfl) (by kernel_rfl) ?_
       refine WD_eff rfl trivial (OE_call rfl (evs2 rfl rfl) (Next3_any bm lv l _ 2 _ (by decide) (by omega) gm.mkr gm.sl hl)) (fun _ _ h => h.choose_spec.2.2.2.mono (by simp)) rfl ?_
       rintro _ wq ⟨q, rfl, hq, hm, hS⟩
       replace gm := gm.nxt hm hS
       replace s0 := s0.ext hS (by simp) (fun _ h => .inl h)
       replace e0 := e0.ext hS (by simp; exact n0)
       replace hws := hws.ext hS (by simp) (fun _ h => .inl h)
       clear hm hS
       have hqn : q < opsL.length := by show q < 2; omega
       refine D ?_
       refine WD_eff rfl trivial (OE_call rfl (evs2 rfl rfl) ((ih.2.1) (b4 :: bm :: X) _ bm lv l _ _ (by omega) gm.mkr gm.sl hl (by omega) gm.hX)) (fun _ _ h => by obtain ⟨_, _, _, _, _, _, h⟩ := h; exact h.mono (by simp)) rfl ?_
       rintro _ wq ⟨y1, i1, ⟨k1, rfl, s1⟩, g1, hm, hi1, hS⟩
       obtain ⟨p1, c1, rfl, -⟩ := id s1
       replace gm := gm.nxt hm hS
       replace s0 := s0.ext hS (by simp) (fun _ h => .inl h)
       replace e0 := e0.ext hS (by simp; exact n0)
       replace hws := hws.ext hS (by simp) (fun _ h => .inl h)
       clear hm hS
       refine D ?_
       refine WD_eff rfl trivial (OE_buildSlice (vs := [(0, .agg #[.int .i64 y0.kind, .int .i64 y0.num, str y0.word, .slice p0 y0.kids.length c0]), (1, .agg #[.int .i64 y1.kind, .int .i64 y1.num, str y1.word, .slice p1 y1.kids.length c1])]) rfl (buildSN2 _ _ _ _ _ _ _ _ _ _ _ _)) (fun _ _ h => (NewSl.stp h).mono (by simp)) rfl ?_
       rintro bv wq hN
       have hbv : SlV (b4 :: bm :: X) wq bv [y0, y1] := hN.slvG (css := [ndC y0 _, ndC y1 _]) gm.hX rfl rfl rfl (reps2 s0 s1) (by simp [maxLen])
       have hT := NewSl.stp hN
       clear hN
       replace gm := gm.up hT
       replace hws := hws.up hT
       clear hT
       refine D ?_
       refine WD_eff rfl trivial (OE_call rfl (evs3 rfl rfl rfl) (node13_any (b4 :: bm :: X) 6 opsL[q] bv [y0, y1] _ gm.hX hbv)) (fun _ _ h => h.2.mono (by simp)) rfl ?_
       rintro _ wq ⟨⟨ky, rfl, hy⟩, hT⟩
       replace gm := gm.up hT
       clear hT hbv
       refine D ?_
       obtain ⟨cs, hcl, hcb⟩ := gm.blk
       refine WD_eff0 rfl trivial (OE_storeA (us := ndC (.mk 6 0 opsL[q] [y0, y1]) _) rfl rfl rfl rfl (ndC_one (x := (.mk 6 0 opsL[q] [y0, y1])) hy) hcb hcl.symm) (fun _ _ h => h.1.mono (by simp)) ?_
       rintro _ wz ⟨hz, hbz⟩
       refine D ?_
       refine W ?_
       refine WQ_retc rfl rfl rfl hbz rfl ?_
       have hf := gm.fin (y := (.mk 6 0 opsL[q] [y0, y1])) hS0 hb4 hy hz
       exact .mk ⟨_, _, hf.1, .logic _ _ _ _ (List.getElem_mem hqn) g0 g1, hf.2.1, by omega, hf.2.2⟩
     · refine WT1_eff rfl trivial (OE_call rfl (evs2 rfl rfl) (Next3_any bm lv l _ 2 _ (by decide) (by omega) gm.mkr gm.sl hl)) (fun _ _ h => h.choose_spec.2.2.2.mono (by simp)) rfl ?_
       rintro _ wq ⟨q, rfl, hq, hm, hS⟩
       replace gm := gm.nxt hm hS
       replace s0 := s0.ext hS (by simp) (fun _ h => .inl h)
       replace e0 := e0.ext hS (by simp; exact n0)
       clear hm hS
       have hqn : q < opsL.length := by show q < 2; omega
       refine WT_two 0 9 (by kernel_rfl) ?_ ?_
       · refine WT1_eff rfl trivial (OE_buildSlice (vs := [(0, str [97, 110, 100]), (1, str [111, 114])]) rfl (bS2 _ _)) (fun _ _ h => (NewSl.stp h).mono (by simp)) rfl ?_
         rintro wv wq hN
         have hws : SlV [b4, bm] wq wv opsL := hN.slv (fun c hc => gm.hX c (by simp at hc; rcases hc with rfl | rfl <;> simp)) rfl rfl (by decide)
         have hT := NewSl.stp hN
         clear hN
         replace gm := gm.up hT
         replace s0 := s0.up hT
         replace e0 := e0.up hT
         clear hT
         refine WT_D [(3, 0), (4, 1), (9, 2), (10, 2), (11, 2), (12, 2)] (by kernel_rfl) (by kernel_rfl) (by kernel_rfl) ?_
         refine D ?_
         refine WD_eff rfl trivial (OE_call rfl (evs2 rfl rfl) ((ih.2.1) (b4 :: bm :: X) _ bm lv l _ _ (by omega) gm.mkr gm.sl hl (by omega) gm.hX)) (fun _ _ h => by obtain ⟨_, _, _, _, _, _, h⟩ := h; exact h.mono (by simp)) rfl ?_
         rintro _ wq ⟨y1, i1, ⟨k1, rfl, s1⟩, g1, hm, hi1, hS⟩
         obtain ⟨p1, c1, rfl, -⟩ := id s1
         replace gm := gm.nxt hm hS
         replace s0 := s0.ext hS (by simp) (fun _ h => .inl h)
         replace e0 := e0.ext hS (by simp; exact n0)
         replace hws := hws.ext hS (by simp) (fun _ h => .inl h)
         clear hm hS
         refine D ?_
         refine WD_eff rfl trivial (OE_buildSlice (vs := [(0, .agg #[.int .i64 y0.kind, .int .i64 y0.num, str y0.word, .slice p0 y0.kids.length c0]), (1, .agg #[.int .i64 y1.kind, .int .i64 y1.num, str y1.word, .slice p1 y1.kids.length c1])]) rfl (buildSN2 _ _ _ _ _ _ _ _ _ _ _ _)) (fun _ _ h => (NewSl.stp h).mono (by simp)) rfl ?_
         rintro bv wq hN
         have hbv : SlV (b4 :: bm :: X) wq bv [y0, y1] := hN.slvG (css := [ndC y0 _, ndC y1 _]) gm.hX rfl rfl rfl (reps2 s0 s1) (by simp [maxLen])
         have hT := NewSl.stp hN
         clear hN
         replace gm := gm.up hT
         replace hws := hws.up hT
         clear hT
         refine D ?_
         refine WD_eff rfl trivial (OE_call rfl (evs3 rfl rfl rfl) (node13_any (b4 :: bm :: X) 6 opsL[q] bv [y0, y1] _ gm.hX hbv)) (fun _ _ h => h.2.mono (by simp)) rfl ?_
         rintro _ wq ⟨⟨ky, rfl, hy⟩, hT⟩
         replace gm := gm.up hT
         clear hT hbv
         refine D ?_
         obtain ⟨cs, hcl, hcb⟩ := gm.blk
         refine WD_eff0 rfl trivial (OE_storeA (us := ndC (.mk 6 0 opsL[q] [y0, y1]) _) rfl rfl rfl rfl (ndC_one (x := (.mk 6 0 opsL[q] [y0, y1])) hy) hcb hcl.symm) (fun _ _ h => h.1.mono (by simp)) ?_
         rintro _ wz ⟨hz, hbz⟩
         refine D ?_
         refine W ?_
         refine WQ_retc rfl rfl rfl hbz rfl ?_
         have hf := gm.fin (y := (.mk 6 0 opsL[q] [y0, y1])) hS0 hb4 hy hz
         exact .mk ⟨_, _, hf.1, .logic _ _ _ _ (List.getElem_mem hqn) g0 g1, hf.2.1, by omega, hf.2.2⟩
       · refine WT1_eff rfl trivial (OE_call rfl (evs2 rfl rfl) ((ih.2.1) (b4 :: bm :: X) _ bm lv l _ _ (by omega) gm.mkr gm.sl hl (by omega) gm.hX)) (fun _ _ h => by obtain ⟨_, _, _, _, _, _, h⟩ := h; exact h.mono (by simp)) rfl ?_
         rintro _ wq ⟨y1, i1, ⟨k1, rfl, s1⟩, g1, hm, hi1, hS⟩
         obtain ⟨p1, c1, rfl, -⟩ := id s1
         replace gm := gm.nxt hm hS
         replace s0 := s0.ext hS (by simp) (fun _ h => .inl h)
         replace e0 := e0.ext hS (by simp; exact n0)
         clear hm hS
         refine WT_two 0 10 (by kernel_rfl) ?_ ?_
         · refine WT1_eff rfl trivial (OE_buildSlice (vs := [(0, str [97, 110, 100]), (1, str [111, 114])]) rfl (bS2 _ _)) (fun _ _ h => (NewSl.stp h).mono (by simp)) rfl ?_
           rintro wv wq hN
           have hws : SlV [b4, bm] wq wv opsL := hN.slv (fun c hc => gm.hX c (by simp at hc; rcases hc with rfl | rfl <;> simp)) rfl rfl (by decide)
           have hT := NewSl.stp hN
           clear hN
           replace gm := gm.up hT
           replace s0 := s0.up hT
           replace e0 := e0.up hT
           replace s1 := s1.up hT
           clear hT
           refine WT_D [(3, 0), (4, 1), (10, 2), (11, 2), (12, 2)] (by kernel_rfl) (by kernel_rfl) (by kernel_rfl) ?_
           refine D ?_
           refine D ?_
           refine WD_eff rfl trivial (OE_buildSlice (vs := [(0, .agg #[.int .i64 y0.kind, .int .i64 y0.num, str y0.word, .slice p0 y0.kids.length c0]), (1, .agg #[.int .i64 y1.kind, .int .i64 y1.num, str y1.word, .slice p1 y1.kids.length c1])]) rfl (buildSN2 _ _ _ _ _ _ _ _ _ _ _ _)) (fun _ _ h => (NewSl.stp h).mono (by simp)) rfl ?_
           rintro bv wq hN
           have hbv : SlV (b4 :: bm :: X) wq bv [y0, y1] := hN.slvG (css := [ndC y0 _, ndC y1 _]) gm.hX rfl rfl rfl (reps2 s0 s1) (by simp [maxLen])
           have hT := NewSl.stp hN
           clear hN
           replace gm := gm.up hT
           replace hws := hws.up hT
           clear hT
           refine D ?_
           refine WD_eff rfl trivial (OE_call rfl (evs3 rfl rfl rfl) (node13_any (b4 :: bm :: X) 6 opsL[q] bv [y0, y1] _ gm.hX hbv)) (fun _ _ h => h.2.mono (by simp)) rfl ?_
           rintro _ wq ⟨⟨ky, rfl, hy⟩, hT⟩
           replace gm := gm.up hT
           clear hT hbv
           refine D ?_
           obtain ⟨cs, hcl, hcb⟩ := gm.blk
           refine WD_eff0 rfl trivial (OE_storeA (us := ndC (.mk 6 0 opsL[q] [y0, y1]) _) rfl rfl rfl rfl (ndC_one (x := (.mk 6 0 opsL[q] [y0, y1])) hy) hcb hcl.symm) (fun _ _ h => h.1.mono (by simp)) ?_
           rintro _ wz ⟨hz, hbz⟩
           refine D ?_
           refine W ?_
           refine WQ_retc rfl rfl rfl hbz rfl ?_
           have hf := gm.fin (y := (.mk 6 0 opsL[q] [y0, y1])) hS0 hb4 hy hz
           exact .mk ⟨_, _, hf.1, .logic _ _ _ _ (List.getElem_mem hqn) g0 g1, hf.2.1, by omega, hf.2.2⟩
         · refine WT1_eff rfl trivial (OE_buildSlice (vs := [(0, .agg #[.int .i64 y0.kind, .int .i64 y0.num, str y0.word, .slice p0 y0.kids.length c0]), (1, .agg #[.int .i64 y1.kind, .int .i64 y1.num, str y1.word, .slice p1 y1.kids.length c1])]) rfl (buildSN2 _ _ _ _ _ _ _ _ _ _ _ _)) (fun _ _ h => (NewSl.stp h).mono (by simp)) rfl ?_
           rintro bv wq hN
           have hbv : SlV (b4 :: bm :: X) wq bv [y0, y1] := hN.slvG (css := [ndC y0 _, ndC y1 _]) gm.hX rfl rfl rfl (reps2 s0 s1) (by simp [maxLen])
           have hT := NewSl.stp hN
           clear hN
           replace gm := gm.up hT
           clear hT
           refine WT_D [(0, 2), (3, 0), (4, 1), (11, 2), (12, 2)] (by kernel_rfl) (by kernel_rfl) (by kernel_rfl) ?_
           refine WD_eff rfl trivial (OE_buildSlice (vs := [(0, str [97, 110, 100]), (1, str [111, 114])]) rfl (bS2 _ _)) (fun _ _ h => (NewSl.stp h).mono (by simp)) rfl ?_
           rintro wv wq hN
           have hws : SlV [b4, bm] wq wv opsL := hN.slv (fun c hc => gm.hX c (by simp at hc; rcases hc with rfl | rfl <;> simp)) rfl rfl (by decide)
           have hT := NewSl.stp hN
           clear hN
           replace gm := gm.up hT
           replace hbv := hbv.up hT
           clear hT
           refine D ?_
           refine D ?_
           refine D ?_
           refine WD_eff rfl trivial (OE_call rfl (evs3 rfl rfl rfl) (node13_any (b4 :: bm :: X) 6 opsL[q] bv [y0, y1] _ gm.hX hbv)) (fun _ _ h => h.2.mono (by simp)) rfl ?_
           rintro _ wq ⟨⟨ky, rfl, hy⟩, hT⟩
           replace gm := gm.up hT
           clear hT hbv
           refine D ?_
           obtain ⟨cs, hcl, hcb⟩ := gm.blk
           refine WD_eff0 rfl trivial (OE_storeA (us := ndC (.mk 6 0 opsL[q] [y0, y1]) _) rfl rfl rfl rfl (ndC_one (x := (.mk 6 0 opsL[q] [y0, y1])) hy) hcb hcl.symm) (fun _ _ h => h.1.mono (by simp)) ?_
           rintro _ wz ⟨hz, hbz⟩
           refine D ?_
           refine W ?_
           refine WQ_retc rfl rfl rfl hbz rfl ?_
           have hf := gm.fin (y := (.mk 6 0 opsL[q] [y0, y1])) hS0 hb4 hy hz
           exact .mk ⟨_, _, hf.1, .logic _ _ _ _ (List.getElem_mem hqn) g0 g1, hf.2.1, by omega, hf.2.2⟩
   by_cases k3 : q = 3
   · repeat' (first | refine W1 ?_ | (exfalso; omega) | (refine VG ?_ ?_ <;> intro hg) | (refine VC ?_ ?_ <;> intro hc))
     refine W ?_
     refine CL rfl (evs2 rfl rfl) rfl ((ih.2.2) (b4 :: bm :: X) _ bm lv l _ _ (by omega) gm.mkr gm.sl hl (by omega) gm.hX) ?_
     rintro _ wq ⟨y0, i0, ⟨k0, rfl, s0⟩, g0, hm, hi0, hS⟩
     obtain ⟨p0, c0, rfl, -⟩ := id s0
     replace gm := gm.nxt hm hS
     clear hm hS
     refine WL_eff OE_alloc rfl ?_
     rintro _ wq ⟨b0', rfl, hb0', e0, hT⟩
     refine WL_eff0 (OE_storeA (us := ndC y0 _) rfl rfl rfl rfl (ndC_one s0) e0 rfl) ?_
     rintro _ wq ⟨hT2, e0⟩
     replace hT := keep_node hT hb0' hT2
     clear hT2
     have n0 : b0' ≠ bm := fun h => by have := gm.mkr.lt; omega
     have n0' : b0' ≠ b4 := fun h => by obtain ⟨_, _, hc⟩ := gm.blk; have := hc.lt; omega
     replace gm := gm.up hT
     replace s0 := s0.up hT
     clear hT hb0'
     refine W ?_
     refine WC_drawn 11 ([b4, bm]) [] [(0, 0), (3, 1), (4, 0), (5, 0), (6, 0), (1, 2), (2, 2), (7, 2), (8, 2), (9, 2), (10, 2)] rfl mixed (by kernel_rfl) (by kernel_rfl) (by kernel_rfl) (fun w1 hS1 => ?_)
     have hT := hS1
     replace gm := gm.up hT
     replace s0 := s0.up hT
     replace e0 := e0.up hT
     clear hT hS1
     refine D ?_
     refine WD_eff rfl trivial (OE_call rfl (evs2 rfl rfl) (Next3_any bm lv l _ 6 _ (by decide) (by omega) gm.mkr gm.sl hl)) (fun _ _ h => h.choose_spec.2.2.2.mono (by simp)) rfl ?_
     rintro _ wq ⟨q', rfl, hq', hm, hS⟩
     replace gm := gm.nxt hm hS
     replace s0 := s0.ext hS (by simp) (fun _ h => .inl h)
     replace e0 := e0.ext hS (by simp; exact n0)
     clear hm hS
     refine D ?_
     refine WD_eff rfl trivial (OE_call rfl (evs1 rfl) (compared_any q' _ (by omega))) (fun _ _ h => h.2.mono (by simp)) rfl ?_
     rintro _ wq ⟨⟨op, hop, rfl⟩, hT⟩
     replace gm := gm.up hT
     replace s0 := s0.up hT
     replace e0 := e0.up hT
     clear hT
     refine D ?_
     refine WD_eff rfl trivial (OE_call rfl (evs2 rfl rfl) ((ih.2.2) (b4 :: bm :: X) _ bm lv l _ _ (by omega) gm.mkr gm.sl hl (by omega) gm.hX)) (fun _ _ h => by obtain ⟨_, _, _, _, _, _, h⟩ := h; exact h.mono (by simp)) rfl ?_
     rintro _ wq ⟨y1, i1, ⟨k1, rfl, s1⟩, g1, hm, hi1, hS⟩
     obtain ⟨p1, c1, rfl, -⟩ := id s1
     replace gm := gm.nxt hm hS
     replace s0 := s0.ext hS (by simp) (fun _ h => .inl h)
     replace e0 := e0.ext hS (by simp; exact n0)
     clear hm hS
     refine D ?_
     refine WD_eff rfl trivial (OE_buildSlice (vs := [(0, .agg #[.int .i64 y0.kind, .int .i64 y0.num, str y0.word, .slice p0 y0.kids.length c0]), (1, .agg #[.int .i64 y1.kind, .int .i64 y1.num, str y1.word, .slice p1 y1.kids.length c1])]) rfl (buildSN2 _ _ _ _ _ _ _ _ _ _ _ _)) (fun _ _ h => (NewSl.stp h).mono (by simp)) rfl ?_
     rintro bv wq hN
     have hbv : SlV (b4 :: bm :: X) wq bv [y0, y1] := hN.slvG (css := [ndC y0 _, ndC y1 _]) gm.hX rfl rfl rfl (reps2 s0 s1) (by simp [maxLen])
     have hT := NewSl.stp hN
     clear hN
     replace gm := gm.up hT
     clear hT
     refine D ?_
     refine WD_eff rfl trivial (OE_call rfl (evs3 rfl rfl rfl) (node13_any (b4 :: bm :: X) 6 op bv [y0, y1] _ gm.hX hbv)) (fun _ _ h => h.2.mono (by simp)) rfl ?_
     rintro _ wq ⟨⟨ky, rfl, hy⟩, hT⟩
     replace gm := gm.up hT
     clear hT hbv
     refine D ?_
     obtain ⟨cs, hcl, hcb⟩ := gm.blk
     refine WD_eff0 rfl trivial (OE_storeA (us := ndC (.mk 6 0 op [y0, y1]) _) rfl rfl rfl rfl (ndC_one (x := (.mk 6 0 op [y0, y1])) hy) hcb hcl.symm) (fun _ _ h => h.1.mono (by simp)) ?_
     rintro _ wz ⟨hz, hbz⟩
     refine D ?_
     refine W ?_
     refine WQ_retc rfl rfl rfl hbz rfl ?_
     have hf := gm.fin (y := (.mk 6 0 op [y0, y1])) hS0 hb4 hy hz
     exact .mk ⟨_, _, hf.1, .cmp _ 3 _ _ _ (by decide) hop g0 g1, hf.2.1, by omega, hf.2.2⟩
   repeat' (first | refine W1 ?_ | (exfalso; omega) | (refine VG ?_ ?_ <;> intro hg) | (refine VC ?_ ?_ <;> intro hc))
   refine W ?_
   refine CL rfl (evs2 rfl rfl) rfl ((ih.1) (b4 :: bm :: X) _ bm lv l _ _ (by omega) gm.mkr gm.sl hl (by omega) gm.hX) ?_
   rintro _ wq ⟨y0, i0, ⟨k0, rfl, s0⟩, g0, hm, hi0, hS⟩
   obtain ⟨p0, c0, rfl, -⟩ := id s0
   replace gm := gm.nxt hm hS
   clear hm hS
   refine WL_eff OE_alloc rfl ?_
   rintro _ wq ⟨b0', rfl, hb0', e0, hT⟩
   refine WL_eff0 (OE_storeA (us := ndC y0 _) rfl rfl rfl rfl (ndC_one s0) e0 rfl) ?_
   rintro _ wq ⟨hT2, e0⟩
   replace hT := keep_node hT hb0' hT2
   clear hT2
   have n0 : b0' ≠ bm := fun h => by have := gm.mkr.lt; omega
   have n0' : b0' ≠ b4 := fun h => by obtain ⟨_, _, hc⟩ := gm.blk; have := hc.lt; omega
   replace gm := gm.up hT
   replace s0 := s0.up hT
   clear hT hb0'
   refine W ?_
   refine WC_drawn 11 ([b4, bm]) [] [(0, 0), (3, 1), (4, 0), (5, 0), (6, 0), (1, 2), (2, 2), (7, 2), (8, 2), (9, 2), (10, 2)] rfl mixed (by kernel_rfl) (by kernel_rfl) (by kernel_rfl) (fun w1 hS1 => ?_)
   have hT := hS1
   replace gm := gm.up hT
   replace s0 := s0.up hT
   replace e0 := e0.up hT
   clear hT hS1
   refine D ?_
   refine WD_eff rfl trivial (OE_call rfl (evs2 rfl rfl) (Next3_any bm lv l _ 6 _ (by decide) (by omega) gm.mkr gm.sl hl)) (fun _ _ h => h.choose_spec.2.2.2.mono (by simp)) rfl ?_
   rintro _ wq ⟨q', rfl, hq', hm, hS⟩
   replace gm := gm.nxt hm hS
   replace s0 := s0.ext hS (by simp) (fun _ h => .inl h)
   replace e0 := e0.ext hS (by simp; exact n0)
   clear hm hS
   refine D ?_
   refine WD_eff rfl trivial (OE_call rfl (evs1 rfl) (compared_any q' _ (by omega))) (fun _ _ h => h.2.mono (by simp)) rfl ?_
   rintro _ wq ⟨⟨op, hop, rfl⟩, hT⟩
   replace gm := gm.up hT
   replace s0 := s0.up hT
   replace e0 := e0.up hT
   clear hT
   refine D ?_
   refine WD_eff rfl trivial (OE_call rfl (evs2 rfl rfl) ((ih.1) (b4 :: bm :: X) _ bm lv l _ _ (by omega) gm.mkr gm.sl hl (by omega) gm.hX)) (fun _ _ h => by obtain ⟨_, _, _, _, _, _, h⟩ := h; exact h.mono (by simp)) rfl ?_
   rintro _ wq ⟨y1, i1, ⟨k1, rfl, s1⟩, g1, hm, hi1, hS⟩
   obtain ⟨p1, c1, rfl, -⟩ := id s1
   replace gm := gm.nxt hm hS
   replace s0 := s0.ext hS (by simp) (fun _ h => .inl h)
   replace e0 := e0.ext hS (by simp; exact n0)
   clear hm hS
   refine D ?_
   refine WD_eff rfl trivial (OE_buildSlice (vs := [(0, .agg #[.int .i64 y0.kind, .int .i64 y0.num, str y0.word, .slice p0 y0.kids.length c0]), (1, .agg #[.int .i64 y1.kind, .int .i64 y1.num, str y1.word, .slice p1 y1.kids.length c1])]) rfl (buildSN2 _ _ _ _ _ _ _ _ _ _ _ _)) (fun _ _ h => (NewSl.stp h).mono (by simp)) rfl ?_
   rintro bv wq hN
   have hbv : SlV (b4 :: bm :: X) wq bv [y0, y1] := hN.slvG (css := [ndC y0 _, ndC y1 _]) gm.hX rfl rfl rfl (reps2 s0 s1) (by simp [maxLen])
   have hT := NewSl.stp hN
   clear hN
   replace gm := gm.up hT
   clear hT
   refine D ?_
   refine WD_eff rfl trivial (OE_call rfl (evs3 rfl rfl rfl) (node13_any (b4 :: bm :: X) 6 op bv [y0, y1] _ gm.hX hbv)) (fun _ _ h => h.2.mono (by simp)) rfl ?_
   rintro _ wq ⟨⟨ky, rfl, hy⟩, hT⟩
   replace gm := gm.up hT
   clear hT hbv
   refine D ?_
   obtain ⟨cs, hcl, hcb⟩ := gm.blk
   refine WD_eff0 rfl trivial (OE_storeA (us := ndC (.mk 6 0 op [y0, y1]) _) rfl rfl rfl rfl (ndC_one (x := (.mk 6 0 op [y0, y1])) hy) hcb hcl.symm) (fun _ _ h => h.1.mono (by simp)) ?_
   rintro _ wz ⟨hz, hbz⟩
   refine D ?_
   refine W ?_
   refine WQ_retc rfl rfl rfl hbz rfl ?_
   have hf := gm.fin (y := (.mk 6 0 op [y0, y1])) hS0 hb4 hy hz
   exact .mk ⟨_, _, hf.1, .cmp _ 1 _ _ _ (by decide) hop g0 g1, hf.2.1, by omega, hf.2.2⟩
set_option maxHeartbeats 1000000
def units5 : List Str := [[100, 97, 121, 115], [100, 97, 121, 115], [99, 111, 117, 114, 116, 100, 97, 121, 115], [119, 101, 101, 107, 115], [109, 111, 110, 116, 104, 115]]
theorem units5_mem : ∀ s ∈ units5, s ∈ units := by decide
theorem Date3_step (d : Nat) (hd6 : d ≤ 6) (ih : ∀ e, d = e + 1 → GenQ 170 1 e ∧ GenQ 127 2 e ∧ GenQ 128 3 e) : GenQ 128 3 d := by
 intro X w bm lv l i z hz hmk hsl hl hi hX
 subst hz
 have hsz : szD (d + 1) = 1 + 3 * szD d := rfl
 refine calls_of_WC2 (n := 107) Tryz.func128 rfl rfl rfl ?_
 refine W ?_
 refine WL_eff OE_alloc rfl ?_
 rintro _ w1 ⟨b4, rfl, hb4, hblk4, hS0⟩
 have gm : G3 (b4 :: bm :: X) w1 w1 bm b4 lv l i := ⟨hmk.up hS0, hsl.up hS0, Stp.refl _ _, ⟨_, rfl, hblk4⟩, fun h => by have := hmk.lt; omega, fun c hc => by
  simp only [List.mem_cons] at hc
  have h1 := hblk4.lt
  have h2 := hmk.lt
  have h3 := hS0.size
  rcases hc with rfl | rfl | hc
  · exact h1
  · omega
  · have := hX c hc; omega⟩
 clear hblk4 hX hsl hmk
 refine W ?_
 refine CL rfl (evs2 rfl rfl) rfl (Next3_any bm lv l _ 10 _ (by decide) (by omega) gm.mkr gm.sl hl) ?_
 rintro _ wq ⟨q, rfl, hq, hm, hS⟩
 replace gm := gm.nxt hm hS
 clear hm hS
 refine W ?_
 refine CL rfl (evs2 rfl rfl) rfl (Done3_any bm lv l _ d _ _ rfl gm.mkr gm.sl) ?_
 rintro _ wq ⟨dn, rfl, hdn, hT⟩
 replace gm := gm.up hT
 clear hT
 refine W ?_
 refine WC_cutQ (σ := Nat) (fun k => [(0, .pointer (some ⟨bm, 0, none⟩)), (1, .int .i64 (d : Int)), (4, .pointer (some ⟨b4, 0, none⟩)), (5, .int .i64 (k : Int))]) (fun k w' => w' = wq ∧ k < 10 ∧ (d = 0 → k < 4)) ?_ ?_
 · cases dn with
   | true =>
     repeat' (first | refine W1 ?_ | (exfalso; omega) | (refine VG ?_ ?_ <;> intro hg) | (refine VC ?_ ?_ <;> intro hc))
     exact WQ_cut (q % 4) ⟨rfl, rfl, rfl, rfl, trivial⟩ ⟨rfl, by omega, fun _ => by omega⟩
   | false =>
     repeat' (first | refine W1 ?_ | (exfalso; omega) | (refine VG ?_ ?_ <;> intro hg) | (refine VC ?_ ?_ <;> intro hc))
     exact WQ_cut q ⟨rfl, rfl, rfl, rfl, trivial⟩ ⟨rfl, by omega, fun h => absurd (hdn h) (by decide)⟩
 rintro k w3 ⟨rfl, hkn, hk1⟩
 clear hq hdn
 by_cases k0 : k ≤ 1
 · repeat' (first | refine W1 ?_ | (exfalso; omega) | (refine VG ?_ ?_ <;> intro hg) | (refine VC ?_ ?_ <;> intro hc))
   all_goals
    refine CL rfl (evs3 rfl rfl rfl) rfl (node13_any (b4 :: bm :: X) 4 [100, 97, 121] (.slice none 0 0) [] _ gm.hX (nilSlv _ _)) ?_
    rintro _ wq ⟨⟨ky, rfl, hy⟩, hT⟩
    replace gm := gm.up hT
    clear hT
    obtain ⟨cs, hcl, hcb⟩ := gm.blk
    refine WL_eff0 (OE_storeA (us := ndC (.mk 4 0 [100, 97, 121] []) _) rfl rfl rfl rfl (ndC_one (x := (.mk 4 0 [100, 97, 121] [])) hy) hcb hcl.symm) ?_
    rintro _ wz ⟨hz, hbz⟩
    refine W ?_
    refine WQ_retc rfl rfl rfl hbz rfl ?_
    have hf := gm.fin (y := (.mk 4 0 [100, 97, 121] [])) hS0 hb4 hy hz
    exact .mk ⟨_, _, hf.1, .fldD _ _ (by decide), hf.2.1, by omega, hf.2.2⟩
 by_cases k2 : k = 2
 · repeat' (first | refine W1 ?_ | (exfalso; omega) | (refine VG ?_ ?_ <;> intro hg) | (refine VC ?_ ?_ <;> intro hc))
   refine WL_eff (OE_buildSlice (vs := [(0, str [100, 97, 121]), (1, str [115, 101, 114, 118, 101, 100])]) rfl (bS2 _ _)) rfl ?_
   rintro wv wq hN
   have hws : SlV [bm] wq wv dateF := hN.slv (fun c hc => gm.hX c (by simp at hc; subst hc; simp)) rfl rfl (by decide)
   have hT := NewSl.stp hN
   clear hN
   replace gm := gm.up hT
   clear hT
   refine W ?_
   refine CL rfl (evs2 rfl rfl) rfl (Next3_any bm lv l _ 2 _ (by decide) (by omega) gm.mkr gm.sl hl) ?_
   rintro _ wq ⟨q', rfl, hq', hm, hS⟩
   replace gm := gm.nxt hm hS
   replace hws := hws.ext hS (by simp) (fun _ h => .inl h)
   clear hm hS
   have hqn : q' < dateF.length := by show q' < 2; omega
   refine W ?_
   refine CL rfl (evs3 rfl rfl rfl) rfl (node13_any (b4 :: bm :: X) 4 dateF[q'] (.slice none 0 0) [] _ gm.hX (nilSlv _ _)) ?_
   rintro _ wq ⟨⟨ky, rfl, hy⟩, hT⟩
   replace gm := gm.up hT
   clear hT
   obtain ⟨cs, hcl, hcb⟩ := gm.blk
   refine WL_eff0 (OE_storeA (us := ndC (.mk 4 0 dateF[q'] []) _) rfl rfl rfl rfl (ndC_one (x := (.mk 4 0 dateF[q'] [])) hy) hcb hcl.symm) ?_
   rintro _ wz ⟨hz, hbz⟩
   refine W ?_
   refine WQ_retc rfl rfl rfl hbz rfl ?_
   have hf := gm.fin (y := (.mk 4 0 dateF[q'] [])) hS0 hb4 hy hz
   exact .mk ⟨_, _, hf.1, .fldD _ _ (List.getElem_mem hqn), hf.2.1, by omega, hf.2.2⟩
 by_cases k3 : k = 3
 · repeat' (first | refine W1 ?_ | (exfalso; omega) | (refine VG ?_ ?_ <;> intro hg) | (refine VC ?_ ?_ <;> intro hc))
   refine CL rfl (evs2 rfl rfl) rfl (Next3_any bm lv l _ 60 _ (by decide) (by omega) gm.mkr gm.sl hl) ?_
   rintro _ wq ⟨q', rfl, hq', hm, hS⟩
   replace gm := gm.nxt hm hS
   clear hm hS
   refine W ?_
   apply WL_build (vs := [(0, .int .i64 3), (1, .int .i64 _)]) rfl (buildN01 _ _) rfl
   have hy : SlV (α := Nd) (b4 :: bm :: X) _ (.slice none 0 0) [] := nilSlv _ wq
   obtain ⟨cs, hcl, hcb⟩ := gm.blk
   refine WL_eff0 (OE_storeA (us := ndC (.mk 3 (739616 + (q' : Int)) [] []) _) rfl rfl rfl rfl (ndC_one (x := (.mk 3 (739616 + (q' : Int)) [] [])) hy) hcb hcl.symm) ?_
   rintro _ wz ⟨hz, hbz⟩
   refine W ?_
   refine WQ_retc rfl rfl rfl hbz rfl ?_
   have hf := gm.fin (y := (.mk 3 (739616 + (q' : Int)) [] [])) hS0 hb4 hy hz
   exact .mk ⟨_, _, hf.1, .day _ _ (by omega), hf.2.1, by omega, hf.2.2⟩
 by_cases k4 : k = 4
 · obtain ⟨e, rfl⟩ : ∃ e, d = e + 1 := ⟨d - 1, by omega⟩
   replace ih := ih e rfl
   have hsp := szD_pos e
   repeat' (first | refine W1 ?_ | (exfalso; omega) | (refine VG ?_ ?_ <;> intro hg) | (refine VC ?_ ?_ <;> intro hc))
   refine WC_drawnT 12 [b4, bm] [] rfl mixed (fun w1 hS1 => ?_)
   have hT := hS1
   replace gm := gm.up hT
   clear hT hS1
   refine WT_free 1 rfl trivial (fun w' => PR_move rfl) rfl (by kernel_rfl) (by kernel_rfl) ?_
   refine WT_free 5 rfl trivial (fun w' => PR_move rfl) rfl (by kernel_rfl) (by kernel_rfl) ?_
   refine WT_free 6 rfl trivial (fun w' => PR_move rfl) rfl (by kernel_rfl) (by kernel_rfl) ?_
   refine WT_free 7 rfl trivial (fun w' => PR_sub rfl rfl (by unfold I64; omega)) rfl (by kernel_rfl) (by kernel_rfl) ?_
   refine WT_two 0 2 (by kernel_rfl) ?_ ?_
   · refine WT1_eff rfl trivial (OE_buildSlice (vs := [(0, str [110, 101, 120, 116]), (1, str [112, 114, 101, 118])]) rfl (bS2 _ _)) (fun _ _ h => (NewSl.stp h).mono (by simp)) rfl ?_
     rintro wv wq hN
     have hws : SlV [b4, bm] wq wv opsN := hN.slv (fun c hc => gm.hX c (by simp at hc; rcases hc with rfl | rfl <;> simp)) rfl rfl (by decide)
     have hT := NewSl.stp hN
     clear hN
     replace gm := gm.up hT
     clear hT
     refine WT_D [(2, 2), (3, 0), (4, 1), (8, 2), (9, 2), (10, 2), (11, 2)] (by kernel_rfl) (by kernel_rfl) (by kernel_rfl) ?_
     refine WD_eff rfl trivial (OE_call rfl (evs2 rfl rfl) (Next3_any bm lv l _ 2 _ (by decide) (by omega) gm.mkr gm.sl hl)) (fun _ _ h => h.choose_spec.2.2.2.mono (by simp)) rfl ?_
     rintro _ wq ⟨q, rfl, hq, hm, hS⟩
     replace gm := gm.nxt hm hS
     replace hws := hws.ext hS (by simp) (fun _ h => .inl h)
     clear hm hS
     have hqn : q < opsN.length := by show q < 2; omega
     refine D ?_
     refine WD_eff rfl trivial (OE_call rfl (evs2 rfl rfl) ((ih.2.2) (b4 :: bm :: X) _ bm lv l _ _ (by omega) gm.mkr gm.sl hl (by omega) gm.hX)) (fun _ _ h => by obtain ⟨_, _, _, _, _, _, h⟩ := h; exact h.mono (by simp)) rfl ?_
     rintro _ wq ⟨y0, i0, ⟨k0, rfl, s0⟩, g0, hm, hi0, hS⟩
     obtain ⟨p0, c0, rfl, -⟩ := id s0
     replace gm := gm.nxt hm hS
     replace hws := hws.ext hS (by simp) (fun _ h => .inl h)
     clear hm hS
     refine D ?_
     refine WD_eff rfl trivial (OE_buildSlice (vs := [(0, .agg #[.int .i64 y0.kind, .int .i64 y0.num, str y0.word, .slice p0 y0.kids.length c0])]) rfl (buildSN1 _ _ _ _ _ _)) (fun _ _ h => (NewSl.stp h).mono (by simp)) rfl ?_
     rintro bv wq hN
     have hbv : SlV (b4 :: bm :: X) wq bv [y0] := hN.slvG (css := [ndC y0 _]) gm.hX rfl rfl rfl (reps1 s0) (by simp [maxLen])
     have hT := NewSl.stp hN
     clear hN
     replace gm := gm.up hT
     replace hws := hws.up hT
     clear hT
     refine D ?_
     refine WD_eff rfl trivial (OE_call rfl (evs3 rfl rfl rfl) (node13_any (b4 :: bm :: X) 10 opsN[q] bv [y0] _ gm.hX hbv)) (fun _ _ h => h.2.mono (by simp)) rfl ?_
     rintro _ wq ⟨⟨ky, rfl, hy⟩, hT⟩
     replace gm := gm.up hT
     clear hT hbv
     refine D ?_
     obtain ⟨cs, hcl, hcb⟩ := gm.blk
     refine WD_eff0 rfl trivial (OE_storeA (us := ndC (.mk 10 0 opsN[q] [y0]) _) rfl rfl rfl rfl (ndC_one (x := (.mk 10 0 opsN[q] [y0])) hy) hcb hcl.symm) (fun _ _ h => h.1.mono (by simp)) ?_
     rintro _ wz ⟨hz, hbz⟩
     refine D ?_
     refine W ?_
     refine WQ_retc rfl rfl rfl hbz rfl ?_
     have hf := gm.fin (y := (.mk 10 0 opsN[q] [y0])) hS0 hb4 hy hz
     exact .mk ⟨_, _, hf.1, .adj _ _ _ (List.getElem_mem hqn) g0, hf.2.1, by omega, hf.2.2⟩
   · refine WT1_eff rfl trivial (OE_call rfl (evs2 rfl rfl) (Next3_any bm lv l _ 2 _ (by decide) (by omega) gm.mkr gm.sl hl)) (fun _ _ h => h.choose_spec.2.2.2.mono (by simp)) rfl ?_
     rintro _ wq ⟨q, rfl, hq, hm, hS⟩
     replace gm := gm.nxt hm hS
     clear hm hS
     have hqn : q < opsN.length := by show q < 2; omega
     refine WT_two 0 8 (by kernel_rfl) ?_ ?_
     · refine WT1_eff rfl trivial (OE_buildSlice (vs := [(0, str [110, 101, 120, 116]), (1, str [112, 114, 101, 118])]) rfl (bS2 _ _)) (fun _ _ h => (NewSl.stp h).mono (by simp)) rfl ?_
       rintro wv wq hN
       have hws : SlV [b4, bm] wq wv opsN := hN.slv (fun c hc => gm.hX c (by simp at hc; rcases hc with rfl | rfl <;> simp)) rfl rfl (by decide)
       have hT := NewSl.stp hN
       clear hN
       replace gm := gm.up hT
       clear hT
       refine WT_D [(3, 0), (4, 1), (8, 2), (9, 2), (10, 2), (11, 2)] (by kernel_rfl) (by kernel_rfl) (by kernel_rfl) ?_
       refine D ?_
       refine WD_eff rfl trivial (OE_call rfl (evs2 rfl rfl) ((ih.2.2) (b4 :: bm :: X) _ bm lv l _ _ (by omega) gm.mkr gm.sl hl (by omega) gm.hX)) (fun _ _ h => by obtain ⟨_, _, _, _, _, _, h⟩ := h; exact h.mono (by simp)) rfl ?_
       rintro _ wq ⟨y0, i0, ⟨k0, rfl, s0⟩, g0, hm, hi0, hS⟩
       obtain ⟨p0, c0, rfl, -⟩ := id s0
       replace gm := gm.nxt hm hS
       replace hws := hws.ext hS (by simp) (fun _ h => .inl h)
       clear hm hS
       refine D ?_
       refine WD_eff rfl trivial (OE_buildSlice (vs := [(0, .agg #[.int .i64 y0.kind, .int .i64 y0.num, str y0.word, .slice p0 y0.kids.length c0])]) rfl (buildSN1 _ _ _ _ _ _)) (fun _ _ h => (NewSl.stp h).mono (by simp)) rfl ?_
       rintro bv wq hN
       have hbv : SlV (b4 :: bm :: X) wq bv [y0] := hN.slvG (css := [ndC y0 _]) gm.hX rfl rfl rfl (reps1 s0) (by simp [maxLen])
       have hT := NewSl.stp hN
       clear hN
       replace gm := gm.up hT
       replace hws := hws.up hT
       clear hT
       refine D ?_
       refine WD_eff rfl trivial (OE_call rfl (evs3 rfl rfl rfl) (node13_any (b4 :: bm :: X) 10 opsN[q] bv [y0] _ gm.hX hbv)) (fun _ _ h => h.2.mono (by simp)) rfl ?_
       rintro _ wq ⟨⟨ky, rfl, hy⟩, hT⟩
       replace gm := gm.up hT
       clear hT hbv
       refine D ?_
       obtain ⟨cs, hcl, hcb⟩ := gm.blk
       refine WD_eff0 rfl trivial (OE_storeA (us := ndC (.mk 10 0 opsN[q] [y0]) _) rfl rfl rfl rfl (ndC_one (x := (.mk 10 0 opsN[q] [y0])) hy) hcb hcl.symm) (fun _ _ h => h.1.mono (by simp)) ?_
       rintro _ wz ⟨hz, hbz⟩
       refine D ?_
       refine W ?_
       refine WQ_retc rfl rfl rfl hbz rfl ?_
       have hf := gm.fin (y := (.mk 10 0 opsN[q] [y0])) hS0 hb4 hy hz
       exact .mk ⟨_, _, hf.1, .adj _ _ _ (List.getElem_mem hqn) g0, hf.2.1, by omega, hf.2.2⟩
     · refine WT1_eff rfl trivial (OE_call rfl (evs2 rfl rfl) ((ih.2.2) (b4 :: bm :: X) _ bm lv l _ _ (by omega) gm.mkr gm.sl hl (by omega) gm.hX)) (fun _ _ h => by obtain ⟨_, _, _, _, _, _, h⟩ := h; exact h.mono (by simp)) rfl ?_
       rintro _ wq ⟨y0, i0, ⟨k0, rfl, s0⟩, g0, hm, hi0, hS⟩
       obtain ⟨p0, c0, rfl, -⟩ := id s0
       replace gm := gm.nxt hm hS
       clear hm hS
       refine WT_two 0 9 (by kernel_rfl) ?_ ?_
       · refine WT1_eff rfl trivial (OE_buildSlice (vs := [(0, str [110, 101, 120, 116]), (1, str [112, 114, 101, 118])]) rfl (bS2 _ _)) (fun _ _ h => (NewSl.stp h).mono (by simp)) rfl ?_
         rintro wv wq hN
         have hws : SlV [b4, bm] wq wv opsN := hN.slv (fun c hc => gm.hX c (by simp at hc; rcases hc with rfl | rfl <;> simp)) rfl rfl (by decide)
         have hT := NewSl.stp hN
         clear hN
         replace gm := gm.up hT
         replace s0 := s0.up hT
         clear hT
         refine WT_D [(3, 0), (4, 1), (9, 2), (10, 2), (11, 2)] (by kernel_rfl) (by kernel_rfl) (by kernel_rfl) ?_
         refine D ?_
         refine D ?_
         refine WD_eff rfl trivial (OE_buildSlice (vs := [(0, .agg #[.int .i64 y0.kind, .int .i64 y0.num, str y0.word, .slice p0 y0.kids.length c0])]) rfl (buildSN1 _ _ _ _ _ _)) (fun _ _ h => (NewSl.stp h).mono (by simp)) rfl ?_
         rintro bv wq hN
         have hbv : SlV (b4 :: bm :: X) wq bv [y0] := hN.slvG (css := [ndC y0 _]) gm.hX rfl rfl rfl (reps1 s0) (by simp [maxLen])
         have hT := NewSl.stp hN
         clear hN
         replace gm := gm.up hT
         replace hws := hws.up hT
         clear hT
         refine D ?_
         refine WD_eff rfl trivial (OE_call rfl (evs3 rfl rfl rfl) (node13_any (b4 :: bm :: X) 10 opsN[q] bv [y0] _ gm.hX hbv)) (fun _ _ h => h.2.mono (by simp)) rfl ?_
         rintro _ wq ⟨⟨ky, rfl, hy⟩, hT⟩
         replace gm := gm.up hT
         clear hT hbv
         refine D ?_
         obtain ⟨cs, hcl, hcb⟩ := gm.blk
         refine WD_eff0 rfl trivial (OE_storeA (us := ndC (.mk 10 0 opsN[q] [y0]) _) rfl rfl rfl rfl (ndC_one (x := (.mk 10 0 opsN[q] [y0])) hy) hcb hcl.symm) (fun _ _ h => h.1.mono (by simp)) ?_
         rintro _ wz ⟨hz, hbz⟩
         refine D ?_
         refine W ?_
         refine WQ_retc rfl rfl rfl hbz rfl ?_
         have hf := gm.fin (y := (.mk 10 0 opsN[q] [y0])) hS0 hb4 hy hz
         exact .mk ⟨_, _, hf.1, .adj _ _ _ (List.getElem_mem hqn) g0, hf.2.1, by omega, hf.2.2⟩
       · refine WT1_eff rfl trivial (OE_buildSlice (vs := [(0, .agg #[.int .i64 y0.kind, .int .i64 y0.num, str y0.word, .slice p0 y0.kids.length c0])]) rfl (buildSN1 _ _ _ _ _ _)) (fun _ _ h => (NewSl.stp h).mono (by simp)) rfl ?_
         rintro bv wq hN
         have hbv : SlV (b4 :: bm :: X) wq bv [y0] := hN.slvG (css := [ndC y0 _]) gm.hX rfl rfl rfl (reps1 s0) (by simp [maxLen])
         have hT := NewSl.stp hN
         clear hN
         replace gm := gm.up hT
         clear hT
         refine WT_D [(0, 2), (3, 0), (4, 1), (10, 2), (11, 2)] (by kernel_rfl) (by kernel_rfl) (by kernel_rfl) ?_
         refine WD_eff rfl trivial (OE_buildSlice (vs := [(0, str [110, 101, 120, 116]), (1, str [112, 114, 101, 118])]) rfl (bS2 _ _)) (fun _ _ h => (NewSl.stp h).mono (by simp)) rfl ?_
         rintro wv wq hN
         have hws : SlV [b4, bm] wq wv opsN := hN.slv (fun c hc => gm.hX c (by simp at hc; rcases hc with rfl | rfl <;> simp)) rfl rfl (by decide)
         have hT := NewSl.stp hN
         clear hN
         replace gm := gm.up hT
         replace hbv := hbv.up hT
         clear hT
         refine D ?_
         refine D ?_
         refine D ?_
         refine WD_eff rfl trivial (OE_call rfl (evs3 rfl rfl rfl) (node13_any (b4 :: bm :: X) 10 opsN[q] bv [y0] _ gm.hX hbv)) (fun _ _ h => h.2.mono (by simp)) rfl ?_
         rintro _ wq ⟨⟨ky, rfl, hy⟩, hT⟩
         replace gm := gm.up hT
         clear hT hbv
         refine D ?_
         obtain ⟨cs, hcl, hcb⟩ := gm.blk
         refine WD_eff0 rfl trivial (OE_storeA (us := ndC (.mk 10 0 opsN[q] [y0]) _) rfl rfl rfl rfl (ndC_one (x := (.mk 10 0 opsN[q] [y0])) hy) hcb hcl.symm) (fun _ _ h => h.1.mono (by simp)) ?_
         rintro _ wz ⟨hz, hbz⟩
         refine D ?_
         refine W ?_
         refine WQ_retc rfl rfl rfl hbz rfl ?_
         have hf := gm.fin (y := (.mk 10 0 opsN[q] [y0])) hS0 hb4 hy hz
         exact .mk ⟨_, _, hf.1, .adj _ _ _ (List.getElem_mem hqn) g0, hf.2.1, by omega, hf.2.2⟩
 by_cases k5 : k = 5
 · obtain ⟨e, rfl⟩ : ∃ e, d = e + 1 := ⟨d - 1, by omega⟩
   replace ih := ih e rfl
   have hsp := szD_pos e
   repeat' (first | refine W1 ?_ | (exfalso; omega) | (refine VG ?_ ?_ <;> intro hg) | (refine VC ?_ ?_ <;> intro hc))
   refine W ?_
   refine CL rfl (evs2 rfl rfl) rfl ((ih.2.2) (b4 :: bm :: X) _ bm lv l _ _ (by omega) gm.mkr gm.sl hl (by omega) gm.hX) ?_
   rintro _ wq ⟨y0, i0, ⟨k0, rfl, s0⟩, g0, hm, hi0, hS⟩
   obtain ⟨p0, c0, rfl, -⟩ := id s0
   replace gm := gm.nxt hm hS
   clear hm hS
   refine WL_eff OE_alloc rfl ?_
   rintro _ wq ⟨b0', rfl, hb0', e0, hT⟩
   refine WL_eff0 (OE_storeA (us := ndC y0 _) rfl rfl rfl rfl (ndC_one s0) e0 rfl) ?_
   rintro _ wq ⟨hT2, e0⟩
   replace hT := keep_node hT hb0' hT2
   clear hT2
   have n0 : b0' ≠ bm := fun h => by have := gm.mkr.lt; omega
   have n0' : b0' ≠ b4 := fun h => by obtain ⟨_, _, hc⟩ := gm.blk; have := hc.lt; omega
   replace gm := gm.up hT
   replace s0 := s0.up hT
   clear hT hb0'
   refine W ?_
   refine WC_drawnT 13 [b4, bm] [] rfl mixed (fun w1 hS1 => ?_)
   have hT := hS1
   replace gm := gm.up hT
   replace s0 := s0.up hT
   replace e0 := e0.up hT
   clear hT hS1
   refine WT_free 1 rfl trivial (fun w' => PR_move rfl) rfl (by kernel_rfl) (by kernel_rfl) ?_
   refine WT_read 5 rfl trivial (fun w' hS' => PR_load_blkA rfl rfl (e0.ext hS' (by simp; exact ⟨n0', n0⟩)) rfl) rfl (by kernel_rfl) (by kernel_rfl) ?_
   refine WT_free 6 rfl trivial (fun w' => PR_move rfl) rfl (by kernel_rfl) (by kernel_rfl) ?_
   refine WT_free 7 rfl trivial (fun w' => PR_move rfl) rfl (by kernel_rfl) (by kernel_rfl) ?_
   refine WT_free 8 rfl trivial (fun w' => PR_sub rfl rfl (by unfold I64; omega)) rfl (by kernel_rfl) (by kernel_rfl) ?_
   refine WT_two 0 2 (by kernel_rfl) ?_ ?_
   · refine WT1_eff rfl trivial (OE_buildSlice (vs := [(0, str [108, 97, 116, 101, 114]), (1, str [101, 97, 114, 108, 105, 101, 114])]) rfl (bS2 _ _)) (fun _ _ h => (NewSl.stp h).mono (by simp)) rfl ?_
     rintro wv wq hN
     have hws : SlV [b4, bm] wq wv opsE := hN.slv (fun c hc => gm.hX c (by simp at hc; rcases hc with rfl | rfl <;> simp)) rfl rfl (by decide)
     have hT := NewSl.stp hN
     clear hN
     replace gm := gm.up hT
     replace s0 := s0.up hT
     replace e0 := e0.up hT
     clear hT
     refine WT_D [(2, 2), (3, 0), (4, 1), (9, 2), (10, 2), (11, 2), (12, 2)] (by kernel_rfl) (by kernel_rfl) (by kernel_rfl) ?_
     refine WD_eff rfl trivial (OE_call rfl (evs2 rfl rfl) (Next3_any bm lv l _ 2 _ (by decide) (by omega) gm.mkr gm.sl hl)) (fun _ _ h => h.choose_spec.2.2.2.mono (by simp)) rfl ?_
     rintro _ wq ⟨q, rfl, hq, hm, hS⟩
     replace gm := gm.nxt hm hS
     replace s0 := s0.ext hS (by simp) (fun _ h => .inl h)
     replace e0 := e0.ext hS (by simp; exact n0)
     replace hws := hws.ext hS (by simp) (fun _ h => .inl h)
     clear hm hS
     have hqn : q < opsE.length := by show q < 2; omega
     refine D ?_
     refine WD_eff rfl trivial (OE_call rfl (evs2 rfl rfl) ((ih.2.2) (b4 :: bm :: X) _ bm lv l _ _ (by omega) gm.mkr gm.sl hl (by omega) gm.hX)) (fun _ _ h => by obtain ⟨_, _, _, _, _, _, h⟩ := h; exact h.mono (by simp)) rfl ?_
     rintro _ wq ⟨y1, i1, ⟨k1, rfl, s1⟩, g1, hm, hi1, hS⟩
     obtain ⟨p1, c1, rfl, -⟩ := id s1
     replace gm := gm.nxt hm hS
     replace s0 := s0.ext hS (by simp) (fun _ h => .inl h)
     replace e0 := e0.ext hS (by simp; exact n0)
     replace hws := hws.ext hS (by simp) (fun _ h => .inl h)
     clear hm hS
     refine D ?_
     refine WD_eff rfl trivial (OE_buildSlice (vs := [(0, .agg #[.int .i64 y0.kind, .int .i64 y0.num, str y0.word, .slice p0 y0.kids.length c0]), (1, .agg #[.int .i64 y1.kind, .int .i64 y1.num, str y1.word, .slice p1 y1.kids.length c1])]) rfl (buildSN2 _ _ _ _ _ _ _ _ _ _ _ _)) (fun _ _ h => (NewSl.stp h).mono (by simp)) rfl ?_
     rintro bv wq hN
     have hbv : SlV (b4 :: bm :: X) wq bv [y0, y1] := hN.slvG (css := [ndC y0 _, ndC y1 _]) gm.hX rfl rfl rfl (reps2 s0 s1) (by simp [maxLen])
     have hT := NewSl.stp hN
     clear hN
     replace gm := gm.up hT
     replace hws := hws.up hT
     clear hT
     refine D ?_
     refine WD_eff rfl trivial (OE_call rfl (evs3 rfl rfl rfl) (node13_any (b4 :: bm :: X) 10 opsE[q] bv [y0, y1] _ gm.hX hbv)) (fun _ _ h => h.2.mono (by simp)) rfl ?_
     rintro _ wq ⟨⟨ky, rfl, hy⟩, hT⟩
     replace gm := gm.up hT
     clear hT hbv
     refine D ?_
     obtain ⟨cs, hcl, hcb⟩ := gm.blk
     refine WD_eff0 rfl trivial (OE_storeA (us := ndC (.mk 10 0 opsE[q] [y0, y1]) _) rfl rfl rfl rfl (ndC_one (x := (.mk 10 0 opsE[q] [y0, y1])) hy) hcb hcl.symm) (fun _ _ h => h.1.mono (by simp)) ?_
     rintro _ wz ⟨hz, hbz⟩
     refine D ?_
     refine W ?_
     refine WQ_retc rfl rfl rfl hbz rfl ?_
     have hf := gm.fin (y := (.mk 10 0 opsE[q] [y0, y1])) hS0 hb4 hy hz
     exact .mk ⟨_, _, hf.1, .two _ _ _ _ (List.getElem_mem hqn) g0 g1, hf.2.1, by omega, hf.2.2⟩
   · refine WT1_eff rfl trivial (OE_call rfl (evs2 rfl rfl) (Next3_any bm lv l _ 2 _ (by decide) (by omega) gm.mkr gm.sl hl)) (fun _ _ h => h.choose_spec.2.2.2.mono (by simp)) rfl ?_
     rintro _ wq ⟨q, rfl, hq, hm, hS⟩
     replace gm := gm.nxt hm hS
     replace s0 := s0.ext hS (by simp) (fun _ h => .inl h)
     replace e0 := e0.ext hS (by simp; exact n0)
     clear hm hS
     have hqn : q < opsE.length := by show q < 2; omega
     refine WT_two 0 9 (by kernel_rfl) ?_ ?_
     · refine WT1_eff rfl trivial (OE_buildSlice (vs := [(0, str [108, 97, 116, 101, 114]), (1, str [101, 97, 114, 108, 105, 101, 114])]) rfl (bS2 _ _)) (fun _ _ h => (NewSl.stp h).mono (by simp)) rfl ?_
       rintro wv wq hN
       have hws : SlV [b4, bm] wq wv opsE := hN.slv (fun c hc => gm.hX c (by simp at hc; rcases hc with rfl | rfl <;> simp)) rfl rfl (by decide)
       have hT := NewSl.stp hN
       clear hN
       replace gm := gm.up hT
       replace s0 := s0.up hT
       replace e0 := e0.up hT
       clear hT
       refine WT_D [(3, 0), (4, 1), (9, 2), (10, 2), (11, 2), (12, 2)] (by kernel_rfl) (by kernel_rfl) (by kernel_rfl) ?_
       refine D ?_
       refine WD_eff rfl trivial (OE_call rfl (evs2 rfl rfl) ((ih.2.2) (b4 :: bm :: X) _ bm lv l _ _ (by omega) gm.mkr gm.sl hl (by omega) gm.hX)) (fun _ _ h => by obtain ⟨_, _, _, _, _, _, h⟩ := h; exact h.mono (by simp)) rfl ?_
       rintro _ wq ⟨y1, i1, ⟨k1, rfl, s1⟩, g1, hm, hi1, hS⟩
       obtain ⟨p1, c1, rfl, -⟩ := id s1
       replace gm := gm.nxt hm hS
       replace s0 := s0.ext hS (by simp) (fun _ h => .inl h)
       replace e0 := e0.ext hS (by simp; exact n0)
       replace hws := hws.ext hS (by simp) (fun _ h => .inl h)
       clear hm hS
       refine D ?_
       refine WD_eff rfl trivial (OE_buildSlice (vs := [(0, .agg #[.int .i64 y0.kind, .int .i64 y0.num, str y0.word, .slice p0 y0.kids.length c0]), (1, .agg #[.int .i64 y1.kind, .int .i64 y1.num, str y1.word, .slice p1 y1.kids.length c1])]) rfl (buildSN2 _ _ _ _ _ _ _ _ _ _ _ _)) (fun _ _ h => (NewSl.stp h).mono (by simp)) rfl ?_
       rintro bv wq hN
       have hbv : SlV (b4 :: bm :: X) wq bv [y0, y1] := hN.slvG (css := [ndC y0 _, ndC y1 _]) gm.hX rfl rfl rfl (reps2 s0 s1) (by simp [maxLen])
       have hT := NewSl.stp hN
       clear hN
       replace gm := gm.up hT
       replace hws := hws.up hT
       clear hT
       refine D ?_
       refine WD_eff rfl trivial (OE_call rfl (evs3 rfl rfl rfl) (node13_any (b4 :: bm :: X) 10 opsE[q] bv [y0, y1] _ gm.hX hbv)) (fun _ _ h => h.2.mono (by simp)) rfl ?_
       rintro _ wq ⟨⟨ky, rfl, hy⟩, hT⟩
       replace gm := gm.up hT
       clear hT hbv
       refine D ?_
       obtain ⟨cs, hcl, hcb⟩ := gm.blk
       refine WD_eff0 rfl trivial (OE_storeA (us := ndC (.mk 10 0 opsE[q] [y0, y1]) _) rfl rfl rfl rfl (ndC_one (x := (.mk 10 0 opsE[q] [y0, y1])) hy) hcb hcl.symm) (fun _ _ h => h.1.mono (by simp)) ?_
       rintro _ wz ⟨hz, hbz⟩
       refine D ?_
       refine W ?_
       refine WQ_retc rfl rfl rfl hbz rfl ?_
       have hf := gm.fin (y := (.mk 10 0 opsE[q] [y0, y1])) hS0 hb4 hy hz
       exact .mk ⟨_, _, hf.1, .two _ _ _ _ (List.getElem_mem hqn) g0 g1, hf.2.1, by omega, hf.2.2⟩
     · refine WT1_eff rfl trivial (OE_call rfl (evs2 rfl rfl) ((ih.2.2) (b4 :: bm :: X) _ bm lv l _ _ (by omega) gm.mkr gm.sl hl (by omega) gm.hX)) (fun _ _ h => by obtain ⟨_, _, _, _, _, _, h⟩ := h; exact h.mono (by simp)) rfl ?_
       rintro _ wq ⟨y1, i1, ⟨k1, rfl, s1⟩, g1, hm, hi1, hS⟩
       obtain ⟨p1, c1, rfl, -⟩ := id s1
       replace gm := gm.nxt hm hS
       replace s0 := s0.ext hS (by simp) (fun _ h => .inl h)
       replace e0 := e0.ext hS (by simp; exact n0)
       clear hm hS
       refine WT_two 0 10 (by kernel_rfl) ?_ ?_
       · refine WT1_eff rfl trivial (OE_buildSlice (vs := [(0, str [108, 97, 116, 101, 114]), (1, str [101, 97, 114, 108, 105, 101, 114])]) rfl (bS2 _ _)) (fun _ _ h => (NewSl.stp h).mono (by simp)) rfl ?_
         rintro wv wq hN
         have hws : SlV [b4, bm] wq wv opsE := hN.slv (fun c hc => gm.hX c (by simp at hc; rcases hc with rfl | rfl <;> simp)) rfl rfl (by decide)
         have hT := NewSl.stp hN
         clear hN
         replace gm := gm.up hT
         replace s0 := s0.up hT
         replace e0 := e0.up hT
         replace s1 := s1.up hT
         clear hT
         refine WT_D [(3, 0), (4, 1), (10, 2), (11, 2), (12, 2)] (by kernel_rfl) (by kernel_rfl) (by kernel_rfl) ?_
         refine D ?_
         refine D ?_
         refine WD_eff rfl trivial (OE_buildSlice (vs := [(0, .agg #[.int .i64 y0.kind, .int .i64 y0.num, str y0.word, .slice p0 y0.kids.length c0]), (1, .agg #[.int .i64 y1.kind, .int .i64 y1.num, str y1.word, .slice p1 y1.kids.length c1])]) rfl (buildSN2 _ _ _ _ _ _ _ _ _ _ _ _)) (fun _ _ h => (NewSl.stp h).mono (by simp)) rfl ?_
         rintro bv wq hN
         have hbv : SlV (b4 :: bm :: X) wq bv [y0, y1] := hN.slvG (css := [ndC y0 _, ndC y1 _]) gm.hX rfl rfl rfl (reps2 s0 s1) (by simp [maxLen])
         have hT := NewSl.stp hN
         clear hN
         replace gm := gm.up hT
         replace hws := hws.up hT
         clear hT
         refine D ?_
         refine WD_eff rfl trivial (OE_call rfl (evs3 rfl rfl rfl) (node13_any (b4 :: bm :: X) 10 opsE[q] bv [y0, y1] _ gm.hX hbv)) (fun _ _ h => h.2.mono (by simp)) rfl ?_
         rintro _ wq ⟨⟨ky, rfl, hy⟩, hT⟩
         replace gm := gm.up hT
         clear hT hbv
         refine D ?_
         obtain ⟨cs, hcl, hcb⟩ := gm.blk
         refine WD_eff0 rfl trivial (OE_storeA (us := ndC (.mk 10 0 opsE[q] [y0, y1]) _) rfl rfl rfl rfl (ndC_one (x := (.mk 10 0 opsE[q] [y0, y1])) hy) hcb hcl.symm) (fun _ _ h => h.1.mono (by simp)) ?_
         rintro _ wz ⟨hz, hbz⟩
         refine D ?_
         refine W ?_
         refine WQ_retc rfl rfl rfl hbz rfl ?_
         have hf := gm.fin (y := (.mk 10 0 opsE[q] [y0, y1])) hS0 hb4 hy hz
         exact .mk ⟨_, _, hf.1, .two _ _ _ _ (List.getElem_mem hqn) g0 g1, hf.2.1, by omega, hf.2.2⟩
       · refine WT1_eff rfl trivial (OE_buildSlice (vs := [(0, .agg #[.int .i64 y0.kind, .int .i64 y0.num, str y0.word, .slice p0 y0.kids.length c0]), (1, .agg #[.int .i64 y1.kind, .int .i64 y1.num, str y1.word, .slice p1 y1.kids.length c1])]) rfl (buildSN2 _ _ _ _ _ _ _ _ _ _ _ _)) (fun _ _ h => (NewSl.stp h).mono (by simp)) rfl ?_
         rintro bv wq hN
         have hbv : SlV (b4 :: bm :: X) wq bv [y0, y1] := hN.slvG (css := [ndC y0 _, ndC y1 _]) gm.hX rfl rfl rfl (reps2 s0 s1) (by simp [maxLen])
         have hT := NewSl.stp hN
         clear hN
         replace gm := gm.up hT
         clear hT
         refine WT_D [(0, 2), (3, 0), (4, 1), (11, 2), (12, 2)] (by kernel_rfl) (by kernel_rfl) (by kernel_rfl) ?_
         refine WD_eff rfl trivial (OE_buildSlice (vs := [(0, str [108, 97, 116, 101, 114]), (1, str [101, 97, 114, 108, 105, 101, 114])]) rfl (bS2 _ _)) (fun _ _ h => (NewSl.stp h).mono (by simp)) rfl ?_
         rintro wv wq hN
         have hws : SlV [b4, bm] wq wv opsE := hN.slv (fun c hc => gm.hX c (by simp at hc; rcases hc with rfl | rfl <;> simp)) rfl rfl (by decide)
         have hT := NewSl.stp hN
         clear hN
         replace gm := gm.up hT
         replace hbv := hbv.up hT
         clear hT
         refine D ?_
         refine D ?_
         refine D ?_
         refine WD_eff rfl trivial (OE_call rfl (evs3 rfl rfl rfl) (node13_any (b4 :: bm :: X) 10 opsE[q] bv [y0, y1] _ gm.hX hbv)) (fun _ _ h => h.2.mono (by simp)) rfl ?_
         rintro _ wq ⟨⟨ky, rfl, hy⟩, hT⟩
         replace gm := gm.up hT
         clear hT hbv
         refine D ?_
         obtain ⟨cs, hcl, hcb⟩ := gm.blk
         refine WD_eff0 rfl trivial (OE_storeA (us := ndC (.mk 10 0 opsE[q] [y0, y1]) _) rfl rfl rfl rfl (ndC_one (x := (.mk 10 0 opsE[q] [y0, y1])) hy) hcb hcl.symm) (fun _ _ h => h.1.mono (by simp)) ?_
         rintro _ wz ⟨hz, hbz⟩
         refine D ?_
         refine W ?_
         refine WQ_retc rfl rfl rfl hbz rfl ?_
         have hf := gm.fin (y := (.mk 10 0 opsE[q] [y0, y1])) hS0 hb4 hy hz
         exact .mk ⟨_, _, hf.1, .two _ _ _ _ (List.getElem_mem hqn) g0 g1, hf.2.1, by omega, hf.2.2⟩
 by_cases k6 : k = 6
 · obtain ⟨e, rfl⟩ : ∃ e, d = e + 1 := ⟨d - 1, by omega⟩
   replace ih := ih e rfl
   have hsp := szD_pos e
   repeat' (first | refine W1 ?_ | (exfalso; omega) | (refine VG ?_ ?_ <;> intro hg) | (refine VC ?_ ?_ <;> intro hc))
   refine W ?_
   refine CL rfl (evs2 rfl rfl) rfl ((ih.2.1) (b4 :: bm :: X) _ bm lv l _ _ (by omega) gm.mkr gm.sl hl (by omega) gm.hX) ?_
   rintro _ wq ⟨y0, i0, ⟨k0, rfl, s0⟩, g0, hm, hi0, hS⟩
   obtain ⟨p0, c0, rfl, -⟩ := id s0
   replace gm := gm.nxt hm hS
   clear hm hS
   refine WL_eff OE_alloc rfl ?_
   rintro _ wq ⟨b0', rfl, hb0', e0, hT⟩
   refine WL_eff0 (OE_storeA (us := ndC y0 _) rfl rfl rfl rfl (ndC_one s0) e0 rfl) ?_
   rintro _ wq ⟨hT2, e0⟩
   replace hT := keep_node hT hb0' hT2
   clear hT2
   have n0 : b0' ≠ bm := fun h => by have := gm.mkr.lt; omega
   have n0' : b0' ≠ b4 := fun h => by obtain ⟨_, _, hc⟩ := gm.blk; have := hc.lt; omega
   replace gm := gm.up hT
   replace s0 := s0.up hT
   clear hT hb0'
   refine W ?_
   refine CL rfl (evs2 rfl rfl) rfl ((ih.2.2) (b4 :: bm :: X) _ bm lv l _ _ (by omega) gm.mkr gm.sl hl (by omega) gm.hX) ?_
   rintro _ wq ⟨y1, i1, ⟨k1, rfl, s1⟩, g1, hm, hi1, hS⟩
   obtain ⟨p1, c1, rfl, -⟩ := id s1
   replace gm := gm.nxt hm hS
   replace s0 := s0.ext hS (by simp) (fun _ h => .inl h)
   replace e0 := e0.ext hS (by simp; exact n0)
   clear hm hS
   refine WL_eff OE_alloc rfl ?_
   rintro _ wq ⟨b1', rfl, hb1', e1, hT⟩
   refine WL_eff0 (OE_storeA (us := ndC y1 _) rfl rfl rfl rfl (ndC_one s1) e1 rfl) ?_
   rintro _ wq ⟨hT2, e1⟩
   replace hT := keep_node hT hb1' hT2
   clear hT2
   have n1 : b1' ≠ bm := fun h => by have := gm.mkr.lt; omega
   have n1' : b1' ≠ b4 := fun h => by obtain ⟨_, _, hc⟩ := gm.blk; have := hc.lt; omega
   replace gm := gm.up hT
   replace s0 := s0.up hT
   replace e0 := e0.up hT
   replace s1 := s1.up hT
   clear hT hb1'
   refine W ?_
   refine WC_drawn 9 ([b4, bm]) [] [(0, 1), (1, 1), (2, 0), (3, 0), (4, 0), (5, 2), (6, 2), (7, 2), (8, 2)] rfl mixed (by kernel_rfl) (by kernel_rfl) (by kernel_rfl) (fun w1 hS1 => ?_)
   have hT := hS1
   replace gm := gm.up hT
   replace s0 := s0.up hT
   replace e0 := e0.up hT
   replace s1 := s1.up hT
   replace e1 := e1.up hT
   clear hT hS1
   refine WD_read rfl trivial (fun w' hS' => PR_load_blkA rfl rfl (e0.ext hS' (by simp; exact ⟨n0', n0⟩)) rfl) rfl ?_
   refine WD_read rfl trivial (fun w' hS' => PR_load_blkA rfl rfl (e1.ext hS' (by simp; exact ⟨n1', n1⟩)) rfl) rfl ?_
   refine D ?_
   refine WD_eff rfl trivial (OE_call rfl (evs2 rfl rfl) ((ih.2.2) (b4 :: bm :: X) _ bm lv l _ _ (by omega) gm.mkr gm.sl hl (by omega) gm.hX)) (fun _ _ h => by obtain ⟨_, _, _, _, _, _, h⟩ := h; exact h.mono (by simp)) rfl ?_
   rintro _ wq ⟨y2, i2, ⟨k2, rfl, s2⟩, g2, hm, hi2, hS⟩
   obtain ⟨p2, c2, rfl, -⟩ := id s2
   replace gm := gm.nxt hm hS
   replace s0 := s0.ext hS (by simp) (fun _ h => .inl h)
   replace e0 := e0.ext hS (by simp; exact n0)
   replace s1 := s1.ext hS (by simp) (fun _ h => .inl h)
   replace e1 := e1.ext hS (by simp; exact n1)
   clear hm hS
   refine D ?_
   refine WD_eff rfl trivial (OE_buildSlice (vs := [(0, .agg #[.int .i64 y0.kind, .int .i64 y0.num, str y0.word, .slice p0 y0.kids.length c0]), (1, .agg #[.int .i64 y1.kind, .int .i64 y1.num, str y1.word, .slice p1 y1.kids.length c1]), (2, .agg #[.int .i64 y2.kind, .int .i64 y2.num, str y2.word, .slice p2 y2.kids.length c2])]) rfl (buildSN3 _ _ _ _ _ _ _ _ _ _ _ _ _ _ _ _ _ _)) (fun _ _ h => (NewSl.stp h).mono (by simp)) rfl ?_
   rintro bv wq hN
   have hbv : SlV (b4 :: bm :: X) wq bv [y0, y1, y2] := hN.slvG (css := [ndC y0 _, ndC y1 _, ndC y2 _]) gm.hX rfl rfl rfl (reps3 s0 s1 s2) (by simp [maxLen])
   have hT := NewSl.stp hN
   clear hN
   replace gm := gm.up hT
   clear hT
   refine D ?_
   refine WD_eff rfl trivial (OE_call rfl (evs3 rfl rfl rfl) (node13_any (b4 :: bm :: X) 9 [] bv [y0, y1, y2] _ gm.hX hbv)) (fun _ _ h => h.2.mono (by simp)) rfl ?_
   rintro _ wq ⟨⟨ky, rfl, hy⟩, hT⟩
   replace gm := gm.up hT
   clear hT hbv
   refine D ?_
   obtain ⟨cs, hcl, hcb⟩ := gm.blk
   refine WD_eff0 rfl trivial (OE_storeA (us := ndC (.mk 9 0 [] [y0, y1, y2]) _) rfl rfl rfl rfl (ndC_one (x := (.mk 9 0 [] [y0, y1, y2])) hy) hcb hcl.symm) (fun _ _ h => h.1.mono (by simp)) ?_
   rintro _ wz ⟨hz, hbz⟩
   refine D ?_
   refine W ?_
   refine WQ_retc rfl rfl rfl hbz rfl ?_
   have hf := gm.fin (y := (.mk 9 0 [] [y0, y1, y2])) hS0 hb4 hy hz
   exact .mk ⟨_, _, hf.1, .cond _ _ _ _ _ (by decide) g0 g1 g2, hf.2.1, by omega, hf.2.2⟩
 obtain ⟨e, rfl⟩ : ∃ e, d = e + 1 := ⟨d - 1, by omega⟩
 replace ih := ih e rfl
 have hsp := szD_pos e
 repeat' (first | refine W1 ?_ | (exfalso; omega) | (refine VG ?_ ?_ <;> intro hg) | (refine VC ?_ ?_ <;> intro hc))
 refine W ?_
 refine CL rfl (evs2 rfl rfl) rfl ((ih.2.2) (b4 :: bm :: X) _ bm lv l _ _ (by omega) gm.mkr gm.sl hl (by omega) gm.hX) ?_
 rintro _ wq ⟨y0, i0, ⟨k0, rfl, s0⟩, g0, hm, hi0, hS⟩
 obtain ⟨p0, c0, rfl, -⟩ := id s0
 replace gm := gm.nxt hm hS
 clear hm hS
 refine WL_eff OE_alloc rfl ?_
 rintro _ wq ⟨b0', rfl, hb0', e0, hT⟩
 refine WL_eff0 (OE_storeA (us := ndC y0 _) rfl rfl rfl rfl (ndC_one s0) e0 rfl) ?_
 rintro _ wq ⟨hT2, e0⟩
 replace hT := keep_node hT hb0' hT2
 clear hT2
 have n0 : b0' ≠ bm := fun h => by have := gm.mkr.lt; omega
 have n0' : b0' ≠ b4 := fun h => by obtain ⟨_, _, hc⟩ := gm.blk; have := hc.lt; omega
 replace gm := gm.up hT
 replace s0 := s0.up hT
 clear hT hb0'
 refine W ?_
 refine WL_eff (OE_buildSlice (vs := [(0, str [100, 97, 121, 115]), (1, str [100, 97, 121, 115]), (2, str [99, 111, 117, 114, 116, 100, 97, 121, 115]), (3, str [119, 101, 101, 107, 115]), (4, str [109, 111, 110, 116, 104, 115])]) rfl (bS5 _ _ _ _ _)) rfl ?_
 rintro wv wq hN
 have hws : SlV [b4, bm] wq wv units5 := hN.slv (fun c hc => gm.hX c (by simp at hc; rcases hc with rfl | rfl <;> simp)) rfl rfl (by decide)
 have hT := NewSl.stp hN
 clear hN
 replace gm := gm.up hT
 replace s0 := s0.up hT
 replace e0 := e0.up hT
 clear hT
 refine W ?_
 refine CL rfl (evs2 rfl rfl) rfl (Next3_any bm lv l _ 5 _ (by decide) (by omega) gm.mkr gm.sl hl) ?_
 rintro _ wq ⟨q', rfl, hq', hm, hS⟩
 replace gm := gm.nxt hm hS
 replace s0 := s0.ext hS (by simp) (fun _ h => .inl h)
 replace e0 := e0.ext hS (by simp; exact n0)
 replace hws := hws.ext hS (by simp) (fun _ h => .inl h)
 clear hm hS
 have hqn : q' < units5.length := by show q' < 5; omega
 have hu := units5_mem _ (List.getElem_mem hqn)
 refine W ?_
 clear hws
 refine WC_drawn 13 ([b4, bm]) [] [(0, 0), (4, 0), (5, 1), (6, 0), (7, 0), (8, 0), (1, 2), (2, 0), (3, 0), (9, 2), (10, 2), (11, 2), (12, 2)] rfl mixed (by kernel_rfl) (by kernel_rfl) (by kernel_rfl) (fun w1 hS1 => ?_)
 have hT := hS1
 replace gm := gm.up hT
 replace s0 := s0.up hT
 replace e0 := e0.up hT
 clear hT hS1
 refine D ?_
 refine WD_eff rfl trivial (OE_call rfl (evs2 rfl rfl) (Next3_any bm lv l _ 4 _ (by decide) (by omega) gm.mkr gm.sl hl)) (fun _ _ h => h.choose_spec.2.2.2.mono (by simp)) rfl ?_
 rintro _ wq ⟨q4, rfl, hq4, hm, hS⟩
 replace gm := gm.nxt hm hS
 replace s0 := s0.ext hS (by simp) (fun _ h => .inl h)
 replace e0 := e0.ext hS (by simp; exact n0)
 clear hm hS
 refine D ?_
 refine WD_eff rfl trivial (OE_call rfl (evs2 rfl rfl) ((ih.1) (b4 :: bm :: X) _ bm lv l _ _ (by omega) gm.mkr gm.sl hl (by omega) gm.hX)) (fun _ _ h => by obtain ⟨_, _, _, _, _, _, h⟩ := h; exact h.mono (by simp)) rfl ?_
 rintro _ wq ⟨y1, i1, ⟨k1, rfl, s1⟩, g1, hm, hi1, hS⟩
 obtain ⟨p1, c1, rfl, -⟩ := id s1
 replace gm := gm.nxt hm hS
 replace s0 := s0.ext hS (by simp) (fun _ h => .inl h)
 replace e0 := e0.ext hS (by simp; exact n0)
 clear hm hS
 refine D ?_
 refine WD_eff rfl trivial (OE_buildSlice (vs := [(0, .agg #[.int .i64 y0.kind, .int .i64 y0.num, str y0.word, .slice p0 y0.kids.length c0]), (1, .agg #[.int .i64 y1.kind, .int .i64 y1.num, str y1.word, .slice p1 y1.kids.length c1])]) rfl (buildSN2 _ _ _ _ _ _ _ _ _ _ _ _)) (fun _ _ h => (NewSl.stp h).mono (by simp)) rfl ?_
 rintro bv wq hN
 have hbv : SlV (b4 :: bm :: X) wq bv [y0, y1] := hN.slvG (css := [ndC y0 _, ndC y1 _]) gm.hX rfl rfl rfl (reps2 s0 s1) (by simp [maxLen])
 have hT := NewSl.stp hN
 clear hN
 replace gm := gm.up hT
 clear hT
 refine D ?_
 refine WD_eff rfl trivial (OE_call rfl (evs3 rfl rfl rfl) (node13_any (b4 :: bm :: X) (7 + (q4 : Int) / 3) units5[q'] bv [y0, y1] _ gm.hX hbv)) (fun _ _ h => h.2.mono (by simp)) rfl ?_
 rintro _ wq ⟨⟨ky, rfl, hy⟩, hT⟩
 replace gm := gm.up hT
 clear hT hbv
 refine D ?_
 obtain ⟨cs, hcl, hcb⟩ := gm.blk
 refine WD_eff0 rfl trivial (OE_storeA (us := ndC (.mk (7 + (q4 : Int) / 3) 0 units5[q'] [y0, y1]) _) rfl rfl rfl rfl (ndC_one (x := (.mk (7 + (q4 : Int) / 3) 0 units5[q'] [y0, y1])) hy) hcb hcl.symm) (fun _ _ h => h.1.mono (by simp)) ?_
 rintro _ wz ⟨hz, hbz⟩
 refine D ?_
 refine W ?_
 refine WQ_retc rfl rfl rfl hbz rfl ?_
 have hf := gm.fin (y := (.mk (7 + (q4 : Int) / 3) 0 units5[q'] [y0, y1])) hS0 hb4 hy hz
 exact .mk ⟨_, _, hf.1, .move _ _ _ _ _ (by omega) hu g0 g1, hf.2.1, by omega, hf.2.2⟩
end Go.Proofs.YtgpibcgebpgmiaaGreatDoor
namespace Go.Eng
open Go Go.RowKit Go.Proofs
def startY (y : Int) : Int := 365 * (y - 1) + (y - 1) / 4 - (y - 1) / 100 + (y - 1) / 400
def cumL (y : Int) : Nat → Int
 | 0 => 0
 | k + 1 => cumL y k + lengthM y ((k : Int) + 1)
theorem leapM_iff (y : Int) : leapM y = true ↔ (y % 4 = 0 ∧ (¬ y % 100 = 0 ∨ y % 400 = 0)) := by
 unfold leapM
 simp
theorem startY_step (y : Int) : startY (y + 1) = startY y + (if leapM y = true then 366 else 365) := by
 unfold startY
 have h := leapM_iff y
 by_cases hl : leapM y = true
 · rw [if_pos hl]
   have := h.1 hl
   omega
 · rw [if_neg hl]
   have : ¬ (y % 4 = 0 ∧ (¬ y % 100 = 0 ∨ y % 400 = 0)) := fun h' => hl (h.2 h')
   omega
theorem startY_mono {a b : Int} (h : a ≤ b) : startY a ≤ startY b := by
 unfold startY; omega
theorem lengthM_pos {y : Int} {k : Nat} (hk : k < 12) : 28 ≤ lengthM y ((k : Int) + 1) := by
 unfold lengthM
 rw [if_neg (by omega)]
 repeat' split
 all_goals omega
theorem cumL_eq (y : Int) : ∀ k : Nat, k ≤ 11 → cumL y k = (if k < 2 then 31 * (k : Int) else (if leapM y = true then 1 else 0) + (153 * ((k : Int) - 2) + 2) / 5 + 59) := by
 intro k hk
 have : k = 0 ∨ k = 1 ∨ k = 2 ∨ k = 3 ∨ k = 4 ∨ k = 5 ∨ k = 6 ∨ k = 7 ∨ k = 8 ∨ k = 9 ∨ k = 10 ∨ k = 11 := by omega
 rcases this with rfl | rfl | rfl | rfl | rfl | rfl | rfl | rfl | rfl | rfl | rfl | rfl <;> simp [cumL, lengthM] <;> cases leapM y <;> simp
theorem cum12 (y : Int) : cumL y 12 = if leapM y = true then 366 else 365 := by
 simp [cumL, lengthM]
 cases leapM y <;> simp
theorem dayM_cum (y d : Int) (k : Nat) (hk : k ≤ 11) : dayM y ((k : Int) + 1) d = startY y + cumL y k + d - 1 := by
 rw [cumL_eq y k hk]
 unfold dayM
 by_cases h2 : k < 2
 · rw [if_pos h2, if_pos (by omega)]
   simp only
   unfold startY
   omega
 · rw [if_neg h2, if_neg (by omega)]
   simp only
   have h := startY_step y
   have hl := leapM_iff y
   have e : (153 * ((k : Int) + 1 - 3) + 2) / 5 = (153 * ((k : Int) - 2) + 2) / 5 := by congr 2; omega
   rw [e]
   generalize (153 * ((k : Int) - 2) + 2) / 5 = z
   have e2 : startY (y + 1) = 365 * y + y / 4 - y / 100 + y / 400 := by unfold startY; omega
   rw [e2] at h
   by_cases hl' : leapM y = true
   · rw [if_pos hl'] at h ⊢; omega
   · rw [if_neg hl'] at h ⊢; omega
theorem cumL_mono {y : Int} : ∀ {a b : Nat}, a ≤ b → b ≤ 12 → cumL y a ≤ cumL y b
 | a, 0, h, _ => by obtain rfl : a = 0 := by omega
                    exact Int.le_refl _
 | a, b + 1, h, h2 => by
   by_cases e : a = b + 1
   · subst e; exact Int.le_refl _
   · have := cumL_mono (y := y) (a := a) (b := b) (by omega) (by omega)
     have := lengthM_pos (y := y) (k := b) (by omega)
     simp only [cumL]; omega
theorem ofM_parts {n : Int} (h0 : 0 ≤ n) (h1 : n ≤ 3652058) : ∃ k : Nat, k ≤ 11 ∧ (ofM n).m = (k : Int) + 1 ∧ 1 ≤ (ofM n).y ∧ (ofM n).y ≤ 9999 ∧ n = startY (ofM n).y + cumL (ofM n).y k + (ofM n).d - 1 ∧ 1 ≤ (ofM n).d ∧ (ofM n).d ≤ lengthM (ofM n).y ((k : Int) + 1) ∧ startY (ofM n).y ≤ n ∧ n < startY ((ofM n).y + 1) := by
 obtain ⟨g1, g2, g3, g4, g5, g6, g7⟩ := ofM_ok h0 h1
 obtain ⟨k, hk⟩ : ∃ k : Nat, (ofM n).m = (k : Int) + 1 := ⟨((ofM n).m - 1).toNat, by omega⟩
 have hk11 : k ≤ 11 := by omega
 rw [hk] at g6 g7
 rw [dayM_cum _ _ k hk11] at g7
 have c0 := cumL_mono (y := (ofM n).y) (a := 0) (b := k) (by omega) (by omega)
 have c1 := cumL_mono (y := (ofM n).y) (a := k + 1) (b := 12) (by omega) (by omega)
 have c2 := cum12 (ofM n).y
 have c3 := startY_step (ofM n).y
 rw [c2, show cumL (ofM n).y (k + 1) = cumL (ofM n).y k + lengthM (ofM n).y ((k : Int) + 1) from rfl] at c1
 rw [show cumL (ofM n).y 0 = 0 from rfl] at c0
 exact ⟨k, hk11, hk, g1, g2, g7.symm, g5, g6, by omega, by omega⟩
theorem dec_step (k : Nat) (h : 0 < k) : Lib.decDigits k = (if k / 10 = 0 then [] else Lib.decDigits (k / 10)) ++ [UInt8.ofNat (48 + k % 10)] := by
 rw [Lib.decDigits]
 by_cases h10 : k < 10
 · rw [dif_pos h10, if_pos (by omega)]
   simp [Nat.mod_eq_of_lt h10]
 · rw [dif_neg h10, if_neg (by omega)]
theorem dec_digit (d : Nat) (h : d < 10) : (([48, 49, 50, 51, 52, 53, 54, 55, 56, 57] : Str).take (d + 1)).drop d = [UInt8.ofNat (48 + d)] := by
 have : d = 0 ∨ d = 1 ∨ d = 2 ∨ d = 3 ∨ d = 4 ∨ d = 5 ∨ d = 6 ∨ d = 7 ∨ d = 8 ∨ d = 9 := by omega
 rcases this with rfl | rfl | rfl | rfl | rfl | rfl | rfl | rfl | rfl | rfl <;> rfl
end Go.Eng
namespace Go.Proofs.YtgpibcgebpgmiaaGreatDoor
open Go Go.Eng Go.RowKit Go.Proofs
theorem Decimal01_any (n : Int) (w : World) (h0 : 0 ≤ n) (h1 : n ≤ 9223372036854775807) : Calls Tryz.prog 122 #[.int .i64 n] w (Ret fun r w' => r = str (Lib.itoa n) ∧ Stp [] w w') := by
 obtain ⟨u, rfl⟩ : ∃ u : Nat, n = (u : Int) := ⟨n.toNat, by omega⟩
 have hit : Lib.itoa (u : Int) = Lib.decDigits u := by unfold Lib.itoa; rw [if_neg (by omega)]; rfl
 rw [hit]
 have hlen : (Lib.decDigits u).length ≤ 19 := decDigits_len 18 u (by omega)
 refine calls_of_WC1 (n := 32) Tryz.func122 rfl rfl rfl ?_
 by_cases hz : (u : Int) = 0
 · obtain rfl : u = 0 := by omega
   repeat' (first | refine W1 ?_ | (exfalso; omega) | (refine VG ?_ ?_ <;> intro hg) | (refine VC ?_ ?_ <;> intro hc))
   refine WR ?_
   exact .mk ⟨by rw [Lib.decDigits]; rfl, Stp.refl _ _⟩
 · repeat' (first | refine W1 ?_ | (exfalso; omega) | (refine VG ?_ ?_ <;> intro hg) | (refine VC ?_ ?_ <;> intro hc))
   refine WC_loop (σ := Nat × Str) (fun q => [(0, .int .i64 (u : Int)), (3, str [48, 49, 50, 51, 52, 53, 54, 55, 56, 57]), (4, str q.2), (5, .int .i64 (q.1 : Int))]) (fun q w' => w' = w ∧ q.1 ≤ u ∧ (if q.1 = 0 then [] else Lib.decDigits q.1) ++ q.2 = Lib.decDigits u) (fun q => q.1) (u, []) ⟨rfl, rfl, rfl, rfl, trivial⟩ ⟨rfl, Nat.le_refl _, by simp only; rw [if_neg (by omega)]; simp⟩ ?_
   rintro ⟨k, s⟩ w1 ⟨rfl, hk, he⟩
   dsimp only at hk he ⊢
   have hsl : s.length ≤ 19 := by
    have := congrArg List.length he
    simp only [List.length_append] at this
    omega
   by_cases hk0 : (k : Int) = 0
   · obtain rfl : k = 0 := by omega
     repeat' (first | refine W1 ?_ | (exfalso; omega) | (refine VG ?_ ?_ <;> intro hg) | (refine VC ?_ ?_ <;> intro hc))
     refine WR ?_
     exact .mk ⟨by simpa using congrArg str he, Stp.refl _ _⟩
   · have hst := dec_step k (by omega)
     rw [if_neg (by omega), hst, List.append_assoc] at he
     repeat' (first | refine W1 ?_ | (exfalso; omega) | (refine VG ?_ ?_ <;> intro hg) | (refine VC ?_ ?_ <;> intro hc))
     refine WL_pure (PR_sliceT_lh (l := k % 10) (r := k % 10 + 1) rfl rfl rfl (by omega) (by omega) (by omega) (by show k % 10 + 1 ≤ 10; omega)) rfl ?_
     rw [dec_digit (k % 10) (by omega)]
     refine W ?_
     refine WL_addT rfl rfl (by simp; omega) rfl ?_
     refine W ?_
     refine WQ_loop (k / 10, [UInt8.ofNat (48 + k % 10)] ++ s) ⟨rfl, rfl, rfl, by simp only [Int.natCast_ediv]; rfl, trivial⟩ ⟨rfl, by dsimp only; omega, by dsimp only; exact he⟩ (by dsimp only; omega)
theorem Decimal02_any (n : Int) (w : World) (h0 : 0 ≤ n) (h1 : n ≤ 9223372036854775807) : Calls Tryz.prog 165 #[.int .i64 n] w (Ret fun r w' => r = str (Lib.itoa n) ∧ Stp [] w w') := by
 obtain ⟨u, rfl⟩ : ∃ u : Nat, n = (u : Int) := ⟨n.toNat, by omega⟩
 have hit : Lib.itoa (u : Int) = Lib.decDigits u := by unfold Lib.itoa; rw [if_neg (by omega)]; rfl
 rw [hit]
 have hlen : (Lib.decDigits u).length ≤ 19 := decDigits_len 18 u (by omega)
 refine calls_of_WC1 (n := 32) Tryz.func165 rfl rfl rfl ?_
 by_cases hz : (u : Int) = 0
 · obtain rfl : u = 0 := by omega
   repeat' (first | refine W1 ?_ | (exfalso; omega) | (refine VG ?_ ?_ <;> intro hg) | (refine VC ?_ ?_ <;> intro hc))
   refine WR ?_
   exact .mk ⟨by rw [Lib.decDigits]; rfl, Stp.refl _ _⟩
 · repeat' (first | refine W1 ?_ | (exfalso; omega) | (refine VG ?_ ?_ <;> intro hg) | (refine VC ?_ ?_ <;> intro hc))
   refine WC_loop (σ := Nat × Str) (fun q => [(0, .int .i64 (u : Int)), (3, str [48, 49, 50, 51, 52, 53, 54, 55, 56, 57]), (4, str q.2), (5, .int .i64 (q.1 : Int))]) (fun q w' => w' = w ∧ q.1 ≤ u ∧ (if q.1 = 0 then [] else Lib.decDigits q.1) ++ q.2 = Lib.decDigits u) (fun q => q.1) (u, []) ⟨rfl, rfl, rfl, rfl, trivial⟩ ⟨rfl, Nat.le_refl _, by simp only; rw [if_neg (by omega)]; simp⟩ ?_
   rintro ⟨k, s⟩ w1 ⟨rfl, hk, he⟩
   dsimp only at hk he ⊢
   have hsl : s.length ≤ 19 := by
    have := congrArg List.length he
    simp only [List.length_append] at this
    omega
   by_cases hk0 : (k : Int) = 0
   · obtain rfl : k = 0 := by omega
     repeat' (first | refine W1 ?_ | (exfalso; omega) | (refine VG ?_ ?_ <;> intro hg) | (refine VC ?_ ?_ <;> intro hc))
     refine WR ?_
     exact .mk ⟨by simpa using congrArg str he, Stp.refl _ _⟩
   · have hst := dec_step k (by omega)
     rw [if_neg (by omega), hst, List.append_assoc] at he
     repeat' (first | refine W1 ?_ | (exfalso; omega) | (refine VG ?_ ?_ <;> intro hg) | (refine VC ?_ ?_ <;> intro hc))
     refine WL_pure (PR_sliceT_lh (l := k % 10) (r := k % 10 + 1) rfl rfl rfl (by omega) (by omega) (by omega) (by show k % 10 + 1 ≤ 10; omega)) rfl ?_
     rw [dec_digit (k % 10) (by omega)]
     refine W ?_
     refine WL_addT rfl rfl (by simp; omega) rfl ?_
     refine W ?_
     refine WQ_loop (k / 10, [UInt8.ofNat (48 + k % 10)] ++ s) ⟨rfl, rfl, rfl, by simp only [Int.natCast_ediv]; rfl, trivial⟩ ⟨rfl, by dsimp only; omega, by dsimp only; exact he⟩ (by dsimp only; omega)
theorem Leap8_any (y : Int) (w : World) (h0 : 0 ≤ y) (h1 : y ≤ 100000) : Calls Tryz.prog 200 #[.int .i64 y] w (Ret fun r w' => r = .bool (leapM y) ∧ w' = w) := by
 unfold leapM
 refine calls_of_WC1 (n := 16) Tryz.func200 rfl rfl rfl ?_
 repeat' (first | refine W1 ?_ | (exfalso; omega) | (refine VG ?_ ?_ <;> intro hg) | (refine VC ?_ ?_ <;> intro hc))
 all_goals refine WR ?_
 all_goals refine .mk ⟨?_, rfl⟩
 all_goals congr 1
 all_goals (first | done | (rw [Bool.eq_iff_iff]; simp; omega) | (simp [*]))
theorem Length8_any (y m : Int) (w : World) (h0 : 0 ≤ y) (h1 : y ≤ 100000) : Calls Tryz.prog 164 #[.int .i64 y, .int .i64 m] w (Ret fun r w' => r = .int .i64 (lengthM y m) ∧ w' = w) := by
 unfold lengthM
 by_cases hm : m < 1 ∨ 12 < m
 · rw [if_pos hm]
   refine calls_of_WC2 (n := 23) Tryz.func164 rfl rfl rfl ?_
   repeat' (first | refine W1 ?_ | (exfalso; omega) | (refine VG ?_ ?_ <;> intro hg) | (refine VC ?_ ?_ <;> intro hc))
   all_goals first
    | (exfalso; omega)
    | (refine WR ?_
       exact .mk ⟨rfl, rfl⟩)
 rw [if_neg hm]
 by_cases h2 : m = 2
 · subst h2
   rw [if_pos rfl]
   refine calls_of_WC2 (n := 23) Tryz.func164 rfl rfl rfl ?_
   repeat' (first | refine W1 ?_ | (exfalso; omega) | (refine VG ?_ ?_ <;> intro hg) | (refine VC ?_ ?_ <;> intro hc))
   refine CL rfl (evs1 rfl) rfl (Leap8_any y _ h0 h1) ?_
   rintro _ _ ⟨rfl, rfl⟩
   cases leapM y
   · refine W ?_
     refine WR ?_
     exact .mk ⟨rfl, rfl⟩
   · refine W ?_
     refine WR ?_
     exact .mk ⟨rfl, rfl⟩
 rw [if_neg h2]
 by_cases h4 : m = 4 ∨ m = 6 ∨ m = 9 ∨ m = 11
 · rw [if_pos h4]
   refine calls_of_WC2 (n := 23) Tryz.func164 rfl rfl rfl ?_
   rcases h4 with rfl | rfl | rfl | rfl
   all_goals
    repeat' (first | refine W1 ?_ | (exfalso; omega) | (refine VG ?_ ?_ <;> intro hg) | (refine VC ?_ ?_ <;> intro hc))
    refine WR ?_
    exact .mk ⟨rfl, rfl⟩
 · rw [if_neg h4]
   refine calls_of_WC2 (n := 23) Tryz.func164 rfl rfl rfl ?_
   have h5 : m = 1 ∨ m = 3 ∨ m = 5 ∨ m = 7 ∨ m = 8 ∨ m = 10 ∨ m = 12 := by omega
   rcases h5 with rfl | rfl | rfl | rfl | rfl | rfl | rfl
   all_goals
    repeat' (first | refine W1 ?_ | (exfalso; omega) | (refine VG ?_ ?_ <;> intro hg) | (refine VC ?_ ?_ <;> intro hc))
    refine WR ?_
    exact .mk ⟨rfl, rfl⟩
theorem start8_any (y : Int) (w : World) (h0 : 1 ≤ y) (h1 : y ≤ 100000) : Calls Tryz.prog 163 #[.int .i64 y] w (Ret fun r w' => r = .int .i64 (startY y) ∧ w' = w) := by
 refine calls_of_WC1 (n := 17) Tryz.func163 rfl rfl rfl ?_
 repeat' (first | refine W1 ?_ | (exfalso; omega) | (refine VG ?_ ?_ <;> intro hg) | (refine VC ?_ ?_ <;> intro hc))
 refine WR ?_
 exact .mk ⟨rfl, rfl⟩
abbrev datC (y m d : Int) : List Value := [.int .i64 y, .int .i64 m, .int .i64 d]
theorem buildDt2 (y m : Int) (w : World) : (Instr.build 134 #[(0, .int .i64 y), (1, .int .i64 m)]).run Tryz.prog w = .ok (.agg #[.int .i64 y, .int .i64 m, .int .i64 0]) w := by kernel_rfl
theorem Of8_any (n : Int) (w : World) (h0 : 0 ≤ n) (h1 : n ≤ 3652058) : Calls Tryz.prog 120 #[.int .i64 n] w (Ret fun r w' => r = .tuple #[datV (ofM n).y (ofM n).m (ofM n).d, .int .i64 0] ∧ Stp [] w w') := by
 obtain ⟨K, hK, hm, hy1, hy2, hn, hd1, hd2, hs1, hs2⟩ := ofM_parts h0 h1
 generalize (ofM n).y = Y at *
 generalize (ofM n).m = M at *
 generalize (ofM n).d = D at *
 subst hm
 refine calls_of_WC1 (n := 54) Tryz.func120 rfl rfl rfl ?_
 refine W ?_
 refine WL_eff OE_alloc rfl ?_
 rintro _ w1 ⟨b2, rfl, hb2, e2, hS⟩
 have hb2w := hS.size
 repeat' (first | refine W1 ?_ | (exfalso; omega) | (refine VG ?_ ?_ <;> intro hg) | (refine VC ?_ ?_ <;> intro hc))
 refine WL_build (vs := [(0, .int .i64 _), (1, .int .i64 _)]) rfl (buildDt2 _ _) rfl ?_
 refine WL_eff OE_alloc rfl ?_
 rintro _ w2 ⟨b4, rfl, hb4, e4', hT⟩
 have n2 : b4 ≠ b2 := by have := e2.lt; omega
 replace e2 := e2.up hT
 replace hS := hS.trans hT
 refine WL_eff0 (OE_storeA (us := datC (n / 366 + 1) 1 0) rfl rfl rfl rfl (by simp; exact ⟨rfl, rfl, rfl⟩) e4' rfl) ?_
 rintro _ w3 ⟨hT, e4⟩
 replace e2 := e2.ext hT (by simpa using n2.symm)
 replace hS := hS.own hT (fun c hc => .inr (by simp at hc; omega))
 clear e4' hT
 have hlt4 := e4.lt
 have hY0 : n / 366 + 1 ≤ Y := by
  have : startY (Y + 1) ≤ 366 * Y := by unfold startY; omega
  omega
 have hYs : startY (n / 366 + 1) ≤ n := Int.le_trans (startY_mono hY0) hs1
 refine W ?_
 refine WC_loop (σ := Int) (fun y => [(0, .int .i64 n), (2, .pointer (some ⟨b2, 0, none⟩)), (4, .pointer (some ⟨b4, 0, none⟩))]) (fun y w' => n / 366 + 1 ≤ y ∧ y ≤ Y ∧ Blk w' b4 134 (datC y 1 0) ∧ Blk w' b2 134 (datC 0 0 0) ∧ Stp [] w w') (fun y => (Y - y).toNat) (n / 366 + 1) ⟨rfl, rfl, rfl, trivial⟩ ⟨Int.le_refl _, hY0, e4, e2, hS⟩ ?_
 clear e4 e2 hS
 rintro y w4 ⟨hy0, hyY, e4, e2, hS⟩
 refine W ?_
 refine CL rfl (evs1 rfl) rfl (start8_any (y + 1) _ (by omega) (by omega)) ?_
 rintro _ _ ⟨rfl, rfl⟩
 by_cases hgo : startY (y + 1) ≤ n
 · have hlt : y < Y := by
    by_cases e : y = Y
    · subst e; omega
    · omega
   repeat' (first | refine W1 ?_ | (exfalso; omega) | (refine VG ?_ ?_ <;> intro hg) | (refine VC ?_ ?_ <;> intro hc))
   refine WL_eff0 (OE_store1 (u := .int .i64 (y + 1)) rfl rfl rfl rfl e4 (by simp)) ?_
   rintro _ w5 ⟨hT, e4'⟩
   replace e4' : Blk w5 b4 134 (datC (y + 1) 1 0) := e4'
   replace e2 := e2.ext hT (by simpa using n2.symm)
   replace hS := hS.own hT (fun c hc => .inr (by simp at hc; omega))
   refine W ?_
   exact WQ_loop (y + 1) ⟨rfl, rfl, rfl, trivial⟩ ⟨by omega, by omega, e4', e2, hS⟩ (by omega)
 have hYe : y = Y := by
  by_cases e : y = Y
  · exact e
  · have := startY_mono (a := y + 1) (b := Y) (by omega); omega
 subst hYe
 repeat' (first | refine W1 ?_ | (exfalso; omega) | (refine VG ?_ ?_ <;> intro hg) | (refine VC ?_ ?_ <;> intro hc))
 refine CL rfl (evs1 rfl) rfl (start8_any y _ (by omega) (by omega)) ?_
 rintro _ _ ⟨rfl, rfl⟩
 have hsb : -1000000 ≤ startY y ∧ startY y ≤ 100000000 := by unfold startY; omega
 have hcb : ∀ k : Nat, k ≤ 11 → 0 ≤ cumL y k ∧ cumL y k ≤ 366 := fun k hk => by
  have := cumL_mono (y := y) (a := 0) (b := k) (by omega) (by omega)
  have := cumL_mono (y := y) (a := k) (b := 12) (by omega) (by omega)
  have := cum12 y
  have e0 : cumL y 0 = 0 := rfl
  split at this <;> omega
 refine W ?_
 refine WC_loop (σ := Nat) (fun k => [(0, .int .i64 n), (2, .pointer (some ⟨b2, 0, none⟩)), (4, .pointer (some ⟨b4, 0, none⟩)), (5, .int .i64 (n - startY y - cumL y k))]) (fun k w' => k ≤ K ∧ Blk w' b4 134 (datC y ((k : Int) + 1) 0) ∧ Blk w' b2 134 (datC 0 0 0) ∧ Stp [] w w') (fun k => K - k) 0 ⟨rfl, rfl, rfl, by rw [show n - startY y - cumL y 0 = n - startY y by simp [cumL]]; rfl, trivial⟩ ⟨Nat.zero_le _, e4, e2, hS⟩ ?_
 clear e4 e2 hS
 rintro k w5 ⟨hkK, e4, e2, hS⟩
 have hck := hcb k (by omega)
 have hcK := hcb K (by omega)
 have hlp := lengthM_pos (y := y) (k := k) (by omega)
 have hll := lengthM_le y ((k : Int) + 1)
 refine W ?_
 refine CL rfl (evs2 rfl rfl) rfl (Length8_any y ((k : Int) + 1) _ (by omega) (by omega)) ?_
 rintro _ _ ⟨rfl, rfl⟩
 by_cases hgo : k < K
 · have hm1 := cumL_mono (y := y) (a := k + 1) (b := K) (by omega) (by omega)
   have hm2 : cumL y (k + 1) = cumL y k + lengthM y ((k : Int) + 1) := rfl
   repeat' (first | refine W1 ?_ | (exfalso; omega) | (refine VG ?_ ?_ <;> intro hg) | (refine VC ?_ ?_ <;> intro hc))
   refine CL rfl (evs2 rfl rfl) rfl (Length8_any y ((k : Int) + 1) _ (by omega) (by omega)) ?_
   rintro _ _ ⟨rfl, rfl⟩
   refine W ?_
   refine WL_eff0 (OE_store1 (u := .int .i64 ((k : Int) + 1 + 1)) rfl rfl rfl rfl e4 (by simp)) ?_
   rintro _ w6 ⟨hT, e4'⟩
   replace e4' : Blk w6 b4 134 (datC y (((k + 1 : Nat) : Int) + 1) 0) := e4'
   replace e2 := e2.ext hT (by simpa using n2.symm)
   replace hS := hS.own hT (fun c hc => .inr (by simp at hc; omega))
   refine W ?_
   exact WQ_loop (k + 1) ⟨rfl, rfl, rfl, by rw [hm2, show n - startY y - (cumL y k + lengthM y ((k : Int) + 1)) = n - startY y - cumL y k - lengthM y ((k : Int) + 1) by omega]; rfl, trivial⟩ ⟨by omega, e4', e2, hS⟩ (by omega)
 obtain rfl : k = K := by omega
 repeat' (first | refine W1 ?_ | (exfalso; omega) | (refine VG ?_ ?_ <;> intro hg) | (refine VC ?_ ?_ <;> intro hc))
 refine WL_eff0 (OE_store1 (u := .int .i64 (n - startY y - cumL y k + 1)) rfl rfl rfl rfl e4 (by simp)) ?_
 rintro _ w6 ⟨hT, e4'⟩
 replace e4' : Blk w6 b4 134 (datC y ((k : Int) + 1) (n - startY y - cumL y k + 1)) := e4'
 rw [show n - startY y - cumL y k + 1 = D by omega] at e4'
 replace e2 := e2.ext hT (by simpa using n2.symm)
 replace hS := hS.own hT (fun c hc => .inr (by simp at hc; omega))
 refine W ?_
 refine WL_eff0 (OE_storeA (us := datC y ((k : Int) + 1) D) rfl rfl rfl rfl (by simp; exact ⟨rfl, rfl, rfl⟩) e2 rfl) ?_
 rintro _ w7 ⟨hT, e2'⟩
 replace hS := hS.own hT (fun c hc => .inr (by simp at hc; omega))
 refine W ?_
 refine WQ_retct rfl rfl rfl e2' rfl rfl ?_
 exact .mk ⟨rfl, hS⟩
theorem padded8_any (n : Int) (k : Nat) (w : World) (h0 : 0 ≤ n) (h1 : n ≤ 9999) (hk : k ≤ 100) : Calls Tryz.prog 121 #[.int .i64 n, .int .i64 (k : Int)] w (Ret fun r w' => r = str (padS k (Lib.itoa n)) ∧ Stp [] w w') := by
 have hl : (Lib.itoa n).length ≤ 4 := by
  unfold Lib.itoa
  rw [if_neg (by omega)]
  exact decDigits_len 3 n.toNat (by omega)
 refine calls_of_WC2 (n := 15) Tryz.func121 rfl rfl rfl ?_
 refine W ?_
 refine CL rfl (evs1 rfl) rfl (Decimal02_any n _ h0 (by omega)) ?_
 rintro _ w1 ⟨rfl, hS⟩
 refine W ?_
 generalize Lib.itoa n = s at *
 refine WC_loop (σ := Nat) (fun j => [(1, .int .i64 (k : Int)), (5, str (List.replicate j 48 ++ s))]) (fun j w' => (j = 0 ∨ j + s.length ≤ k) ∧ w' = w1) (fun j => k - j) 0 ⟨rfl, rfl, trivial⟩ ⟨.inl rfl, rfl⟩ ?_
 rintro j w2 ⟨hj, rfl⟩
 have hlen : (List.replicate j 48 ++ s : Str).length = j + s.length := by simp
 by_cases hgo : j + s.length < k
 · repeat' (first | refine W1 ?_ | (exfalso; omega) | (refine VG ?_ ?_ <;> intro hg) | (refine VC ?_ ?_ <;> intro hc))
   refine WL_addT rfl rfl (by simp; omega) rfl ?_
   refine W ?_
   exact WQ_loop (j + 1) ⟨rfl, by rw [List.replicate_succ]; rfl, trivial⟩ ⟨.inr (by omega), rfl⟩ (by omega)
 · repeat' (first | refine W1 ?_ | (exfalso; omega) | (refine VG ?_ ?_ <;> intro hg) | (refine VC ?_ ?_ <;> intro hc))
   refine WR ?_
   refine .mk ⟨?_, hS⟩
   unfold padS
   rw [show k - s.length = j by omega]
theorem Print8_any (n : Int) (w : World) (h0 : 0 ≤ n) (h1 : n ≤ 3652058) : Calls Tryz.prog 75 #[.int .i64 n] w (Ret fun r w' => r = str (dateS n) ∧ Stp [] w w') := by
 obtain ⟨g1, g2, g3, g4, g5, g6, g7⟩ := ofM_ok h0 h1
 have g8 := lengthM_le (ofM n).y (ofM n).m
 have hli : ∀ (z : Int), 0 ≤ z → z ≤ 9999 → (Lib.itoa z).length ≤ 4 := fun z hz h => by
  unfold Lib.itoa
  rw [if_neg (by omega)]
  exact decDigits_len 3 z.toNat (by omega)
 have hpl : ∀ (z : Int) (k : Nat), 0 ≤ z → z ≤ 9999 → (padS k (Lib.itoa z)).length ≤ k + 4 := fun z k hz h => by
  have := hli z hz h
  unfold padS
  simp
  omega
 unfold dateS
 have hOf := Of8_any n w h0 h1
 generalize ofM n = dd at *
 refine calls_of_WC1 (n := 25) Tryz.func75 rfl rfl rfl ?_
 refine W ?_
 refine CL rfl (evs1 rfl) rfl hOf ?_
 rintro _ w1 ⟨rfl, hS⟩
 refine W ?_
 refine WL_eff OE_alloc rfl ?_
 rintro _ w2 ⟨b3, rfl, hb3, e3, hT1⟩
 have hw := hS.size
 replace hS := hS.trans hT1
 clear hT1
 refine WL_eff0 (OE_storeA (us := [.int .i64 dd.y, .int .i64 dd.m, .int .i64 dd.d]) rfl rfl rfl rfl (by simp; exact ⟨rfl, rfl, rfl⟩) e3 rfl) ?_
 rintro _ w3 ⟨hT1, e3'⟩
 replace hS := hS.own hT1 (fun c hc => .inr (by simp at hc; omega))
 clear e3 hT1
 have p1 := hpl dd.y 4 (by omega) (by omega)
 have p2 := hpl dd.m 2 (by omega) (by omega)
 have p3 := hpl dd.d 2 (by omega) (by omega)
 repeat' (first | refine W1 ?_ | (exfalso; omega) | (refine VG ?_ ?_ <;> intro hg) | (refine VC ?_ ?_ <;> intro hc))
 refine WC_drawn 14 [] [] [(0, 0), (1, 1), (4, 0), (5, 1), (9, 0), (10, 1), (2, 2), (3, 0), (6, 2), (7, 0), (8, 0), (11, 2), (12, 0), (13, 0)] rfl mixed (by kernel_rfl) (by kernel_rfl) (by kernel_rfl) (fun w1 hS1 => ?_)
 replace e3' := e3'.up hS1
 replace hS := hS.trans hS1
 clear hS1
 refine D ?_
 have hp := padded8_any dd.y 4 w1 (by omega) (by omega) (by omega)
 refine WD_eff rfl trivial (OE_call rfl (evs2 rfl rfl) hp) (fun _ _ h => h.2) rfl ?_
 clear hp
 rintro _ w5 ⟨rfl, hT1⟩
 replace e3' := e3'.up hT1
 replace hS := hS.trans hT1
 clear hT1
 refine WD_free rfl trivial (fun _ => PR_addT rfl rfl (by simp; omega)) rfl ?_
 refine D ?_
 have hp := padded8_any dd.m 2 w5 (by omega) (by omega) (by omega)
 refine WD_eff rfl trivial (OE_call rfl (evs2 rfl rfl) hp) (fun _ _ h => h.2) rfl ?_
 clear hp
 rintro _ w6 ⟨rfl, hT1⟩
 replace e3' := e3'.up hT1
 replace hS := hS.trans hT1
 clear hT1
 refine WD_free rfl trivial (fun _ => PR_addT rfl rfl (by simp; omega)) rfl ?_
 refine WD_free rfl trivial (fun _ => PR_addT rfl rfl (by simp; omega)) rfl ?_
 refine D ?_
 have hp := padded8_any dd.d 2 w6 (by omega) (by omega) (by omega)
 refine WD_eff rfl trivial (OE_call rfl (evs2 rfl rfl) hp) (fun _ _ h => h.2) rfl ?_
 clear hp
 rintro _ w7 ⟨rfl, hT1⟩
 replace e3' := e3'.up hT1
 replace hS := hS.trans hT1
 clear hT1
 refine WD_free rfl trivial (fun _ => PR_addT rfl rfl (by simp; omega)) rfl ?_
 refine D ?_
 refine W ?_
 refine WR ?_
 exact .mk ⟨rfl, hS⟩
end Go.Proofs.YtgpibcgebpgmiaaGreatDoor
