/-
Merged by program out of own texts: Gen1, Gen2, Gen3, Psr3, Psr4, Psr5, Psr6, Nam3, Nam4, Psr7, Psr8, Rg1, Rt1, Rt2, Rt3, LexM, Lex1, Rt4, Rt5.
-/
import Derived.Test.YtgpibcgebpgmiaaGreatDoorM2
import Derived.Lib.ItoaNum
set_option linter.unusedVariables false
set_option linter.unusedSimpArgs false
namespace Go.Proofs.YtgpibcgebpgmiaaGreatDoor
open Go Go.Eng Go.RowKit
theorem Around01_any (z : Int) (m : Int) (w : World) (hm : 0 < m) (hz : I64 z) : Calls Tryz.prog 22 #[.int .i64 z, .int .i64 m] w (Ret fun r w' => r = .int .i64 ((if z < 0 then -(z + 1) else z) % m) ∧ Stp [] w w') := by
 unfold I64 at hz
 refine calls_of_WC2 (n := 13) Tryz.func22 rfl rfl rfl ?_
 by_cases h : z < 0
 · repeat' (first | refine W1 ?_ | (exfalso; omega) | (refine VG ?_ ?_ <;> intro hg) | (refine VC ?_ ?_ <;> intro hc))
   refine WR ?_
   exact .mk ⟨by rw [if_pos h], Stp.refl _ _⟩
 · repeat' (first | refine W1 ?_ | (exfalso; omega) | (refine VG ?_ ?_ <;> intro hg) | (refine VC ?_ ?_ <;> intro hc))
   refine WR ?_
   exact .mk ⟨by rw [if_neg h], Stp.refl _ _⟩
theorem around_range (z m : Int) (hm : 0 < m) : 0 ≤ z % m ∧ z % m < m := ⟨Int.emod_nonneg _ (by omega), Int.emod_lt_of_pos _ hm⟩
theorem Pick01_any (X : List Nat) (v : Value) (l : List Int) (i m : Int) (w : World) (hm : 0 < m) (hi : I64 i) (hs : SlV X w v l) (hl : ∀ a ∈ l, I64 a) : Calls Tryz.prog 96 #[v, .int .i64 i, .int .i64 m] w (Ret fun r w' => ∃ q : Nat, r = .int .i64 (q : Int) ∧ (q : Int) < m ∧ Stp [] w w') := by
 unfold I64 at hi
 have hmax := hs.max
 refine calls_of_WC3 (n := 21) Tryz.func96 rfl rfl rfl ?_
 refine W ?_
 by_cases hgo : 0 ≤ i ∧ i < l.length
 · obtain ⟨h0, h1⟩ := hgo
   obtain ⟨k, rfl⟩ : ∃ k : Nat, i = (k : Int) := ⟨i.toNat, by omega⟩
   have hk : k < l.length := by omega
   repeat' (first | refine W1 ?_ | (exfalso; omega) | (refine VG ?_ ?_ <;> intro hg) | (refine VC ?_ ?_ <;> intro hc))
   refine CL rfl (evs2 rfl rfl) rfl (Around01_any _ m _ hm (hl _ (List.getElem_mem hk))) ?_
   rintro _ w2 ⟨rfl, hS⟩
   refine W ?_
   refine WR ?_
   have := around_range (if l[k] < 0 then -(l[k] + 1) else l[k]) m hm
   exact .mk ⟨_, by rw [Int.toNat_of_nonneg this.1], by rw [Int.toNat_of_nonneg this.1]; exact this.2, hS⟩
 · repeat' (first | refine W1 ?_ | (exfalso; omega) | (refine VG ?_ ?_ <;> intro hg) | (refine VC ?_ ?_ <;> intro hc))
   all_goals first
    | (refine WR ?_
       exact .mk ⟨0, rfl, by simpa using hm, Stp.refl _ _⟩)
theorem buildN023 (k : Int) (s : Str) (p : Option Addr) (l c : Nat) (w : World) : (Instr.build 36 #[(0, .int .i64 k), (2, str s), (3, .slice p l c)]).run Tryz.prog w = .ok (.agg #[.int .i64 k, .int .i64 0, str s, .slice p l c]) w := by kernel_rfl
abbrev Mk (w : World) (bm : Nat) (lv : Value) (i : Nat) : Prop := Blk w bm 109 [lv, .int .i64 (i : Int)]
def szD : Nat → Nat
 | 0 => 0
 | d + 1 => 1 + 3 * szD d
theorem szD_eq {d : Nat} (h : 1 ≤ d) : szD d = 1 + 3 * szD (d - 1) := by
 cases d with
 | zero => omega
 | succ d => rfl
structure G (X : List Nat) (w0 w : World) (bm b4 : Nat) (lv : Value) (l : List Int) (i : Nat) : Prop where
 mkr : Mk w bm lv i
 sl : SlV [bm] w lv l
 stp : Stp [bm] w0 w
 blk : ∃ cs : List Value, cs.length = 4 ∧ Blk w b4 36 cs
 ne : b4 ≠ bm
 hX : ∀ b ∈ X, b < w.heap.size
theorem reps1 {X : List Nat} {w : World} {y0 : Nd} {k0 : Value} (s0 : SlV X w k0 y0.kids) : ∀ i (hi : i < [y0].length) (hi' : i < [ndC y0 k0].length), GoRep.rep X w [y0][i] [ndC y0 k0][i]
 | 0, _, _ => (show NRep X w y0 (ndC y0 k0) by rw [y0.eta]; exact slv_nrep s0)
theorem reps2 {X : List Nat} {w : World} {y0 y1 : Nd} {k0 k1 : Value} (s0 : SlV X w k0 y0.kids) (s1 : SlV X w k1 y1.kids) : ∀ i (hi : i < [y0, y1].length) (hi' : i < [ndC y0 k0, ndC y1 k1].length), GoRep.rep X w [y0, y1][i] [ndC y0 k0, ndC y1 k1][i]
 | 0, _, _ => (show NRep X w y0 (ndC y0 k0) by rw [y0.eta]; exact slv_nrep s0)
 | 1, _, _ => (show NRep X w y1 (ndC y1 k1) by rw [y1.eta]; exact slv_nrep s1)
theorem reps3 {X : List Nat} {w : World} {y0 y1 y2 : Nd} {k0 k1 k2 : Value} (s0 : SlV X w k0 y0.kids) (s1 : SlV X w k1 y1.kids) (s2 : SlV X w k2 y2.kids) : ∀ i (hi : i < [y0, y1, y2].length) (hi' : i < [ndC y0 k0, ndC y1 k1, ndC y2 k2].length), GoRep.rep X w [y0, y1, y2][i] [ndC y0 k0, ndC y1 k1, ndC y2 k2][i]
 | 0, _, _ => (show NRep X w y0 (ndC y0 k0) by rw [y0.eta]; exact slv_nrep s0)
 | 1, _, _ => (show NRep X w y1 (ndC y1 k1) by rw [y1.eta]; exact slv_nrep s1)
 | 2, _, _ => (show NRep X w y2 (ndC y2 k2) by rw [y2.eta]; exact slv_nrep s2)
theorem buildN01 (k n : Int) (w : World) : (Instr.build 36 #[(0, .int .i64 k), (1, .int .i64 n)]).run Tryz.prog w = .ok (.agg #[.int .i64 k, .int .i64 n, str [], .slice none 0 0]) w := by kernel_rfl
theorem buildN02 (k : Int) (s : Str) (w : World) : (Instr.build 36 #[(0, .int .i64 k), (2, str s)]).run Tryz.prog w = .ok (.agg #[.int .i64 k, .int .i64 0, str s, .slice none 0 0]) w := by kernel_rfl
theorem buildSN2 (k n : Int) (s : Str) (p : Option Addr) (l c : Nat) (k' n' : Int) (s' : Str) (p' : Option Addr) (l' c' : Nat) (w : World) : (Instr.buildSlice 34 2 #[(0, .agg #[.int .i64 k, .int .i64 n, str s, .slice p l c]), (1, .agg #[.int .i64 k', .int .i64 n', str s', .slice p' l' c'])]).run Tryz.prog w = .ok (.slice (some ⟨w.heap.size, 0, none⟩) 2 2) (w.alloc (.cells #[.int .i64 k, .int .i64 n, str s, .slice p l c, .int .i64 k', .int .i64 n', str s', .slice p' l' c'] 36)) := by kernel_rfl
theorem buildSN3 (k n : Int) (s : Str) (p : Option Addr) (l c : Nat) (k' n' : Int) (s' : Str) (p' : Option Addr) (l' c' : Nat) (k'' n'' : Int) (s'' : Str) (p'' : Option Addr) (l'' c'' : Nat) (w : World) : (Instr.buildSlice 34 3 #[(0, .agg #[.int .i64 k, .int .i64 n, str s, .slice p l c]), (1, .agg #[.int .i64 k', .int .i64 n', str s', .slice p' l' c']), (2, .agg #[.int .i64 k'', .int .i64 n'', str s'', .slice p'' l'' c''])]).run Tryz.prog w = .ok (.slice (some ⟨w.heap.size, 0, none⟩) 3 3) (w.alloc (.cells #[.int .i64 k, .int .i64 n, str s, .slice p l c, .int .i64 k', .int .i64 n', str s', .slice p' l' c', .int .i64 k'', .int .i64 n'', str s'', .slice p'' l'' c''] 36)) := by kernel_rfl
theorem size1 (k n : Int) (s : Str) (y0 : Nd) : sizeN (.mk k n s [y0]) = 1 + sizeN y0 := by rw [sizeN_eq]; simp [Nd.kids]
theorem size2 (k n : Int) (s : Str) (y0 y1 : Nd) : sizeN (.mk k n s [y0, y1]) = 1 + sizeN y0 + sizeN y1 := by rw [sizeN_eq]; simp [Nd.kids]; omega
theorem size3 (k n : Int) (s : Str) (y0 y1 y2 : Nd) : sizeN (.mk k n s [y0, y1, y2]) = 1 + sizeN y0 + sizeN y1 + sizeN y2 := by rw [sizeN_eq]; simp [Nd.kids]; omega
theorem size0 (k n : Int) (s : Str) : sizeN (.mk k n s []) = 1 := by rw [sizeN_eq]; simp [Nd.kids]
theorem nest0 (k n : Int) (s : Str) : nestN (.mk k n s []) = 1 := by rw [nestN_eq]; simp [Nd.kids]
theorem nest1 (k n : Int) (s : Str) (y0 : Nd) : nestN (.mk k n s [y0]) = 1 + nestN y0 := by rw [nestN_eq]; simp [Nd.kids]
theorem nest2 (k n : Int) (s : Str) (y0 y1 : Nd) : nestN (.mk k n s [y0, y1]) = 1 + max (nestN y0) (nestN y1) := by rw [nestN_eq]; simp [Nd.kids]
theorem nest3 (k n : Int) (s : Str) (y0 y1 y2 : Nd) : nestN (.mk k n s [y0, y1, y2]) = 1 + max (max (nestN y0) (nestN y1)) (nestN y2) := by rw [nestN_eq]; simp [Nd.kids]
theorem ty0 {k n τ : Int} {s : Str} (h : leafN k n s = τ) : typeT (.mk k n s []) = τ := by rw [typeT_eq]; exact h
theorem ty1 {k τ a : Int} {s : Str} {y0 : Nd} (h0 : typeT y0 = a) (h : combT k 0 s [a] = τ) : typeT (.mk k 0 s [y0]) = τ := by rw [typeT_eq]; simp only [Nd.kind, Nd.num, Nd.word, Nd.kids, List.map_cons, List.map_nil, h0]; exact h
theorem ty2 {k τ a b : Int} {s : Str} {y0 y1 : Nd} (h0 : typeT y0 = a) (h1 : typeT y1 = b) (h : combT k 0 s [a, b] = τ) : typeT (.mk k 0 s [y0, y1]) = τ := by rw [typeT_eq]; simp only [Nd.kind, Nd.num, Nd.word, Nd.kids, List.map_cons, List.map_nil, h0, h1]; exact h
theorem ty3 {k τ a b c : Int} {s : Str} {y0 y1 y2 : Nd} (h0 : typeT y0 = a) (h1 : typeT y1 = b) (h2 : typeT y2 = c) (h : combT k 0 s [a, b, c] = τ) : typeT (.mk k 0 s [y0, y1, y2]) = τ := by rw [typeT_eq]; simp only [Nd.kind, Nd.num, Nd.word, Nd.kids, List.map_cons, List.map_nil, h0, h1, h2]; exact h
end Go.Proofs.YtgpibcgebpgmiaaGreatDoor
namespace Go.Eng
open Go Go.RowKit Go.Proofs
section
variable {P : Program} {n : Nat} {Q : Exit → Act → World → Prop} {e : Env} {w : World} {ops : Array Oper} {S : List Nat} {Lt : List Nat} {rest : List (Nat × Nat)}
theorem WDq_pcall {i d : Nat} {ty : TypeId} {pos : String} {af : Array Edge} {gd : Option (Nat × Bool)} {f : Nat} {fn : Func} {xs : Array Operand} {ts : Array TypeId} {vs : Array Value} {c : Operand} {ch : List PanicEntry} {F : World → Prop} [hf : Fun P f fn]
 (hi : ops[i]? = some ⟨some d, .call { callee := .value c, args := xs, argTypes := ts }, ty, pos, af, gd⟩) (hg : gdOk ops e gd)
 (hc : ev e c = some (.func (.func f) #[] #[])) (hv : ∀ a, Has n e a → xs.map a.eval = vs) (h : Calls P f vs w (fun e w' => e = .panicked ch ∧ F w')) (hdn : Nat.blt d n = true) (k : ∀ w', F w' → WQ n Q (.panic ch) [] w') : WDq P n ops S Lt Q ((i, 2) :: rest) e w :=
 WDq_effP (G := fun _ _ => False) (F := fun ch' w' => ch' = ch ∧ F w') hi hg (OEP_call hc hv (h.mono fun e w' ⟨h1, h2⟩ => by rw [h1]; exact .pan ⟨rfl, h2⟩)) (fun _ _ h => h.elim) hdn (fun ch' w' ⟨h1, h2⟩ => by subst h1; exact k w' h2) (fun _ _ h => h.elim)
end
end Go.Eng
namespace Go.Proofs.YtgpibcgebpgmiaaGreatDoor
open Go Go.Eng Go.RowKit Go.Proofs
def ExprC (f : Nat) : Prop := ∀ (l : List Tkn) (hL : Toks l) (m : Int) (c : Eng.Call) (i o : Nat) (r : Out Nd), exprO l f c i o = some r →
 ∀ (X : List Nat) (b : Nat) (tv : Value) (w : World), b ≠ 1 → b ∈ X → (∀ c ∈ X, c < w.heap.size) → w.cell? ⟨1, 0, none⟩ = some (.int .i64 m) → Pd w b tv l i o →
 match c with
 | .expr k => 1 ≤ k → k ≤ 8 → Calls Tryz.prog 119 #[.pointer (some ⟨b, 0, none⟩), .int .i64 (k : Int)] w (PC b w tv l r (fun x v w' => NdV X w' v x))
 | .prim => Calls Tryz.prog 162 #[.pointer (some ⟨b, 0, none⟩)] w (PC b w tv l r (fun x v w' => NdV X w' v x))
 | .loop _ _ => True
theorem buildU (s : Str) (p : Option Addr) (l c : Nat) (w : World) : (Instr.build 36 #[(0, .int .i64 5), (2, str s), (3, .slice p l c)]).run Tryz.prog w = .ok (.agg #[.int .i64 5, .int .i64 0, str s, .slice p l c]) w := by kernel_rfl
theorem buildB (s : Str) (p : Option Addr) (l c : Nat) (w : World) : (Instr.build 36 #[(0, .int .i64 6), (2, str s), (3, .slice p l c)]).run Tryz.prog w = .ok (.agg #[.int .i64 6, .int .i64 0, str s, .slice p l c]) w := by kernel_rfl
theorem exprU (f : Nat) (IH : ExprC f) (l : List Tkn) (hL : Toks l) (m : Int) (k i o : Nat) (r : Out Nd) (hk : k ≤ 8) (hsp : (k = 3 ∧ (cur l i).text = [110, 111, 116]) ∨ (k = 7 ∧ (cur l i).text = [45]))
 (h : (match opensO l (cur l i).text i o with
   | .err a c => some (.err a c)
   | .ok _ i' o' =>
     match exprO l f (.expr k) i' o' with
     | none => none
     | some (.err a c) => some (.err a c)
     | some (.ok x i'' o'') => some (.ok (.mk 5 0 (cur l i).text [x]) i'' (o'' - 1))) = some r) (X : List Nat) (b : Nat) (tv : Value) (w : World) (hb1 : b ≠ 1) (hbX : b ∈ X) (hX : ∀ c ∈ X, c < w.heap.size) (hm : w.cell? ⟨1, 0, none⟩ = some (.int .i64 m)) (hp : Pd w b tv l i o) :
 Calls Tryz.prog 119 #[.pointer (some ⟨b, 0, none⟩), .int .i64 (k : Int)] w (PC b w tv l r (fun x v w' => NdV X w' v x)) := by
 have htn : (cur l i).text ≠ [] := by rcases hsp with ⟨_, h⟩ | ⟨_, h⟩ <;> rw [h] <;> decide
 have hs0 := hp.2.1
 refine calls_of_WC2 (n := 98) Tryz.func119 rfl rfl rfl ?_
 refine W ?_
 refine WL_eff OE_alloc rfl ?_
 rintro _ w1 ⟨b4, rfl, hb4, e4, hS⟩
 have n4 : b4 ≠ b := by have := hp.lt; omega
 replace hm := hS.cell (by simp) hm
 replace hp := hp.up hS
 rcases hsp with ⟨rfl, ht⟩ | ⟨rfl, ht⟩
 · refine W ?_
   refine CL rfl (evs1 rfl) rfl (next_any b tv l i o _ hp) ?_
   rintro _ w2 ⟨rfl, hT⟩
   replace hp := hp.up hT; replace e4 := e4.up hT
   replace hm := hT.cell (by simp) hm
   replace hS := hS.trans hT
   clear hT
   repeat' (first | refine W1 ?_ | (exfalso; omega) | (refine VG ?_ ?_ <;> intro hg) | (refine VC ?_ ?_ <;> intro hc))
   all_goals try exact absurd ht (by assumption)
   refine CL rfl (evs1 rfl) rfl (next_any b tv l i o _ hp) ?_
   rintro _ w3 ⟨rfl, hT⟩
   replace hp := hp.up hT; replace e4 := e4.up hT
   replace hm := hT.cell (by simp) hm
   replace hS := hS.trans hT
   clear hT
   refine W ?_
   cases hO : opensO l (cur l i).text i o with
   | err a c =>
     rw [hO] at h
     simp only [Option.some.injEq] at h
     subst h
     refine WL_pcall rfl (evs2 rfl rfl) (PC.falls (opens_any b tv l hL _ htn i o _ hp) hO (hS.mono (by simp))) rfl ?_
     intro w4 hw4
     repeat' (first | refine WQ_then_panic ?_ | refine WQ_block_panic ?_)
     refine WQ_panic ?_
     exact PC.err hw4
   | ok u i1 o1 =>
     have hoo := opensO_open hO
     rw [hO] at h
     simp only at h
     refine CL rfl (evs2 rfl rfl) rfl (PC.goes (opens_any b tv l hL _ htn i o _ hp) hO) ?_
     rintro _ w4 ⟨rfl, hp4, hT⟩
     replace e4 := e4.ext hT (by simpa using n4)
     replace hm := cell_up hm hb1 hT
     have hS4 := (hS.mono (S' := [b]) (by simp)).trans hT
     clear hT hS hp
     have l4 := e4.lt
     have hX4 : ∀ c ∈ b4 :: X, c < w4.heap.size := fun c hc => by
      rcases List.mem_cons.1 hc with rfl | h
      · exact l4
      · exact Nat.lt_of_lt_of_le (hX c h) hS4.size
     refine W ?_
     cases hE : exprO l f (.expr 3) i1 o1 with
     | none => rw [hE] at h; simp at h
     | some r1 =>
       rw [hE] at h
       have hsub := IH l hL m (.expr 3) i1 o1 r1 hE (b4 :: X) b tv w4 hb1 (List.mem_cons_of_mem _ hbX) hX4 hm hp4 (by omega) (by omega)
       cases r1 with
       | err a c =>
         simp only [Option.some.injEq] at h
         subst h
         refine WL_pcall rfl (evs2 rfl rfl) (PC.falls hsub rfl hS4) rfl ?_
         intro w5 hw5
         repeat' (first | refine WQ_then_panic ?_ | refine WQ_block_panic ?_)
         refine WQ_panic ?_
         exact PC.err hw5
       | ok x i2 o2 =>
         have hoe := exprO_open l _ _ _ _ _ _ _ hE
         simp only [Option.some.injEq] at h
         subst h
         refine CL rfl (evs2 rfl rfl) rfl (PC.goes hsub rfl) ?_
         rintro _ w5 ⟨⟨kx, rfl, hx⟩, hp5, hT⟩
         replace e4 := e4.ext hT (by simpa using n4)
         have hX5 : ∀ c ∈ b4 :: X, c < w5.heap.size := fun c hc => Nat.lt_of_lt_of_le (hX4 c hc) hT.size
         have hS5 := hS4.trans hT
         clear hT hS4 hp4 hX4 hsub
         obtain ⟨p0, c0, rfl, -⟩ := id hx
         refine W ?_
         refine WL_eff (OE_buildSlice (vs := [(0, .agg (ndC x (.slice p0 x.kids.length c0)).toArray)]) rfl (buildSN1 _ _ _ _ _ _)) rfl ?_
         intro bv w6 hN
         have hbv : SlV (b4 :: X) w6 bv [x] := hN.slvG (css := [ndC x _]) hX5 rfl rfl rfl (reps1 hx) (by simp [maxLen])
         obtain ⟨bn, rfl, hbn, -, hT⟩ := id hN
         replace e4 := e4.up hT; replace hp5 := hp5.up hT
         have hX6 : ∀ c ∈ b4 :: X, c < w6.heap.size := fun c hc => Nat.lt_of_lt_of_le (hX5 c hc) hT.size
         have hS6 := hS5.trans (hT.mono (by simp))
         clear hT hS5 hX5 hN hx
         apply WL_build (vs := [(0, .int .i64 5), (2, str (cur l i).text), (3, .slice (some ⟨bn, 0, none⟩) 1 1)]) rfl (buildU _ _ _ _) rfl
         refine WL_eff OE_alloc rfl ?_
         rintro _ w7 ⟨b6, rfl, hb6, e6, hT⟩
         have n64 : b6 ≠ b4 := by have := e4.lt; omega
         have n6b : b6 ≠ b := by have := hp5.lt; omega
         refine WL_eff0 (OE_storeA (us := ndC (.mk 5 0 (cur l i).text [x]) (.slice (some ⟨bn, 0, none⟩) 1 1)) rfl rfl rfl rfl (ndC_one hbv) e6 rfl) ?_
         rintro _ w8 ⟨hT2, e6'⟩
         replace hT := hT.own hT2 (fun c hc => .inr (by simp at hc; omega))
         clear hT2 e6
         replace e4 := e4.up hT; replace hp5 := hp5.up hT
         have hS8 := hS6.trans (hT.mono (by simp))
         replace hbv : SlV (b6 :: b4 :: X) w8 (.slice (some ⟨bn, 0, none⟩) 1 1) [x] := hbv.ext hT (by simp) (fun c hc => by
          rcases List.mem_cons.1 hc with rfl | h
          · exact .inr hb6
          · exact .inl h)
         have hb4w : w.heap.size ≤ b4 := hb4
         clear hT hS6 hX6
         obtain ⟨hpb, hps, hpi, hpl, hpo⟩ := id hp5
         refine W ?_
         refine WL_eff0 (OE_store1 (u := .int .i64 ((o2 - 1 : Nat) : Int)) rfl (by show some _ = some _; simp; omega) rfl rfl hpb (by simp)) ?_
         rintro _ w9 ⟨hT, hpb9⟩
         replace hps := hps.ext (X' := [b]) hT (fun c hc => hc) (fun c hc => .inl hc)
         replace e4 := e4.ext hT (by simpa using n4)
         replace e6' := e6'.ext hT (by simpa using n6b)
         replace hbv := hbv.ext (X' := b6 :: b4 :: X) hT (fun c hc => by simp at hc; subst hc; simp [hbX]) (fun c hc => .inl hc)
         have hS9 := hS8.trans hT
         clear hT hS8 hpb hp5
         refine W ?_
         refine WL_eff0 (OE_storeA (us := ndC (.mk 5 0 (cur l i).text [x]) (.slice (some ⟨bn, 0, none⟩) 1 1)) rfl rfl rfl rfl (ndC_one hbv) e4 rfl) ?_
         rintro _ w10 ⟨hT, e4'⟩
         refine W ?_
         refine WQ_retc rfl rfl rfl e4' rfl ?_
         have hl4 := hpb9.lt
         have hSx := hS9.own hT (fun c hc => by simp at hc; subst hc; exact .inr hb4w)
         refine PC.ok ⟨_, rfl, ?_⟩ ⟨hpb9.ext hT (by simpa using n4.symm), hs0.ext hSx (fun c hc => hc) (fun c hc => .inl hc), hpi, hpl, by omega⟩ hSx
         exact (hbv.ext (X' := b6 :: b4 :: X) hT (fun c hc => by simp at hc; simp [hc]) (fun c hc => .inl hc)).wk (fun c hc => by simp [hc])
 · refine W ?_
   refine CL rfl (evs1 rfl) rfl (next_any b tv l i o _ hp) ?_
   rintro _ w2 ⟨rfl, hT⟩
   replace hp := hp.up hT; replace e4 := e4.up hT
   replace hm := hT.cell (by simp) hm
   replace hS := hS.trans hT
   clear hT
   repeat' (first | refine W1 ?_ | (exfalso; omega) | (refine VG ?_ ?_ <;> intro hg) | (refine VC ?_ ?_ <;> intro hc))
   all_goals try exact absurd ht (by assumption)
   refine CL rfl (evs1 rfl) rfl (next_any b tv l i o _ hp) ?_
   rintro _ w3 ⟨rfl, hT⟩
   replace hp := hp.up hT; replace e4 := e4.up hT
   replace hm := hT.cell (by simp) hm
   replace hS := hS.trans hT
   clear hT
   refine W ?_
   cases hO : opensO l (cur l i).text i o with
   | err a c =>
     rw [hO] at h
     simp only [Option.some.injEq] at h
     subst h
     refine WL_pcall rfl (evs2 rfl rfl) (PC.falls (opens_any b tv l hL _ htn i o _ hp) hO (hS.mono (by simp))) rfl ?_
     intro w4 hw4
     repeat' (first | refine WQ_then_panic ?_ | refine WQ_block_panic ?_)
     refine WQ_panic ?_
     exact PC.err hw4
   | ok u i1 o1 =>
     have hoo := opensO_open hO
     rw [hO] at h
     simp only at h
     refine CL rfl (evs2 rfl rfl) rfl (PC.goes (opens_any b tv l hL _ htn i o _ hp) hO) ?_
     rintro _ w4 ⟨rfl, hp4, hT⟩
     replace e4 := e4.ext hT (by simpa using n4)
     replace hm := cell_up hm hb1 hT
     have hS4 := (hS.mono (S' := [b]) (by simp)).trans hT
     clear hT hS hp
     have l4 := e4.lt
     have hX4 : ∀ c ∈ b4 :: X, c < w4.heap.size := fun c hc => by
      rcases List.mem_cons.1 hc with rfl | h
      · exact l4
      · exact Nat.lt_of_lt_of_le (hX c h) hS4.size
     refine W ?_
     cases hE : exprO l f (.expr 7) i1 o1 with
     | none => rw [hE] at h; simp at h
     | some r1 =>
       rw [hE] at h
       have hsub := IH l hL m (.expr 7) i1 o1 r1 hE (b4 :: X) b tv w4 hb1 (List.mem_cons_of_mem _ hbX) hX4 hm hp4 (by omega) (by omega)
       cases r1 with
       | err a c =>
         simp only [Option.some.injEq] at h
         subst h
         refine WL_pcall rfl (evs2 rfl rfl) (PC.falls hsub rfl hS4) rfl ?_
         intro w5 hw5
         repeat' (first | refine WQ_then_panic ?_ | refine WQ_block_panic ?_)
         refine WQ_panic ?_
         exact PC.err hw5
       | ok x i2 o2 =>
         have hoe := exprO_open l _ _ _ _ _ _ _ hE
         simp only [Option.some.injEq] at h
         subst h
         refine CL rfl (evs2 rfl rfl) rfl (PC.goes hsub rfl) ?_
         rintro _ w5 ⟨⟨kx, rfl, hx⟩, hp5, hT⟩
         replace e4 := e4.ext hT (by simpa using n4)
         have hX5 : ∀ c ∈ b4 :: X, c < w5.heap.size := fun c hc => Nat.lt_of_lt_of_le (hX4 c hc) hT.size
         have hS5 := hS4.trans hT
         clear hT hS4 hp4 hX4 hsub
         obtain ⟨p0, c0, rfl, -⟩ := id hx
         refine W ?_
         refine WL_eff (OE_buildSlice (vs := [(0, .agg (ndC x (.slice p0 x.kids.length c0)).toArray)]) rfl (buildSN1 _ _ _ _ _ _)) rfl ?_
         intro bv w6 hN
         have hbv : SlV (b4 :: X) w6 bv [x] := hN.slvG (css := [ndC x _]) hX5 rfl rfl rfl (reps1 hx) (by simp [maxLen])
         obtain ⟨bn, rfl, hbn, -, hT⟩ := id hN
         replace e4 := e4.up hT; replace hp5 := hp5.up hT
         have hX6 : ∀ c ∈ b4 :: X, c < w6.heap.size := fun c hc => Nat.lt_of_lt_of_le (hX5 c hc) hT.size
         have hS6 := hS5.trans (hT.mono (by simp))
         clear hT hS5 hX5 hN hx
         apply WL_build (vs := [(0, .int .i64 5), (2, str (cur l i).text), (3, .slice (some ⟨bn, 0, none⟩) 1 1)]) rfl (buildU _ _ _ _) rfl
         refine WL_eff OE_alloc rfl ?_
         rintro _ w7 ⟨b6, rfl, hb6, e6, hT⟩
         have n64 : b6 ≠ b4 := by have := e4.lt; omega
         have n6b : b6 ≠ b := by have := hp5.lt; omega
         refine WL_eff0 (OE_storeA (us := ndC (.mk 5 0 (cur l i).text [x]) (.slice (some ⟨bn, 0, none⟩) 1 1)) rfl rfl rfl rfl (ndC_one hbv) e6 rfl) ?_
         rintro _ w8 ⟨hT2, e6'⟩
         replace hT := hT.own hT2 (fun c hc => .inr (by simp at hc; omega))
         clear hT2 e6
         replace e4 := e4.up hT; replace hp5 := hp5.up hT
         have hS8 := hS6.trans (hT.mono (by simp))
         replace hbv : SlV (b6 :: b4 :: X) w8 (.slice (some ⟨bn, 0, none⟩) 1 1) [x] := hbv.ext hT (by simp) (fun c hc => by
          rcases List.mem_cons.1 hc with rfl | h
          · exact .inr hb6
          · exact .inl h)
         have hb4w : w.heap.size ≤ b4 := hb4
         clear hT hS6 hX6
         obtain ⟨hpb, hps, hpi, hpl, hpo⟩ := id hp5
         refine W ?_
         refine WL_eff0 (OE_store1 (u := .int .i64 ((o2 - 1 : Nat) : Int)) rfl (by show some _ = some _; simp; omega) rfl rfl hpb (by simp)) ?_
         rintro _ w9 ⟨hT, hpb9⟩
         replace hps := hps.ext (X' := [b]) hT (fun c hc => hc) (fun c hc => .inl hc)
         replace e4 := e4.ext hT (by simpa using n4)
         replace e6' := e6'.ext hT (by simpa using n6b)
         replace hbv := hbv.ext (X' := b6 :: b4 :: X) hT (fun c hc => by simp at hc; subst hc; simp [hbX]) (fun c hc => .inl hc)
         have hS9 := hS8.trans hT
         clear hT hS8 hpb hp5
         refine W ?_
         refine WL_eff0 (OE_storeA (us := ndC (.mk 5 0 (cur l i).text [x]) (.slice (some ⟨bn, 0, none⟩) 1 1)) rfl rfl rfl rfl (ndC_one hbv) e4 rfl) ?_
         rintro _ w10 ⟨hT, e4'⟩
         refine W ?_
         refine WQ_retc rfl rfl rfl e4' rfl ?_
         have hl4 := hpb9.lt
         have hSx := hS9.own hT (fun c hc => by simp at hc; subst hc; exact .inr hb4w)
         refine PC.ok ⟨_, rfl, ?_⟩ ⟨hpb9.ext hT (by simpa using n4.symm), hs0.ext hSx (fun c hc => hc) (fun c hc => .inl hc), hpi, hpl, by omega⟩ hSx
         exact (hbv.ext (X' := b6 :: b4 :: X) hT (fun c hc => by simp at hc; simp [hc]) (fun c hc => .inl hc)).wk (fun c hc => by simp [hc])
theorem unitW_nil : ([] : Str) ∉ unitW := by decide
theorem unitC_len : unitC.length ≤ 1000000 := by decide
theorem within_unit (t : Str) (m : Int) (w : World) (hm : w.cell? ⟨1, 0, none⟩ = some (.int .i64 m)) (htl : t.length ≤ 4000) (hsp : ∀ c ∈ t, c ≠ 32) :
 Calls Tryz.prog 118 #[str unitC, str t] w (Ret fun r w' => r = .bool (decide (t ∈ unitW)) ∧ Stp [] w w') :=
 within_any unitC unitW unitW_nil t m w hm unitC_len htl (fun h => unit_iff h hsp)
set_option maxHeartbeats 2000000 in
theorem exprB (f : Nat) (IH : ∀ f' ≤ f, ExprC f') (l : List Tkn) (hL : Toks l) (m : Int) (k i o : Nat) (r : Out Nd) (hk1 : 1 ≤ k) (hk : k ≤ 7) (hsp : ¬ ((k = 3 ∧ (cur l i).text = [110, 111, 116]) ∨ (k = 7 ∧ (cur l i).text = [45])))
 (h : (match exprO l f (.expr (k + 1)) i o with
   | none => none
   | some (.err a c) => some (.err a c)
   | some (.ok x i' o') => exprO l f (.loop k x) i' o') = some r) (X : List Nat) (b : Nat) (tv : Value) (w : World) (hb1 : b ≠ 1) (hbX : b ∈ X) (hX : ∀ c ∈ X, c < w.heap.size) (hm : w.cell? ⟨1, 0, none⟩ = some (.int .i64 m)) (hp : Pd w b tv l i o) :
 Calls Tryz.prog 119 #[.pointer (some ⟨b, 0, none⟩), .int .i64 (k : Int)] w (PC b w tv l r (fun x v w' => NdV X w' v x)) := by
 have hs0 := hp.2.1
 refine calls_of_WC2 (n := 98) Tryz.func119 rfl rfl rfl ?_
 refine W ?_
 refine WL_eff OE_alloc rfl ?_
 rintro _ w1 ⟨b4, rfl, hb4, e4, hS⟩
 have n4 : b4 ≠ b := by have := hp.lt; omega
 replace hm := hS.cell (by simp) hm
 replace hp := hp.up hS
 have hX1 : ∀ c ∈ X, c < w1.heap.size := fun c hc => Nat.lt_of_lt_of_le (hX c hc) hS.size
 refine WL_nil ?_
 refine WQ_then ?_
 refine WC_cut (σ := Unit) (fun _ => [(0, .pointer (some ⟨b, 0, none⟩)), (1, .int .i64 (k : Int)), (4, .pointer (some ⟨b4, 0, none⟩))])
  (fun _ w' => Pd w' b tv l i o ∧ (∃ cs : List Value, cs.length = 4 ∧ Blk w' b4 36 cs) ∧ w'.cell? ⟨1, 0, none⟩ = some (.int .i64 m) ∧ Stp [] w w') ?_ ?_
 · by_cases k3 : k = 3
   · subst k3
     have ht : ¬ (cur l i).text = [110, 111, 116] := fun e => hsp (.inl ⟨rfl, e⟩)
     refine W ?_
     refine CL rfl (evs1 rfl) rfl (next_any b tv l i o _ hp) ?_
     rintro _ w2 ⟨rfl, hT⟩
     replace hp := hp.up hT; replace e4 := e4.up hT
     replace hm := hT.cell (by simp) hm
     replace hS := hS.trans hT
     repeat' (first | refine W1 ?_ | (exfalso; omega) | (refine VG ?_ ?_ <;> intro hg) | (refine VC ?_ ?_ <;> intro hc))
     all_goals try exact absurd (by assumption) ht
     exact WQ_cut () ⟨rfl, rfl, rfl, trivial⟩ ⟨hp, ⟨_, rfl, e4⟩, hm, hS⟩
   · by_cases k7 : k = 7
     · subst k7
       have ht : ¬ (cur l i).text = [45] := fun e => hsp (.inr ⟨rfl, e⟩)
       refine W ?_
       refine CL rfl (evs1 rfl) rfl (next_any b tv l i o _ hp) ?_
       rintro _ w2 ⟨rfl, hT⟩
       replace hp := hp.up hT; replace e4 := e4.up hT
       replace hm := hT.cell (by simp) hm
       replace hS := hS.trans hT
       repeat' (first | refine W1 ?_ | (exfalso; omega) | (refine VG ?_ ?_ <;> intro hg) | (refine VC ?_ ?_ <;> intro hc))
       all_goals try exact absurd (by assumption) ht
       exact WQ_cut () ⟨rfl, rfl, rfl, trivial⟩ ⟨hp, ⟨_, rfl, e4⟩, hm, hS⟩
     · repeat' (first | refine W1 ?_ | (exfalso; omega) | (refine VG ?_ ?_ <;> intro hg) | (refine VC ?_ ?_ <;> intro hc))
       exact WQ_cut () ⟨rfl, rfl, rfl, trivial⟩ ⟨hp, ⟨_, rfl, e4⟩, hm, hS⟩
 clear hp e4 hm hS
 rintro _ w2 ⟨hp, ⟨cs4, hc4, e4⟩, hm, hS⟩
 have l4 := e4.lt
 have hX2 : ∀ c ∈ b4 :: X, c < w2.heap.size := fun c hc => by
  rcases List.mem_cons.1 hc with rfl | h
  · exact l4
  · exact Nat.lt_of_lt_of_le (hX c h) hS.size
 refine W ?_
 cases hE : exprO l f (.expr (k + 1)) i o with
 | none => rw [hE] at h; simp at h
 | some r1 =>
   rw [hE] at h
   have hsub := IH f (Nat.le_refl _) l hL m (.expr (k + 1)) i o r1 hE (b4 :: X) b tv w2 hb1 (List.mem_cons_of_mem _ hbX) hX2 hm hp (by omega) (by omega)
   cases r1 with
   | err a c =>
     simp only [Option.some.injEq] at h
     subst h
     refine WL_pcall rfl (evs2 rfl rfl) (PC.falls hsub rfl (hS.mono (by simp))) rfl ?_
     intro w3 hw3
     repeat' (first | refine WQ_then_panic ?_ | refine WQ_block_panic ?_)
     refine WQ_panic ?_
     exact PC.err hw3
   | ok x i1 o1 =>
     simp only at h
     refine CL rfl (evs2 rfl rfl) rfl (PC.goes hsub rfl) ?_
     rintro _ w3 ⟨⟨kx, rfl, hx⟩, hp3, hT⟩
     replace e4 := e4.ext hT (by simpa using n4)
     replace hm := cell_up hm hb1 hT
     have hX3 : ∀ c ∈ b4 :: X, c < w3.heap.size := fun c hc => Nat.lt_of_lt_of_le (hX2 c hc) hT.size
     have hS3 := (hS.mono (S' := [b]) (by simp)).trans hT
     clear hT hS hp hX2 hsub
     refine WL_eff OE_alloc rfl ?_
     rintro _ w4 ⟨b7, rfl, hb7, e7, hT⟩
     have n74 : b7 ≠ b4 := by have := e4.lt; omega
     have n7b : b7 ≠ b := by have := hp3.lt; omega
     have n71 : b7 ≠ 1 := by have := block_lt_of_cell hm; simp at this; omega
     refine WL_eff0 (OE_storeA (us := ndC x kx) rfl rfl rfl rfl (ndC_one hx) e7 rfl) ?_
     rintro _ w5 ⟨hT2, e7'⟩
     replace hT := hT.own hT2 (fun c hc => .inr (by simp at hc; omega))
     clear hT2 e7
     have hb7w : w.heap.size ≤ b7 := Nat.le_trans hS3.size hb7
     have hb4w : w.heap.size ≤ b4 := hb4
     replace e4 := e4.up hT; replace hp3 := hp3.up hT
     replace hm := hT.cell (by simp) hm
     replace hx : SlV (b7 :: b4 :: X) w5 kx x.kids := hx.ext hT (by simp) (fun c hc => by
      rcases List.mem_cons.1 hc with rfl | h
      · exact .inr hb7
      · exact .inl h)
     have hS5 := hS3.trans (hT.mono (by simp))
     clear hT hS3
     have l7 := e7'.lt
     have hX5 : ∀ c ∈ b7 :: b4 :: X, c < w5.heap.size := fun c hc => by
      rcases List.mem_cons.1 hc with rfl | h
      · exact l7
      · have := hX3 c h; omega
     refine W ?_
     clear hX3 hE
     refine WC_loop (σ := Nat × Nd × Value × Nat × Nat) (fun q => [(0, .pointer (some ⟨b, 0, none⟩)), (1, .int .i64 (k : Int)), (4, .pointer (some ⟨b4, 0, none⟩)), (7, .pointer (some ⟨b7, 0, none⟩))])
      (fun q w' => exprO l q.1 (.loop k q.2.1) q.2.2.2.1 q.2.2.2.2 = some r ∧ q.1 ≤ f ∧ Pd w' b tv l q.2.2.2.1 q.2.2.2.2 ∧ Blk w' b7 36 (ndC q.2.1 q.2.2.1) ∧ SlV (b7 :: b4 :: X) w' q.2.2.1 q.2.1.kids ∧ (∃ cs : List Value, cs.length = 4 ∧ Blk w' b4 36 cs) ∧ w'.cell? ⟨1, 0, none⟩ = some (.int .i64 m) ∧ Stp [b] w w' ∧ w5.heap.size ≤ w'.heap.size)
      (fun q => q.1) (f, x, kx, i1, o1) ⟨rfl, rfl, rfl, rfl, trivial⟩ ⟨h, Nat.le_refl _, hp3, e7', hx, ⟨cs4, hc4, e4⟩, hm, hS5, Nat.le_refl _⟩ ?_
     clear h hp3 e7' hx e4 hm hS5 l4 l7 hc4 cs4
     rintro ⟨f1, y, ky, i2, o2⟩ w6 ⟨h, hf1, hp, e7, hy, ⟨cs4, hc4, e4⟩, hm, hS, h56⟩
     dsimp only at h hf1 hp e7 hy ⊢
     match cs4, hc4 with
     | [q0, q1, q2, q3], _ =>
     cases f1 with
     | zero => simp [exprO] at h
     | succ f1 =>
     rw [exprO] at h
     refine W ?_
     refine CL rfl (evs1 rfl) rfl (next_any b tv l i2 o2 _ hp) ?_
     rintro _ w7 ⟨rfl, hT⟩
     replace hp := hp.up hT; replace e4 := e4.up hT; replace e7 := e7.up hT; replace hy := hy.up hT
     replace hm := hT.cell (by simp) hm
     replace hS := hS.trans (hT.mono (by simp))
     replace h56 := Nat.le_trans h56 hT.size
     clear hT
     refine W ?_
     refine CL rfl (evs1 rfl) rfl (levelOf_any _ _) ?_
     rintro _ _ ⟨rfl, rfl⟩
     by_cases hlv : levelO (cur l i2).text = k
     · rw [if_pos hlv] at h
       have hi1 := hL.end_of hp.i_lt (levelO_nil hlv hk1)
       repeat' (first | refine W1 ?_ | (exfalso; omega) | (refine VG ?_ ?_ <;> intro hg) | (refine VC ?_ ?_ <;> intro hc))
       refine CL rfl (evs1 rfl) rfl (next_any b tv l i2 o2 _ hp) ?_
       rintro _ w8 ⟨rfl, hT⟩
       replace hp := hp.up hT; replace e4 := e4.up hT; replace e7 := e7.up hT; replace hy := hy.up hT
       replace hm := hT.cell (by simp) hm
       replace hS := hS.trans (hT.mono (by simp))
       replace h56 := Nat.le_trans h56 hT.size
       clear hT
       obtain ⟨hpb, hps, hpi, hpl, hpo⟩ := id hp
       refine W ?_
       refine WL_eff0 (OE_store1 (u := .int .i64 ((i2 + 1 : Nat) : Int)) rfl (by show some _ = some _; simp) rfl rfl hpb (by simp)) ?_
       rintro _ w9 ⟨hT, hpb9⟩
       replace hps := hps.ext (X' := [b]) hT (fun c hc => hc) (fun c hc => .inl hc)
       replace e4 := e4.ext hT (by simpa using n4)
       replace e7 := e7.ext hT (by simpa using n7b)
       replace hy := hy.ext (X' := b7 :: b4 :: X) hT (fun c hc => by simp at hc; subst hc; simp [hbX]) (fun c hc => .inl hc)
       replace hm := cell_up hm hb1 hT
       replace hS := hS.trans hT
       replace h56 := Nat.le_trans h56 hT.size
       replace hp : Pd w9 b tv l (i2 + 1) o2 := ⟨hpb9, hps, hi1, hpl, hpo⟩
       clear hT hpb9 hps hpi hpl hpo hpb
       refine W ?_
       have hX9 : ∀ c ∈ b7 :: b4 :: X, c < w9.heap.size := fun c hc => Nat.lt_of_lt_of_le (hX5 c hc) h56
       cases hE : exprO l f1 (.expr (k + 1)) (i2 + 1) o2 with
       | none => rw [hE] at h; simp at h
       | some r2 =>
         rw [hE] at h
         cases r2 with
         | err a c =>
           simp only [Option.some.injEq] at h
           subst h
           refine WC_drawnq 9 ([b]) [8] [(0, 0), (1, 1), (2, 0), (3, 0), (4, 0), (5, 2), (6, 2), (7, 0), (8, 2)] rfl mixed (by kernel_rfl) (by kernel_rfl) (by kernel_rfl) (fun w1 hS1 => ?_)
           replace hp := hp.up hS1; replace e7 := e7.up hS1
           replace hm := hS1.cell (by simp) hm
           replace hS := hS.trans (hS1.mono (by simp))
           have hsub := IH f1 (by omega) l hL m (.expr (k + 1)) (i2 + 1) o2 _ hE (b7 :: b4 :: X) b tv w1 hb1 (by simp [hbX]) (fun c hc => Nat.lt_of_lt_of_le (hX9 c hc) hS1.size) hm hp (by omega) (by omega)
           refine WDq_free rfl trivial (fun _ => PR_move rfl) rfl ?_
           refine WDq_read rfl trivial (fun w' hw => PR_load_blkA rfl rfl (e7.ext hw (by simpa using n7b)) rfl) rfl ?_
           refine WDq_free rfl trivial (fun _ => PR_move rfl) rfl ?_
           refine WDq_free rfl trivial (fun _ => PR_move rfl) rfl ?_
           refine WDq_free rfl trivial (fun _ => PR_add rfl rfl (by unfold I64; omega)) rfl ?_
           refine WDq_pcall rfl trivial rfl (evs2 rfl rfl) (PC.falls hsub rfl hS) rfl ?_
           intro wz hwz
           repeat' (first | refine WQ_then_panic ?_ | refine WQ_block_panic ?_)
           refine WQ_panic ?_
           exact PC.err hwz
         | ok z i3 o3 =>
           simp only at h
           refine WC_drawn 9 ([b]) [8] [(0, 0), (1, 1), (2, 0), (3, 0), (4, 0), (5, 2), (6, 2), (7, 0), (8, 2)] rfl mixed (by kernel_rfl) (by kernel_rfl) (by kernel_rfl) (fun w1 hS1 => ?_)
           replace hp := hp.up hS1; replace e7 := e7.up hS1; replace hy := hy.up hS1; replace e4 := e4.up hS1
           replace hm := hS1.cell (by simp) hm
           replace hS := hS.trans (hS1.mono (by simp))
           have h5x := Nat.le_trans h56 hS1.size
           have hX1 : ∀ c ∈ b7 :: b4 :: X, c < w1.heap.size := fun c hc => Nat.lt_of_lt_of_le (hX9 c hc) hS1.size
           have hsub := IH f1 (by omega) l hL m (.expr (k + 1)) (i2 + 1) o2 _ hE (b7 :: b4 :: X) b tv w1 hb1 (by simp [hbX]) hX1 hm hp (by omega) (by omega)
           clear hS1 hX9 h56
           refine D ?_
           refine WD_eff rfl trivial (OE_call rfl (evs2 rfl rfl) (PC.goes hsub rfl)) (fun _ _ h => h.2.2) rfl ?_
           rintro _ w10 ⟨⟨kz, rfl, hz⟩, hp10, hT⟩
           replace e4 := e4.ext hT (by simpa using n4)
           replace e7 := e7.ext hT (by simpa using n7b)
           replace hy := hy.ext (X' := b7 :: b4 :: X) hT (fun c hc => by simp at hc; subst hc; simp [hbX]) (fun c hc => .inl hc)
           replace hm := cell_up hm hb1 hT
           replace hS := hS.trans hT
           have h510 := Nat.le_trans h5x hT.size
           have hX10 : ∀ c ∈ b7 :: b4 :: X, c < w10.heap.size := fun c hc => Nat.lt_of_lt_of_le (hX1 c hc) hT.size
           clear hT hp hX1 h5x hsub
           obtain ⟨py, cy, rfl, -⟩ := id hy
           obtain ⟨pz, cz, rfl, -⟩ := id hz
           refine WD_eff rfl trivial (OE_buildSlice (vs := [(0, .agg (ndC y (.slice py y.kids.length cy)).toArray), (1, .agg (ndC z (.slice pz z.kids.length cz)).toArray)]) rfl (buildSN2 _ _ _ _ _ _ _ _ _ _ _ _)) (fun _ _ h => (NewSl.stp h).mono (by simp)) rfl ?_
           intro bv w11 hN
           have hbv : SlV (b7 :: b4 :: X) w11 bv [y, z] := hN.slvG (css := [ndC y _, ndC z _]) hX10 rfl rfl rfl (reps2 hy hz) (by simp [maxLen])
           obtain ⟨bn, rfl, hbn, -, hT⟩ := id hN
           replace hp10 := hp10.up hT; replace e4 := e4.up hT; replace e7 := e7.up hT
           replace hm := hT.cell (by simp) hm
           replace hS := hS.trans (hT.mono (by simp))
           have h511 := Nat.le_trans h510 hT.size
           clear hT hN hX10 h510 hy hz
           refine WF_build rfl trivial (vs := [(0, .int .i64 6), (2, str (cur l i2).text), (3, .slice (some ⟨bn, 0, none⟩) 2 2)]) rfl (buildB _ _ _ _) rfl ?_
           refine WD_late0 rfl trivial (OE_storeA (us := ndC (.mk 6 0 (cur l i2).text [y, z]) (.slice (some ⟨bn, 0, none⟩) 2 2)) rfl rfl rfl rfl (ndC_one hbv) e7 rfl) rfl ?_
           rintro _ w12 ⟨hT, e7'⟩
           have hb7x : ∀ S : List Nat, S = [b7] → ∀ c ∈ S, w.heap.size ≤ c := fun S hS c hc => by subst hS; simp at hc; subst hc; exact hb7w
           replace e4 := e4.ext hT (by simpa using n74.symm)
           replace hp10 : Pd w12 b tv l i3 o3 := by
            obtain ⟨g1, g2, g3, g4, g5⟩ := hp10
            have hSx := hS.own hT (fun c hc => .inr (hb7x _ rfl c hc))
            exact ⟨g1.ext hT (by simpa using n7b.symm), hs0.ext hSx (fun c hc => hc) (fun c hc => .inl hc), g3, g4, g5⟩
           replace hbv := hbv.ext (X' := b7 :: b4 :: X) hT (fun c hc => by simp at hc; simp [hc]) (fun c hc => .inl hc)
           replace hm := hT.cell (by simpa using n71.symm) hm
           replace hS := hS.own hT (fun c hc => .inr (hb7x _ rfl c hc))
           have h512 := Nat.le_trans h511 hT.size
           clear hT h511
           refine D ?_
           by_cases k5 : k = 5
           · subst k5
             refine W ?_
             refine CL rfl (evs1 rfl) rfl (next_any b tv l i3 o3 _ hp10) ?_
             rintro _ w13 ⟨rfl, hT⟩
             replace hp10 := hp10.up hT; replace e4 := e4.up hT; replace e7' := e7'.up hT; replace hbv := hbv.up hT
             replace hm := hT.cell (by simp) hm
             replace hS := hS.trans (hT.mono (by simp))
             replace h512 := Nat.le_trans h512 hT.size
             clear hT
             refine W ?_
             refine CL rfl (evs2 rfl rfl) rfl (within_unit (cur l i3).text m _ hm (hL.tl i3) (hL.sp i3)) ?_
             rintro _ w14 ⟨rfl, hT⟩
             replace hp10 := hp10.up hT; replace e4 := e4.up hT; replace e7' := e7'.up hT; replace hbv := hbv.up hT
             replace hm := hT.cell (by simp) hm
             replace hS := hS.trans (hT.mono (by simp))
             replace h512 := Nat.le_trans h512 hT.size
             clear hT
             by_cases hu : (cur l i3).text ∈ unitW
             · rw [if_pos ⟨rfl, hu⟩] at h
               rw [decide_eq_true hu]
               have hi3 := hL.end_of hp10.i_lt (fun e => unitW_nil (e ▸ hu))
               refine W ?_
               refine CL rfl (evs1 rfl) rfl (next_any b tv l i3 o3 _ hp10) ?_
               rintro _ w15 ⟨rfl, hT⟩
               replace hp10 := hp10.up hT; replace e4 := e4.up hT; replace e7' := e7'.up hT; replace hbv := hbv.up hT
               replace hm := hT.cell (by simp) hm
               replace hS := hS.trans (hT.mono (by simp))
               replace h512 := Nat.le_trans h512 hT.size
               clear hT
               refine W ?_
               refine WL_eff0 (OE_store1 (u := .int .i64 7) rfl rfl rfl rfl e7' (by simp)) ?_
               rintro _ w16 ⟨hT, e7''⟩
               refine W ?_
               refine WL_eff0 (OE_store1 (u := str (cur l i3).text) rfl rfl rfl rfl e7'' (by simp)) ?_
               rintro _ w17 ⟨hT', e7q⟩
               replace hT := hT.trans hT'
               replace e7q : Blk w17 b7 36 (ndC (.mk 7 0 (cur l i3).text [y, z]) (.slice (some ⟨bn, 0, none⟩) 2 2)) := e7q
               clear hT' e7' e7''
               replace e4 := e4.ext hT (by simpa using n74.symm)
               replace hp10 : Pd w17 b tv l i3 o3 := by
                obtain ⟨g1, g2, g3, g4, g5⟩ := hp10
                have hSx := hS.own hT (fun c hc => .inr (hb7x _ rfl c hc))
                exact ⟨g1.ext hT (by simpa using n7b.symm), hs0.ext hSx (fun c hc => hc) (fun c hc => .inl hc), g3, g4, g5⟩
               replace hbv := hbv.ext (X' := b7 :: b4 :: X) hT (fun c hc => by simp at hc; simp [hc]) (fun c hc => .inl hc)
               replace hm := hT.cell (by simpa using n71.symm) hm
               replace hS := hS.own hT (fun c hc => .inr (hb7x _ rfl c hc))
               replace h512 := Nat.le_trans h512 hT.size
               clear hT
               refine W ?_
               refine WC_cutQ (σ := Unit) (fun _ => [(0, .pointer (some ⟨b, 0, none⟩)), (1, .int .i64 (5 : Int)), (4, .pointer (some ⟨b4, 0, none⟩)), (7, .pointer (some ⟨b7, 0, none⟩))])
                (fun _ w' => Blk w' b7 36 (ndC (.mk (if (cur l i2).text = [45] then 8 else 7) 0 (cur l i3).text [y, z]) (.slice (some ⟨bn, 0, none⟩) 2 2)) ∧ Stp [b7] w17 w') ?_ ?_
               · by_cases hm8 : (cur l i2).text = [45]
                 · rw [if_pos hm8]
                   repeat' (first | refine W1 ?_ | (exfalso; omega) | (refine VG ?_ ?_ <;> intro hg) | (refine VC ?_ ?_ <;> intro hc))
                   · refine WL_eff0 (OE_store1 (u := .int .i64 8) rfl rfl rfl rfl e7q (by simp)) ?_
                     rintro _ w18 ⟨hT, e8⟩
                     refine W ?_
                     exact WQ_cut () ⟨rfl, rfl, rfl, rfl, trivial⟩ ⟨e8, hT⟩
                   · exact absurd hm8 (by assumption)
                 · rw [if_neg hm8]
                   repeat' (first | refine W1 ?_ | (exfalso; omega) | (refine VG ?_ ?_ <;> intro hg) | (refine VC ?_ ?_ <;> intro hc))
                   · exact absurd (by assumption) hm8
                   · exact WQ_cut () ⟨rfl, rfl, rfl, rfl, trivial⟩ ⟨e7q, Stp.refl _ _⟩
               rintro _ w18 ⟨e8, hT⟩
               replace e4 := e4.ext hT (by simpa using n74.symm)
               replace hp10 : Pd w18 b tv l i3 o3 := by
                obtain ⟨g1, g2, g3, g4, g5⟩ := hp10
                have hSx := hS.own hT (fun c hc => .inr (hb7x _ rfl c hc))
                exact ⟨g1.ext hT (by simpa using n7b.symm), hs0.ext hSx (fun c hc => hc) (fun c hc => .inl hc), g3, g4, g5⟩
               replace hbv := hbv.ext (X' := b7 :: b4 :: X) hT (fun c hc => by simp at hc; simp [hc]) (fun c hc => .inl hc)
               replace hm := hT.cell (by simpa using n71.symm) hm
               replace hS := hS.own hT (fun c hc => .inr (hb7x _ rfl c hc))
               replace h512 := Nat.le_trans h512 hT.size
               clear hT e7q
               obtain ⟨hpb, hps, hpi, hpl, hpo⟩ := id hp10
               refine W ?_
               refine WL_eff0 (OE_store1 (u := .int .i64 ((i3 + 1 : Nat) : Int)) rfl (by show some _ = some _; simp) rfl rfl hpb (by simp)) ?_
               rintro _ w19 ⟨hT, hpb9⟩
               replace hps := hps.ext (X' := [b]) hT (fun c hc => hc) (fun c hc => .inl hc)
               replace e4 := e4.ext hT (by simpa using n4)
               replace e8 := e8.ext hT (by simpa using n7b)
               replace hbv := hbv.ext (X' := b7 :: b4 :: X) hT (fun c hc => by simp at hc; subst hc; simp [hbX]) (fun c hc => .inl hc)
               replace hm := cell_up hm hb1 hT
               replace hS := hS.trans hT
               replace h512 := Nat.le_trans h512 hT.size
               refine W ?_
               exact WQ_loop (f1, .mk (if (cur l i2).text = [45] then 8 else 7) 0 (cur l i3).text [y, z], .slice (some ⟨bn, 0, none⟩) 2 2, i3 + 1, o3) ⟨rfl, rfl, rfl, rfl, trivial⟩ ⟨h, by omega, ⟨hpb9, hps, hi3, hpl, hpo⟩, e8, hbv, ⟨_, rfl, e4⟩, hm, hS, h512⟩ (by omega)
             · rw [if_neg (fun h => hu h.2), if_neg (by omega)] at h
               rw [decide_eq_false hu]
               refine W ?_
               exact WQ_loop (f1, .mk 6 0 (cur l i2).text [y, z], .slice (some ⟨bn, 0, none⟩) 2 2, i3, o3) ⟨rfl, rfl, rfl, rfl, trivial⟩ ⟨h, by omega, hp10, e7', hbv, ⟨_, rfl, e4⟩, hm, hS, h512⟩ (by omega)
           · rw [if_neg (fun h => k5 h.1)] at h
             by_cases k4 : k = 4
             · rw [if_pos k4] at h
               subst k4
               simp only [Option.some.injEq] at h
               subst h
               have e7 := e7'
               replace hp := hp10
               skip
               refine W ?_
               refine WL_eff0 (OE_storeA (us := ndC (.mk 6 0 (cur l i2).text [y, z]) (.slice (some ⟨bn, 0, none⟩) 2 2)) rfl rfl rfl rfl (ndC_one hbv) e4 rfl) ?_
               rintro _ wz ⟨hT, e4'⟩
               refine W ?_
               refine WQ_retc rfl rfl rfl e4' rfl ?_
               obtain ⟨hpb, hps, hpi, hpl, hpo⟩ := id hp
               have hSx := hS.own hT (fun c hc => by simp at hc; subst hc; exact .inr hb4w)
               refine PC.ok ⟨_, rfl, ?_⟩ ⟨hpb.ext hT (by simpa using n4.symm), hs0.ext hSx (fun c hc => hc) (fun c hc => .inl hc), hpi, hpl, hpo⟩ hSx
               exact (hbv.ext (X' := b7 :: b4 :: X) hT (fun c hc => by simp at hc; simp [hc]) (fun c hc => .inl hc)).wk (fun c hc => by simp [hc])
             · rw [if_neg k4] at h
               repeat' (first | refine W1 ?_ | (exfalso; omega) | (refine VG ?_ ?_ <;> intro hg) | (refine VC ?_ ?_ <;> intro hc))
               exact WQ_loop (f1, .mk 6 0 (cur l i2).text [y, z], .slice (some ⟨bn, 0, none⟩) 2 2, i3, o3) ⟨rfl, rfl, rfl, rfl, trivial⟩ ⟨h, by omega, hp10, e7', hbv, ⟨_, rfl, e4⟩, hm, hS, h512⟩ (by omega)
     · rw [if_neg hlv] at h
       simp only [Option.some.injEq] at h
       subst h
       repeat' (first | refine W1 ?_ | (exfalso; omega) | (refine VG ?_ ?_ <;> intro hg) | (refine VC ?_ ?_ <;> intro hc))
       skip
       refine W ?_
       refine WL_eff0 (OE_storeA (us := ndC y ky) rfl rfl rfl rfl (ndC_one hy) e4 rfl) ?_
       rintro _ wz ⟨hT, e4'⟩
       refine W ?_
       refine WQ_retc rfl rfl rfl e4' rfl ?_
       obtain ⟨hpb, hps, hpi, hpl, hpo⟩ := id hp
       have hSx := hS.own hT (fun c hc => by simp at hc; subst hc; exact .inr hb4w)
       refine PC.ok ⟨_, rfl, ?_⟩ ⟨hpb.ext hT (by simpa using n4.symm), hs0.ext hSx (fun c hc => hc) (fun c hc => .inl hc), hpi, hpl, hpo⟩ hSx
       exact (hy.ext (X' := b7 :: b4 :: X) hT (fun c hc => by simp at hc; simp [hc]) (fun c hc => .inl hc)).wk (fun c hc => by simp [hc])
end Go.Proofs.YtgpibcgebpgmiaaGreatDoor
namespace Go.Eng
open Go Go.RowKit Go.Proofs
theorem flatten_lenG {k : Nat} : ∀ (l : List (List Value)), (∀ c ∈ l, c.length = k) → l.flatten.length = l.length * k
 | [], _ => by simp
 | c :: r, h => by
   simp only [List.flatten_cons, List.length_append, List.length_cons, Nat.succ_mul]
   rw [flatten_lenG r (fun c hc => h c (by simp [hc])), h c (by simp)]
   omega
theorem NewSl.rowG {α : Type} [GoRep α] {w w' : World} {X : List Nat} {T len base : Nat} {cs : List Value} {v : Value} {ys : List α} {css : List (List Value)} (h : NewSl w T len cs v w') (hX : ∀ b ∈ X, b < w.heap.size) (hbase : base ≤ w.heap.size) (hl : len = ys.length) (hcl : css.length = ys.length)
 (hc : cs = css.flatten) (hr : ∀ i (hi : i < ys.length) (hi' : i < css.length), GoRep.rep X w ys[i] css[i]) (hm : ys.length ≤ maxLen) : Row X w' base T v ys := by
 obtain ⟨b, rfl, hb, hblk, hS⟩ := h
 subst hl
 subst hc
 have hk : ∀ c ∈ css, c.length = GoRep.k α := by
  intro c hc
  obtain ⟨i, hi, rfl⟩ := List.getElem_of_mem hc
  exact GoRep.len (hr i (by omega) hi)
 have hfl : css.flatten.length = ys.length * GoRep.k α := by rw [flatten_lenG css hk, hcl]
 refine ⟨css, hcl, fun i hi hi' => GoRep.ext (hr i hi hi') hS (by simp) (fun c hc => ?_), hfl, .inr ⟨b, ys.length, css.flatten.toArray, rfl, by omega, hblk, Nat.le_refl _, hm, by rw [List.size_toArray]; exact hfl, ?_⟩⟩
 · rcases List.mem_append.1 hc with hc | hc
   · simp only [ob, List.mem_singleton] at hc
     exact .inr (by omega)
   · exact .inl hc
 · exact List.take_of_length_le (by show css.flatten.length ≤ _; rw [hfl]; exact Nat.le_refl _)
theorem Row.slvN {α : Type} [GoRep α] {X : List Nat} {w : World} {base T : Nat} {v : Value} {xs : List α} (h : Row X w base T v xs) (hX : ∀ b ∈ X, b ∉ ob v) : SlV X w v xs := by
 obtain ⟨css, hl, hr, ho⟩ := h
 have hk : ∀ c ∈ css, c.length = GoRep.k α := by
  intro c hc
  obtain ⟨i, hi, rfl⟩ := List.getElem_of_mem hc
  exact GoRep.len (hr i (by omega) hi)
 rcases ho.2 with ⟨rfl, hn⟩ | ⟨q, cap, cur, rfl, hb, hg, hnc, hcm, hcs, ht⟩
 · exact ⟨none, 0, by rw [hn], by omega, by simp [maxLen], fun _ => rfl, fun i hi => by omega⟩
 · refine ⟨some ⟨q, 0, none⟩, cap, rfl, hnc, hcm, fun h => by simp at h, fun i hi => ?_⟩
   refine ⟨q, 0, css[i]'(by omega), rfl, (Array.getElem?_eq_some_iff.1 hg).1, fun hx => hX q hx (by simp [ob]), ?_, fun j u hu => ?_⟩
   · exact GoRep.ext (hr i hi (by omega)) (Stp.refl [] w) (by simp) (fun b hb => .inl (by simp [hb]))
   · have h1 := flatten_at css hk i (by omega) j u hu
     rw [← ht, List.getElem?_take] at h1
     split at h1
     · have h2 : cur[i * GoRep.k α + j]? = some u := by simpa using h1
       rw [Nat.zero_add, cell_of_row w q _ cur T (0, 0) hg]
       exact h2
     · cases h1
end Go.Eng
namespace Go.Proofs.YtgpibcgebpgmiaaGreatDoor
open Go Go.Eng Go.RowKit Go.Proofs
theorem nilSlvN {α : Type} [GoRep α] (X : List Nat) (w : World) : SlV (α := α) X w (.slice none 0 0) [] := ⟨none, 0, rfl, Nat.le_refl _, by simp [maxLen], fun _ => rfl, fun i hi => absurd hi (Nat.not_lt_zero _)⟩
theorem buildC (s : Str) (w : World) : (Instr.build 36 #[(0, .int .i64 10), (2, str s)]).run Tryz.prog w = .ok (.agg #[.int .i64 10, .int .i64 0, str s, .slice none 0 0]) w := by kernel_rfl
theorem buildI9 (p : Option Addr) (l c : Nat) (w : World) : (Instr.build 36 #[(0, .int .i64 9), (3, .slice p l c)]).run Tryz.prog w = .ok (.agg #[.int .i64 9, .int .i64 0, str [], .slice p l c]) w := by kernel_rfl
theorem buildTE (a b : Str) (w : World) : (Instr.buildSlice 56 2 #[(0, str a), (1, str b)]).run Tryz.prog w = .ok (.slice (some ⟨w.heap.size, 0, none⟩) 2 2) (w.alloc (.cells #[str a, str b] 9)) := by kernel_rfl
theorem funcW_nil : ([] : Str) ∉ funcW := by decide
theorem argsO_le (s : Str) : argsO s ≤ 2 := by unfold argsO; split <;> omega
theorem Blk.slv2 {w : World} {bw T : Nat} {a c : Str} (h : Blk w bw T [str a, str c]) : SlV (α := Str) [] w (.slice (some ⟨bw, 0, none⟩) 2 2) [a, c] := by
 refine ⟨some ⟨bw, 0, none⟩, 2, rfl, Nat.le_refl _, by simp [maxLen], fun h => by simp at h, fun i hi => ⟨bw, 0, [str ([a, c][i])], rfl, h.lt, by simp, rfl, fun j u hu => h.cell ?_⟩⟩
 have hi2 : i < 2 := hi
 rcases (by omega : i = 0 ∨ i = 1) with rfl | rfl
 · cases j with
   | zero => exact hu
   | succ j => simp at hu
 · cases j with
   | zero => exact hu
   | succ j => simp at hu
theorem row_cells {α : Type} [GoRep α] {X : List Nat} {w : World} {base T : Nat} {v : Value} {xs : List α} (h : Row X w base T v xs) : v.cells.toList = [v] := by
 obtain ⟨css, _, _, ho⟩ := h
 rcases ho.2 with ⟨rfl, hn⟩ | ⟨q, cap, cur, rfl, _⟩ <;> rfl
theorem row_one {α : Type} [GoRep α] {X : List Nat} {w : World} {base T : Nat} {v : Value} {xs : List α} (h : Row X w base T v xs) : v.oneCell' = true := by
 obtain ⟨css, _, _, ho⟩ := h
 rcases ho.2 with ⟨rfl, hn⟩ | ⟨q, cap, cur, rfl, _⟩ <;> rfl
set_option maxHeartbeats 2000000 in
theorem callE (f : Nat) (IH : ExprC f) (l : List Tkn) (hL : Toks l) (m : Int) (i o : Nat) (r : Out Nd) (hf : (cur l i).text ∈ funcW)
 (h : (match tokenO l 1 i o with
   | .err a c => some (.err a c)
   | .ok _ i1 o1 =>
     match opensO l [40] i1 o1 with
     | .err a c => some (.err a c)
     | .ok _ i' o' =>
       match manyO (exprO l f (.expr 1)) (commaO l) (argsO (cur l i).text) 0 [] i' o' with
       | none => none
       | some (.err a c) => some (.err a c)
       | some (.ok ks i3 o3) =>
         match closesO l [41] i3 o3 with
         | .err a c => some (.err a c)
         | .ok _ i4 o4 => some (.ok (.mk 10 0 (cur l i).text ks) i4 o4)) = some r) (X : List Nat) (b : Nat) (tv : Value) (w : World) (hb1 : b ≠ 1) (hbX : b ∈ X) (hX : ∀ c ∈ X, c < w.heap.size) (hm : w.cell? ⟨1, 0, none⟩ = some (.int .i64 m)) (hp : Pd w b tv l i o) :
 Calls Tryz.prog 199 #[.pointer (some ⟨b, 0, none⟩)] w (PC b w tv l r (fun x v w' => NdV X w' v x)) := by
 have hs0 := hp.2.1
 have hm0 := hm
 have hbw := hp.lt
 have hargs := argsO_le (cur l i).text
 have htx := hL.tl i
 refine calls_of_WC1 (n := 32) Tryz.func199 rfl rfl rfl ?_
 refine W ?_
 refine WL_eff OE_alloc rfl ?_
 rintro _ w1 ⟨b2, rfl, hb2, e2, hS⟩
 have n2b : b2 ≠ b := by have := hp.lt; omega
 have hb2w : w.heap.size ≤ b2 := hb2
 replace hm := hS.cell (by simp) hm
 replace hp := hp.up hS
 refine W ?_
 cases hK : tokenO l 1 i o with
 | err a c =>
   rw [hK] at h
   simp only [Option.some.injEq] at h
   subst h
   refine WL_pcall rfl (evs2 rfl rfl) (PC.falls (token_any b tv l hL 1 (by decide) i o _ hp) hK (hS.mono (by simp))) rfl ?_
   intro wz hwz
   repeat' (first | refine WQ_then_panic ?_ | refine WQ_block_panic ?_)
   refine WQ_panic ?_
   exact PC.err hwz
 | ok t i1 o1 =>
   obtain ⟨ho1, hi1, ht, hkind⟩ := tokenO_open hK
   subst o1; subst i1; subst t
   rw [hK] at h
   simp only at h
   refine CL rfl (evs2 rfl rfl) rfl (PC.goes (token_any b tv l hL 1 (by decide) i o _ hp) hK) ?_
   rintro _ w2 ⟨rfl, hp2, hT⟩
   replace e2 := e2.ext hT (by simpa using n2b)
   replace hm := cell_up hm hb1 hT
   replace hS := (hS.mono (S' := [b]) (by simp)).trans hT
   clear hT hp
   refine WL_pure (PR_field rfl (tknText _)) rfl ?_
   apply WL_build (vs := [(0, .int .i64 10), (2, str (cur l i).text)]) rfl (buildC _) rfl
   refine WL_eff OE_alloc rfl ?_
   rintro _ w3 ⟨b3, rfl, hb3, e3, hT⟩
   have n23 : b2 ≠ b3 := by have := e2.lt; omega
   have n3b : b3 ≠ b := by have := hp2.lt; omega
   have n31 : b3 ≠ 1 := by have := block_lt_of_cell hm; simp at this; omega
   have hb3w : w.heap.size ≤ b3 := Nat.le_trans hS.size hb3
   refine WL_eff0 (OE_storeA (us := ndC (.mk 10 0 (cur l i).text []) (.slice none 0 0)) rfl rfl rfl rfl (ndC_one (x := .mk 10 0 (cur l i).text []) (nilSlvN [] w)) e3 rfl) ?_
   rintro _ w4 ⟨hT2, e3'⟩
   replace hT := hT.own hT2 (fun c hc => .inr (by simp at hc; omega))
   clear hT2 e3
   replace hp2 := hp2.up hT; replace e2 := e2.up hT
   replace hm := hT.cell (by simp) hm
   replace hS := hS.trans (hT.mono (by simp))
   clear hT
   refine W ?_
   cases hO : opensO l [40] (i + 1) o with
   | err a c =>
     rw [hO] at h
     simp only [Option.some.injEq] at h
     subst h
     refine WL_pcall rfl (evs2 rfl rfl) (PC.falls (opens_any b tv l hL [40] (by decide) _ _ _ hp2) hO hS) rfl ?_
     intro wz hwz
     repeat' (first | refine WQ_then_panic ?_ | refine WQ_block_panic ?_)
     refine WQ_panic ?_
     exact PC.err hwz
   | ok u iA oA =>
     obtain ⟨hoo, hoi, hopt⟩ := opensO_open hO
     subst oA; subst iA
     rw [hO] at h
     simp only at h
     refine CL rfl (evs2 rfl rfl) rfl (PC.goes (opens_any b tv l hL [40] (by decide) _ _ _ hp2) hO) ?_
     rintro _ wB ⟨rfl, hp, hT⟩
     replace e2 := e2.ext hT (by simpa using n2b)
     replace e3 := e3'.ext hT (by simpa using n3b)
     replace hm := cell_up hm hb1 hT
     replace hS := hS.trans hT
     clear hT hp2 e3'
     have l2 := e2.lt
     have l3 := e3.lt
     have hwB : wB.heap.size ≤ wB.heap.size := Nat.le_refl _
     have hwBw := hS.size
     have hXb : ∀ c ∈ b3 :: b2 :: X, c < wB.heap.size := fun c hc => by
      rcases List.mem_cons.1 hc with rfl | hc
      · exact l3
      · rcases List.mem_cons.1 hc with rfl | hc
        · exact l2
        · have := hX c hc; have := hS.size; omega
     refine W ?_
     refine CL rfl (evs1 rfl) rfl (arguments_any _ _) ?_
     rintro _ wB2 ⟨rfl, hww⟩
     subst wB2
     refine W ?_
     cases hM : manyO (exprO l f (.expr 1)) (commaO l) (argsO (cur l i).text) 0 [] (i + 1 + 1) (o + 1) with
     | none => rw [hM] at h; simp at h
     | some r3 =>
     rw [hM] at h
     refine WC_loop (σ := Nat × List Nd × Value × Nat × Nat) (fun q => [(0, .pointer (some ⟨b, 0, none⟩)), (2, .pointer (some ⟨b2, 0, none⟩)), (3, .pointer (some ⟨b3, 0, none⟩)), (13, .int .i64 (argsO (cur l i).text : Int)), (14, .int .i64 (q.1 : Int))])
      (fun q w' => manyO (exprO l f (.expr 1)) (commaO l) (argsO (cur l i).text - q.1) q.1 q.2.1 q.2.2.2.1 q.2.2.2.2 = some r3 ∧ q.1 ≤ argsO (cur l i).text ∧ q.2.1.length = q.1 ∧ q.2.2.2.2 = o + 1 ∧ Pd w' b tv l q.2.2.2.1 q.2.2.2.2 ∧ Blk w' b3 36 (ndC (.mk 10 0 (cur l i).text q.2.1) q.2.2.1) ∧ Row (b3 :: b2 :: X) w' wB.heap.size 36 q.2.2.1 q.2.1 ∧ b3 ∉ ob q.2.2.1 ∧ (∃ cs : List Value, cs.length = 4 ∧ Blk w' b2 36 cs) ∧ w'.cell? ⟨1, 0, none⟩ = some (.int .i64 m) ∧ Stp [b] w w' ∧ wB.heap.size ≤ w'.heap.size)
      (fun q => argsO (cur l i).text - q.1) (0, [], .slice none 0 0, i + 1 + 1, o + 1) ⟨rfl, rfl, rfl, rfl, rfl, trivial⟩ ⟨hM, Nat.zero_le _, rfl, rfl, hp, e3, Row.nil, by simp [ob], ⟨_, rfl, e2⟩, hm, hS, Nat.le_refl _⟩ ?_
     clear hM hp e3 e2 hm hS
     rintro ⟨k, ks, kv, i2, o2⟩ w6 ⟨hM, hka, hkl, ho2', hp, e3, hrow, hn3, ⟨cs2, hc2, e2⟩, hm, hS, hsz⟩
     dsimp only at hM hka hkl ho2' hp e3 hrow hn3 hsz ⊢
     match cs2, hc2 with
     | [q0, q1, q2, q3], _ =>
     by_cases hlt : k < argsO (cur l i).text
     · obtain ⟨n', hn'⟩ : ∃ n', argsO (cur l i).text - k = n' + 1 := ⟨argsO (cur l i).text - k - 1, by omega⟩
       rw [hn'] at hM
       simp only [manyO] at hM
       repeat' (first | refine W1 ?_ | (exfalso; omega) | (refine VG ?_ ?_ <;> intro hg) | (refine VC ?_ ?_ <;> intro hc))
       ·
         have hk0 : 0 < k := by omega
         have hcm : commaO l k i2 o2 = mustO l [44] i2 o2 := by unfold commaO; rw [if_pos hk0]
         rw [hcm] at hM
         cases hU : mustO l [44] i2 o2 with
         | err a c =>
           rw [hU] at hM
           simp only [Option.some.injEq] at hM
           subst hM
           simp only [Option.some.injEq] at h
           subst h
           refine WL_pcall rfl (evs2 rfl rfl) (PC.falls (mustP_any b tv l hL _ (by decide) i2 o2 _ hp) hU hS) rfl ?_
           intro wz hwz
           repeat' (first | refine WQ_then_panic ?_ | refine WQ_block_panic ?_)
           refine WQ_panic ?_
           exact PC.err hwz
         | ok u iC oC =>
           rw [hU] at hM
           simp only at hM
           have hoC := mustO_open hU
           refine CL rfl (evs2 rfl rfl) rfl (PC.goes (mustP_any b tv l hL _ (by decide) i2 o2 _ hp) hU) ?_
           rintro _ wC ⟨rfl, hpC, hT⟩
           have hbk : ∀ c ∈ [b], c ∈ b3 :: b2 :: X ∧ c ∉ ob kv := fun c hc => by
            simp only [List.mem_singleton] at hc
            subst hc
            exact ⟨by simp [hbX], fun h => by have := (hrow.ob_le c h).1; have := hp.lt; omega⟩
           replace hrow := hrow.ext (X' := b3 :: b2 :: X) hT hbk (fun c hc => .inl hc)
           replace e2 := e2.ext hT (by simpa using n2b)
           replace e3 := e3.ext hT (by simpa using n3b)
           replace hm := cell_up hm hb1 hT
           replace hS := hS.trans hT
           replace hsz := Nat.le_trans hsz hT.size
           clear hT hp hU hcm
           refine W ?_
           have hp := hpC
           cases hE : exprO l f (.expr 1) iC oC with
           | none => rw [hE] at hM; simp at hM
           | some r2 =>
             rw [hE] at hM
             obtain ⟨hpb, hps, hpi, hpl, hpo⟩ := id hp
             have hlb := hpb.lt
             have hlk := hrow.ob_le
             have hXk : ∀ c ∈ ob kv ++ (b3 :: b2 :: X), c < wC.heap.size := fun c hc => by
              rcases List.mem_append.1 hc with h | h
              · exact (hlk c h).2
              · exact Nat.lt_of_lt_of_le (hXb c h) hsz
             cases r2 with
             | err a c =>
               simp only [Option.some.injEq] at hM
               subst hM
               simp only [Option.some.injEq] at h
               subst h
               refine WC_drawnq 8 (b :: ob kv) [7] [(0, 0), (1, 1), (2, 0), (3, 2), (4, 2), (5, 2), (6, 0), (7, 2)] rfl mixed (by kernel_rfl) (by kernel_rfl) (by kernel_rfl) (fun w1 hS1 => ?_)
               replace hp := hp.up hS1; replace e3 := e3.up hS1
               replace hm := hS1.cell (by simp) hm
               replace hS := hS.trans (hS1.mono (by simp))
               have hsub := IH l hL m (.expr 1) iC oC _ hE (ob kv ++ (b3 :: b2 :: X)) b tv w1 hb1 (by simp [hbX]) (fun c hc => Nat.lt_of_lt_of_le (hXk c hc) hS1.size) hm hp (by omega) (by omega)
               refine WDq_free rfl trivial (fun _ => PR_fieldAddr rfl) rfl ?_
               refine WDq_read rfl trivial (fun w' hw => PR_load_blk rfl rfl (e3.ext hw (by simp only [List.mem_cons, not_or]; exact ⟨n3b, hn3⟩)) rfl) rfl ?_
               refine WDq_free rfl trivial (fun _ => PR_move rfl) rfl ?_
               refine WDq_pcall rfl trivial rfl (evs2 rfl rfl) (PC.falls hsub rfl hS) rfl ?_
               intro wz hwz
               repeat' (first | refine WQ_then_panic ?_ | refine WQ_block_panic ?_)
               refine WQ_panic ?_
               exact PC.err hwz
             | ok x i3 o3 =>
               simp only at hM
               refine WC_drawn 8 (b :: ob kv) [7] [(0, 0), (1, 1), (2, 0), (3, 2), (4, 2), (5, 2), (6, 0), (7, 2)] rfl mixed (by kernel_rfl) (by kernel_rfl) (by kernel_rfl) (fun w1 hS1 => ?_)
               replace hp := hp.up hS1; replace e3 := e3.up hS1; replace e2 := e2.up hS1; replace hrow := hrow.up hS1
               replace hm := hS1.cell (by simp) hm
               replace hS := hS.trans (hS1.mono (by simp))
               have hsz1 := Nat.le_trans hsz hS1.size
               have hXk1 : ∀ c ∈ ob kv ++ (b3 :: b2 :: X), c < w1.heap.size := fun c hc => Nat.lt_of_lt_of_le (hXk c hc) hS1.size
               have hsub := IH l hL m (.expr 1) iC oC _ hE (ob kv ++ (b3 :: b2 :: X)) b tv w1 hb1 (by simp [hbX]) hXk1 hm hp (by omega) (by omega)
               clear hS1 hXk hpb hps hlk
               refine WF_fieldAddr rfl trivial rfl rfl ?_
               refine WR_load_blk rfl trivial rfl rfl e3 (by simp only [List.mem_cons, not_or]; exact ⟨n3b, hn3⟩) rfl rfl ?_
               refine WF_move rfl trivial rfl rfl ?_
               refine WD_eff rfl trivial (OE_call rfl (evs2 rfl rfl) (PC.goes hsub rfl)) (fun _ _ h => h.2.2.mono (by simp)) rfl ?_
               rintro _ w7 ⟨⟨kx, rfl, hx⟩, hp7, hT⟩
               have hbk : ∀ c ∈ [b], c ∈ b3 :: b2 :: X ∧ c ∉ ob kv := fun c hc => by
                simp only [List.mem_singleton] at hc
                subst hc
                exact ⟨by simp [hbX], fun h => by have := (hrow.ob_le c h).1; omega⟩
               replace hrow := hrow.ext (X' := b3 :: b2 :: X) hT hbk (fun c hc => .inl hc)
               replace e2 := e2.ext hT (by simpa using n2b)
               replace e3 := e3.ext hT (by simpa using n3b)
               replace hm := cell_up hm hb1 hT
               replace hS := hS.trans hT
               have hsz7 := Nat.le_trans hsz1 hT.size
               have hXk7 : ∀ c ∈ ob kv ++ (b3 :: b2 :: X), c < w7.heap.size := fun c hc => Nat.lt_of_lt_of_le (hXk1 c hc) hT.size
               clear hT hXk1 hsz1 hsub hp
               obtain ⟨px, cx, rfl, -⟩ := id hx
               refine WD_eff rfl trivial (OE_buildSlice (vs := [(0, .agg (ndC x (.slice px x.kids.length cx)).toArray)]) rfl (buildSN1 _ _ _ _ _ _)) (fun _ _ h => (NewSl.stp h).mono (by simp)) rfl ?_
               intro bv w8 hN
               have hbv : SlV (ob kv ++ (b3 :: b2 :: X)) w8 bv [x] := hN.slvG (css := [ndC x _]) hXk7 rfl rfl rfl (reps1 hx) (by simp [maxLen])
               have hT := NewSl.stp hN
               replace hp7 := hp7.up hT; replace e3 := e3.up hT; replace e2 := e2.up hT; replace hrow := hrow.up hT
               replace hm := hT.cell (by simp) hm
               replace hS := hS.trans (hT.mono (by simp))
               have hsz8 := Nat.le_trans hsz7 hT.size
               have hXk8 : ∀ c ∈ ob kv ++ (b3 :: b2 :: X), c < w8.heap.size := fun c hc => Nat.lt_of_lt_of_le (hXk7 c hc) hT.size
               clear hT hN hXk7 hsz7 hx
               have hbase : wB.heap.size ≤ w8.heap.size := Nat.le_trans hwB hsz8
               refine WD_eff rfl trivial (OE_append (X := b3 :: b2 :: X) (base := wB.heap.size) rfl (by decide) rfl rfl hrow hbv (by simp only [List.length_cons, List.length_nil]; omega) (by simp only [List.length_cons, List.length_nil, maxLen]; omega) hbase) (fun _ _ h => h.2.1.mono (fun c hc => List.mem_cons_of_mem _ hc)) rfl ?_
               rintro kv' w9 ⟨hrow', hT, hown⟩
               have hown1 : ∀ c ∈ ob kv, w.heap.size ≤ c := fun c hc => by have := (hrow.ob_le c hc).1; omega
               have hn3' : b3 ∉ ob kv' := fun h => by
                rcases hown _ h with h | h
                · exact hn3 h
                · have := hXk8 b3 (by simp); omega
               have hn2' : b2 ∉ ob kv := fun h => by have := (hrow.ob_le _ h).1; omega
               have hn1 : (1 : Nat) ∉ ob kv := fun h => by have := (hrow.ob_le _ h).1; have := block_lt_of_cell hm0; simp at this; omega
               have hnX : ∀ c ∈ X, c ∉ ob kv' := fun c hc h => by
                have := (hrow'.ob_le _ h).1
                have := hX c hc
                omega
               replace e2 := e2.ext hT hn2'
               replace e3 := e3.ext hT hn3
               replace hm := hT.cell hn1 hm
               replace hS := hS.own hT (fun c hc => .inr (hown1 c hc))
               replace hp7 : Pd w9 b tv l i3 o3 := by
                obtain ⟨g1, g2, g3, g4, g5⟩ := hp7
                exact ⟨g1.ext hT (fun h => by have := hown1 b h; omega), hs0.ext hS (fun c hc => hc) (fun c hc => .inl hc), g3, g4, g5⟩
               have hsz9 := Nat.le_trans hsz8 hT.size
               clear hT hbv hXk8 hrow
               refine WF_fieldAddr rfl trivial rfl rfl ?_
               refine WD_late0 rfl trivial (OE_store1 (u := kv') rfl rfl (row_cells hrow') (row_one hrow') e3 (by simp)) rfl ?_
               rintro _ w10 ⟨hT, e3'⟩
               replace e3' : Blk w10 b3 36 (ndC (.mk 10 0 (cur l i).text (ks ++ [x])) kv') := e3'
               replace e2 := e2.ext hT (by simpa using n23)
               replace hm := hT.cell (by simpa using n31.symm) hm
               replace hS := hS.own hT (fun c hc => by simp at hc; subst hc; exact .inr hb3w)
               replace hp7 : Pd w10 b tv l i3 o3 := by
                obtain ⟨g1, g2, g3, g4, g5⟩ := hp7
                exact ⟨g1.ext hT (by simpa using n3b.symm), hs0.ext hS (fun c hc => hc) (fun c hc => .inl hc), g3, g4, g5⟩
               replace hrow' := hrow'.ext (X' := b3 :: b2 :: X) hT (fun c hc => by simp at hc; subst hc; exact ⟨by simp, hn3'⟩) (fun c hc => .inl hc)
               have hsz10 := Nat.le_trans hsz9 hT.size
               refine D ?_
               refine W ?_
               exact WQ_loop (k + 1, ks ++ [x], kv', i3, o3) ⟨rfl, rfl, rfl, rfl, rfl, trivial⟩ ⟨by rw [show argsO (cur l i).text - (k + 1) = n' by omega]; exact hM, by omega, by simp; omega, by show o3 = o + 1; have := exprO_open l _ _ _ _ _ _ _ hE; omega, hp7, e3', hrow', hn3', ⟨_, rfl, e2⟩, hm, hS, hsz10⟩ (by dsimp only; omega)
       · have hk0 : ¬ 0 < k := by omega
         have hcm : commaO l k i2 o2 = .ok () i2 o2 := by unfold commaO; rw [if_neg hk0]
         rw [hcm] at hM
         simp only at hM
         cases hE : exprO l f (.expr 1) i2 o2 with
         | none => rw [hE] at hM; simp at hM
         | some r2 =>
           rw [hE] at hM
           obtain ⟨hpb, hps, hpi, hpl, hpo⟩ := id hp
           have hlb := hpb.lt
           have hlk := hrow.ob_le
           have hXk : ∀ c ∈ ob kv ++ (b3 :: b2 :: X), c < w6.heap.size := fun c hc => by
            rcases List.mem_append.1 hc with h | h
            · exact (hlk c h).2
            · exact Nat.lt_of_lt_of_le (hXb c h) hsz
           cases r2 with
           | err a c =>
             simp only [Option.some.injEq] at hM
             subst hM
             simp only [Option.some.injEq] at h
             subst h
             refine WC_drawnq 8 (b :: ob kv) [7] [(0, 0), (1, 1), (2, 0), (3, 2), (4, 2), (5, 2), (6, 0), (7, 2)] rfl mixed (by kernel_rfl) (by kernel_rfl) (by kernel_rfl) (fun w1 hS1 => ?_)
             replace hp := hp.up hS1; replace e3 := e3.up hS1
             replace hm := hS1.cell (by simp) hm
             replace hS := hS.trans (hS1.mono (by simp))
             have hsub := IH l hL m (.expr 1) i2 o2 _ hE (ob kv ++ (b3 :: b2 :: X)) b tv w1 hb1 (by simp [hbX]) (fun c hc => Nat.lt_of_lt_of_le (hXk c hc) hS1.size) hm hp (by omega) (by omega)
             refine WDq_free rfl trivial (fun _ => PR_fieldAddr rfl) rfl ?_
             refine WDq_read rfl trivial (fun w' hw => PR_load_blk rfl rfl (e3.ext hw (by simp only [List.mem_cons, not_or]; exact ⟨n3b, hn3⟩)) rfl) rfl ?_
             refine WDq_free rfl trivial (fun _ => PR_move rfl) rfl ?_
             refine WDq_pcall rfl trivial rfl (evs2 rfl rfl) (PC.falls hsub rfl hS) rfl ?_
             intro wz hwz
             repeat' (first | refine WQ_then_panic ?_ | refine WQ_block_panic ?_)
             refine WQ_panic ?_
             exact PC.err hwz
           | ok x i3 o3 =>
             simp only at hM
             refine WC_drawn 8 (b :: ob kv) [7] [(0, 0), (1, 1), (2, 0), (3, 2), (4, 2), (5, 2), (6, 0), (7, 2)] rfl mixed (by kernel_rfl) (by kernel_rfl) (by kernel_rfl) (fun w1 hS1 => ?_)
             replace hp := hp.up hS1; replace e3 := e3.up hS1; replace e2 := e2.up hS1; replace hrow := hrow.up hS1
             replace hm := hS1.cell (by simp) hm
             replace hS := hS.trans (hS1.mono (by simp))
             have hsz1 := Nat.le_trans hsz hS1.size
             have hXk1 : ∀ c ∈ ob kv ++ (b3 :: b2 :: X), c < w1.heap.size := fun c hc => Nat.lt_of_lt_of_le (hXk c hc) hS1.size
             have hsub := IH l hL m (.expr 1) i2 o2 _ hE (ob kv ++ (b3 :: b2 :: X)) b tv w1 hb1 (by simp [hbX]) hXk1 hm hp (by omega) (by omega)
             clear hS1 hXk hpb hps hlk
             refine WF_fieldAddr rfl trivial rfl rfl ?_
             refine WR_load_blk rfl trivial rfl rfl e3 (by simp only [List.mem_cons, not_or]; exact ⟨n3b, hn3⟩) rfl rfl ?_
             refine WF_move rfl trivial rfl rfl ?_
             refine WD_eff rfl trivial (OE_call rfl (evs2 rfl rfl) (PC.goes hsub rfl)) (fun _ _ h => h.2.2.mono (by simp)) rfl ?_
             rintro _ w7 ⟨⟨kx, rfl, hx⟩, hp7, hT⟩
             have hbk : ∀ c ∈ [b], c ∈ b3 :: b2 :: X ∧ c ∉ ob kv := fun c hc => by
              simp only [List.mem_singleton] at hc
              subst hc
              exact ⟨by simp [hbX], fun h => by have := (hrow.ob_le c h).1; omega⟩
             replace hrow := hrow.ext (X' := b3 :: b2 :: X) hT hbk (fun c hc => .inl hc)
             replace e2 := e2.ext hT (by simpa using n2b)
             replace e3 := e3.ext hT (by simpa using n3b)
             replace hm := cell_up hm hb1 hT
             replace hS := hS.trans hT
             have hsz7 := Nat.le_trans hsz1 hT.size
             have hXk7 : ∀ c ∈ ob kv ++ (b3 :: b2 :: X), c < w7.heap.size := fun c hc => Nat.lt_of_lt_of_le (hXk1 c hc) hT.size
             clear hT hXk1 hsz1 hsub hp
             obtain ⟨px, cx, rfl, -⟩ := id hx
             refine WD_eff rfl trivial (OE_buildSlice (vs := [(0, .agg (ndC x (.slice px x.kids.length cx)).toArray)]) rfl (buildSN1 _ _ _ _ _ _)) (fun _ _ h => (NewSl.stp h).mono (by simp)) rfl ?_
             intro bv w8 hN
             have hbv : SlV (ob kv ++ (b3 :: b2 :: X)) w8 bv [x] := hN.slvG (css := [ndC x _]) hXk7 rfl rfl rfl (reps1 hx) (by simp [maxLen])
             have hT := NewSl.stp hN
             replace hp7 := hp7.up hT; replace e3 := e3.up hT; replace e2 := e2.up hT; replace hrow := hrow.up hT
             replace hm := hT.cell (by simp) hm
             replace hS := hS.trans (hT.mono (by simp))
             have hsz8 := Nat.le_trans hsz7 hT.size
             have hXk8 : ∀ c ∈ ob kv ++ (b3 :: b2 :: X), c < w8.heap.size := fun c hc => Nat.lt_of_lt_of_le (hXk7 c hc) hT.size
             clear hT hN hXk7 hsz7 hx
             have hbase : wB.heap.size ≤ w8.heap.size := Nat.le_trans hwB hsz8
             refine WD_eff rfl trivial (OE_append (X := b3 :: b2 :: X) (base := wB.heap.size) rfl (by decide) rfl rfl hrow hbv (by simp only [List.length_cons, List.length_nil]; omega) (by simp only [List.length_cons, List.length_nil, maxLen]; omega) hbase) (fun _ _ h => h.2.1.mono (fun c hc => List.mem_cons_of_mem _ hc)) rfl ?_
             rintro kv' w9 ⟨hrow', hT, hown⟩
             have hown1 : ∀ c ∈ ob kv, w.heap.size ≤ c := fun c hc => by have := (hrow.ob_le c hc).1; omega
             have hn3' : b3 ∉ ob kv' := fun h => by
              rcases hown _ h with h | h
              · exact hn3 h
              · have := hXk8 b3 (by simp); omega
             have hn2' : b2 ∉ ob kv := fun h => by have := (hrow.ob_le _ h).1; omega
             have hn1 : (1 : Nat) ∉ ob kv := fun h => by have := (hrow.ob_le _ h).1; have := block_lt_of_cell hm0; simp at this; omega
             have hnX : ∀ c ∈ X, c ∉ ob kv' := fun c hc h => by
              have := (hrow'.ob_le _ h).1
              have := hX c hc
              omega
             replace e2 := e2.ext hT hn2'
             replace e3 := e3.ext hT hn3
             replace hm := hT.cell hn1 hm
             replace hS := hS.own hT (fun c hc => .inr (hown1 c hc))
             replace hp7 : Pd w9 b tv l i3 o3 := by
              obtain ⟨g1, g2, g3, g4, g5⟩ := hp7
              exact ⟨g1.ext hT (fun h => by have := hown1 b h; omega), hs0.ext hS (fun c hc => hc) (fun c hc => .inl hc), g3, g4, g5⟩
             have hsz9 := Nat.le_trans hsz8 hT.size
             clear hT hbv hXk8 hrow
             refine WF_fieldAddr rfl trivial rfl rfl ?_
             refine WD_late0 rfl trivial (OE_store1 (u := kv') rfl rfl (row_cells hrow') (row_one hrow') e3 (by simp)) rfl ?_
             rintro _ w10 ⟨hT, e3'⟩
             replace e3' : Blk w10 b3 36 (ndC (.mk 10 0 (cur l i).text (ks ++ [x])) kv') := e3'
             replace e2 := e2.ext hT (by simpa using n23)
             replace hm := hT.cell (by simpa using n31.symm) hm
             replace hS := hS.own hT (fun c hc => by simp at hc; subst hc; exact .inr hb3w)
             replace hp7 : Pd w10 b tv l i3 o3 := by
              obtain ⟨g1, g2, g3, g4, g5⟩ := hp7
              exact ⟨g1.ext hT (by simpa using n3b.symm), hs0.ext hS (fun c hc => hc) (fun c hc => .inl hc), g3, g4, g5⟩
             replace hrow' := hrow'.ext (X' := b3 :: b2 :: X) hT (fun c hc => by simp at hc; subst hc; exact ⟨by simp, hn3'⟩) (fun c hc => .inl hc)
             have hsz10 := Nat.le_trans hsz9 hT.size
             refine D ?_
             refine W ?_
             exact WQ_loop (k + 1, ks ++ [x], kv', i3, o3) ⟨rfl, rfl, rfl, rfl, rfl, trivial⟩ ⟨by rw [show argsO (cur l i).text - (k + 1) = n' by omega]; exact hM, by omega, by simp; omega, by show o3 = o + 1; have := exprO_open l _ _ _ _ _ _ _ hE; omega, hp7, e3', hrow', hn3', ⟨_, rfl, e2⟩, hm, hS, hsz10⟩ (by dsimp only; omega)
     · have hk : k = argsO (cur l i).text := by omega
       rw [show argsO (cur l i).text - k = 0 by omega] at hM
       simp only [manyO, Option.some.injEq] at hM
       subst hM
       simp only at h
       have ho2 : 0 < o2 := by omega
       repeat' (first | refine W1 ?_ | (exfalso; omega) | (refine VG ?_ ?_ <;> intro hg) | (refine VC ?_ ?_ <;> intro hc))
       cases hC : closesO l [41] i2 o2 with
       | err a c =>
         rw [hC] at h
         simp only [Option.some.injEq] at h
         subst h
         refine WL_pcall rfl (evs2 rfl rfl) (PC.falls (closes_any b tv l hL _ (by decide) i2 o2 ho2 _ hp) hC hS) rfl ?_
         intro wz hwz
         repeat' (first | refine WQ_then_panic ?_ | refine WQ_block_panic ?_)
         refine WQ_panic ?_
         exact PC.err hwz
       | ok u i3 o3 =>
         rw [hC] at h
         simp only [Option.some.injEq] at h
         subst h
         refine CL rfl (evs2 rfl rfl) rfl (PC.goes (closes_any b tv l hL _ (by decide) i2 o2 ho2 _ hp) hC) ?_
         rintro _ w7 ⟨rfl, hp7, hT⟩
         have hbk : ∀ c ∈ [b], c ∈ b3 :: b2 :: X ∧ c ∉ ob kv := fun c hc => by
          simp only [List.mem_singleton] at hc
          subst hc
          exact ⟨by simp [hbX], fun h => by have := (hrow.ob_le c h).1; have := hp.lt; omega⟩
         have hnX : ∀ c ∈ b3 :: b2 :: X, c ∉ ob kv := fun c hc h => by
          have h1 := (hrow.ob_le _ h).1
          rcases List.mem_cons.1 hc with rfl | hc
          · exact hn3 h
          · rcases List.mem_cons.1 hc with rfl | hc
            · omega
            · have := hX c hc; omega
         replace hrow := hrow.ext (X' := b3 :: b2 :: X) hT hbk (fun c hc => .inl hc)
         replace e2 := e2.ext hT (by simpa using n2b)
         replace e3 := e3.ext hT (by simpa using n3b)
         replace hS := hS.trans hT
         have hsl := hrow.slvN hnX
         refine W ?_
         refine WL_eff0 (OE_storeA (us := ndC (.mk 10 0 (cur l i).text ks) kv) rfl rfl rfl rfl (ndC_one hsl) e2 rfl) ?_
         rintro _ wz ⟨hT, e2'⟩
         refine W ?_
         refine WQ_retc rfl rfl rfl e2' rfl ?_
         obtain ⟨hpb, hps, hpi, hpl, hpo⟩ := id hp7
         have hSx := hS.own hT (fun c hc => by simp at hc; subst hc; exact .inr hb2w)
         refine PC.ok ⟨_, rfl, ?_⟩ ⟨hpb.ext hT (by simpa using n2b.symm), hs0.ext hSx (fun c hc => hc) (fun c hc => .inl hc), hpi, hpl, hpo⟩ hSx
         exact (hsl.ext (X' := b3 :: b2 :: X) hT (fun c hc => by simp at hc; simp [hc]) (fun c hc => .inl hc)).wk (fun c hc => by simp [hc])
set_option maxHeartbeats 2000000 in
theorem choiceE (f : Nat) (IH : ExprC f) (l : List Tkn) (hL : Toks l) (m : Int) (i o : Nat) (r : Out Nd)
 (h : (match opensO l [105, 102] i o with
   | .err a c => some (.err a c)
   | .ok _ i' o' =>
     match exprO l f (.expr 1) i' o' with
     | none => none
     | some (.err a c) => some (.err a c)
     | some (.ok x i'' o'') =>
       match manyO (exprO l f (.expr 1)) (thenO l) 2 0 [x] i'' o'' with
       | none => none
       | some (.err a c) => some (.err a c)
       | some (.ok ks i3 o3) =>
         match closesO l [101, 110, 100] i3 o3 with
         | .err a c => some (.err a c)
         | .ok _ i4 o4 => some (.ok (.mk 9 0 [] ks) i4 o4)) = some r) (X : List Nat) (b : Nat) (tv : Value) (w : World) (hb1 : b ≠ 1) (hbX : b ∈ X) (hX : ∀ c ∈ X, c < w.heap.size) (hm : w.cell? ⟨1, 0, none⟩ = some (.int .i64 m)) (hp : Pd w b tv l i o) :
 Calls Tryz.prog 198 #[.pointer (some ⟨b, 0, none⟩)] w (PC b w tv l r (fun x v w' => NdV X w' v x)) := by
 have hs0 := hp.2.1
 have hm0 := hm
 have hbw := hp.lt
 refine calls_of_WC1 (n := 32) Tryz.func198 rfl rfl rfl ?_
 refine W ?_
 refine WL_eff OE_alloc rfl ?_
 rintro _ w1 ⟨b2, rfl, hb2, e2, hS⟩
 have n2b : b2 ≠ b := by have := hp.lt; omega
 have hb2w : w.heap.size ≤ b2 := hb2
 replace hm := hS.cell (by simp) hm
 replace hp := hp.up hS
 refine W ?_
 cases hO : opensO l [105, 102] i o with
 | err a c =>
   rw [hO] at h
   simp only [Option.some.injEq] at h
   subst h
   refine WL_pcall rfl (evs2 rfl rfl) (PC.falls (opens_any b tv l hL _ (by decide) i o _ hp) hO (hS.mono (by simp))) rfl ?_
   intro wz hwz
   repeat' (first | refine WQ_then_panic ?_ | refine WQ_block_panic ?_)
   refine WQ_panic ?_
   exact PC.err hwz
 | ok t i1 o1 =>
   obtain ⟨hoo, hoi, hopt⟩ := opensO_open hO
   subst o1; subst i1
   rw [hO] at h
   simp only at h
   refine CL rfl (evs2 rfl rfl) rfl (PC.goes (opens_any b tv l hL _ (by decide) i o _ hp) hO) ?_
   rintro _ wA ⟨rfl, hp2, hT⟩
   replace e2 := e2.ext hT (by simpa using n2b)
   replace hm := cell_up hm hb1 hT
   replace hS := (hS.mono (S' := [b]) (by simp)).trans hT
   clear hT hp
   have l2 := e2.lt
   have hXa : ∀ c ∈ b2 :: X, c < wA.heap.size := fun c hc => by
    rcases List.mem_cons.1 hc with rfl | hc
    · exact l2
    · have := hX c hc; have := hS.size; omega
   refine W ?_
   cases hE0 : exprO l f (.expr 1) (i + 1) (o + 1) with
   | none => rw [hE0] at h; simp at h
   | some r1 =>
   rw [hE0] at h
   have hsub := IH l hL m (.expr 1) (i + 1) (o + 1) r1 hE0 (b2 :: X) b tv wA hb1 (by simp [hbX]) hXa hm hp2 (by omega) (by omega)
   cases r1 with
   | err a c =>
     simp only [Option.some.injEq] at h
     subst h
     refine WL_pcall rfl (evs2 rfl rfl) (PC.falls hsub rfl hS) rfl ?_
     intro wz hwz
     repeat' (first | refine WQ_then_panic ?_ | refine WQ_block_panic ?_)
     refine WQ_panic ?_
     exact PC.err hwz
   | ok x0 iA oA =>
     have hoA := exprO_open l _ _ _ _ _ _ _ hE0
     simp only at h
     refine CL rfl (evs2 rfl rfl) rfl (PC.goes hsub rfl) ?_
     rintro _ wB ⟨⟨kx0, rfl, hx0⟩, hp, hT⟩
     replace e2 := e2.ext hT (by simpa using n2b)
     replace hm := cell_up hm hb1 hT
     replace hS := hS.trans hT
     have hXB : ∀ c ∈ b2 :: X, c < wB.heap.size := fun c hc => Nat.lt_of_lt_of_le (hXa c hc) hT.size
     clear hT hp2 hsub hXa l2
     obtain ⟨p0, c0, rfl, -⟩ := id hx0
     refine WL_eff (OE_buildSlice (vs := [(0, .agg (ndC x0 (.slice p0 x0.kids.length c0)).toArray)]) rfl (buildSN1 _ _ _ _ _ _)) rfl ?_
     intro kv0 wD hN
     have hr0 : Row (b2 :: X) wD wB.heap.size 36 kv0 [x0] := hN.rowG (css := [ndC x0 _]) hXB (Nat.le_refl _) rfl rfl rfl (reps1 hx0) (by simp [maxLen])
     obtain ⟨bn, rfl, hbn, -, hT⟩ := id hN
     replace hp := hp.up hT; replace e2 := e2.up hT
     replace hm := hT.cell (by simp) hm
     replace hS := hS.trans (hT.mono (by simp))
     have hBD := hT.size
     clear hT hN hx0
     apply WL_build (vs := [(0, .int .i64 9), (3, .slice (some ⟨bn, 0, none⟩) 1 1)]) rfl (buildI9 _ _ _) rfl
     refine WL_eff OE_alloc rfl ?_
     rintro _ w3 ⟨b3, rfl, hb3, e3, hT⟩
     have n23 : b2 ≠ b3 := by have := e2.lt; omega
     have n3b : b3 ≠ b := by have := hp.lt; omega
     have n31 : b3 ≠ 1 := by have := block_lt_of_cell hm; simp at this; omega
     have n3n : b3 ≠ bn := by have := (hr0.ob_le bn (by simp [ob])).2; omega
     have hb3w : w.heap.size ≤ b3 := Nat.le_trans hS.size hb3
     refine WL_eff0 (OE_storeA (us := ndC (.mk 9 0 [] [x0]) (.slice (some ⟨bn, 0, none⟩) 1 1)) rfl rfl rfl rfl (by intro c hc; simp [ndC] at hc; rcases hc with rfl | rfl | rfl | rfl <;> rfl) e3 rfl) ?_
     rintro _ w4 ⟨hT2, e3'⟩
     replace hT := hT.own hT2 (fun c hc => .inr (by simp at hc; omega))
     clear hT2 e3
     replace hp := hp.up hT; replace e2 := e2.up hT
     replace hr0 : Row (b3 :: b2 :: X) w4 wB.heap.size 36 (.slice (some ⟨bn, 0, none⟩) 1 1) [x0] := hr0.ext hT (by simp) (fun c hc => by
      rcases List.mem_cons.1 hc with rfl | hc
      · exact .inr hb3
      · exact .inl hc)
     replace hm := hT.cell (by simp) hm
     replace hS := hS.trans (hT.mono (by simp))
     have hB4 := Nat.le_trans hBD hT.size
     clear hT
     refine W ?_
     refine WL_eff (OE_buildSlice (vs := [(0, str [116, 104, 101, 110]), (1, str [101, 108, 115, 101])]) rfl (buildTE _ _)) rfl ?_
     intro wv w5 hN
     obtain ⟨bw, rfl, hbw5, ew, hT⟩ := id hN
     have nwb : bw ≠ b := by have := hp.lt; omega
     have nw3 : bw ≠ b3 := by have := e3'.lt; omega
     have nwn : bw ≠ bn := by have := (hr0.ob_le bn (by simp [ob])).2; omega
     replace hp := hp.up hT; replace e2 := e2.up hT; replace e3' := e3'.up hT; replace hr0 := hr0.up hT
     replace hm := hT.cell (by simp) hm
     replace hS := hS.trans (hT.mono (by simp))
     have hwB := Nat.le_trans hB4 hT.size
     have l2 := hXB b2 (by simp)
     have hXb : ∀ c ∈ b3 :: b2 :: X, c < w5.heap.size := fun c hc => by
      rcases List.mem_cons.1 hc with rfl | hc
      · exact e3'.lt
      · exact Nat.lt_of_lt_of_le (hXB c hc) hwB
     clear hT hN hbw5
     have hwv := Blk.slv2 ew
     have hwv2 : (0 : Nat) < ([[116, 104, 101, 110], [101, 108, 115, 101]] : List Str).length := by simp
     refine W ?_
     cases hM : manyO (exprO l f (.expr 1)) (thenO l) 2 0 [x0] iA oA with
     | none => rw [hM] at h; simp at h
     | some r3 =>
     rw [hM] at h
     refine WC_loop (σ := Nat × List Nd × Value × Nat × Nat) (fun q => [(0, .pointer (some ⟨b, 0, none⟩)), (2, .pointer (some ⟨b2, 0, none⟩)), (3, .pointer (some ⟨b3, 0, none⟩)), (12, .slice (some ⟨bw, 0, none⟩) 2 2), (13, .int .i64 2), (14, .int .i64 (q.1 : Int))])
      (fun q w' => manyO (exprO l f (.expr 1)) (thenO l) (2 - q.1) q.1 q.2.1 q.2.2.2.1 q.2.2.2.2 = some r3 ∧ q.1 ≤ 2 ∧ q.2.1.length = q.1 + 1 ∧ q.2.2.2.2 = o + 1 ∧ Pd w' b tv l q.2.2.2.1 q.2.2.2.2 ∧ Blk w' b3 36 (ndC (.mk 9 0 [] q.2.1) q.2.2.1) ∧ Row (b3 :: b2 :: X) w' wB.heap.size 36 q.2.2.1 q.2.1 ∧ b3 ∉ ob q.2.2.1 ∧ bw ∉ ob q.2.2.1 ∧ Blk w' bw 9 [str [116, 104, 101, 110], str [101, 108, 115, 101]] ∧ (∃ cs : List Value, cs.length = 4 ∧ Blk w' b2 36 cs) ∧ w'.cell? ⟨1, 0, none⟩ = some (.int .i64 m) ∧ Stp [b] w w' ∧ w5.heap.size ≤ w'.heap.size)
      (fun q => 2 - q.1) (0, [x0], .slice (some ⟨bn, 0, none⟩) 1 1, iA, oA) ⟨rfl, rfl, rfl, rfl, rfl, rfl, trivial⟩ ⟨hM, by simp, rfl, hoA, hp, e3', hr0, by simpa [ob] using n3n, by simpa [ob] using nwn, ew, ⟨_, rfl, e2⟩, hm, hS, Nat.le_refl _⟩ ?_
     have hwBw : w.heap.size ≤ wB.heap.size := by omega
     clear hM hp e3' e2 hm hS hwv hr0 ew
     rintro ⟨k, ks, kv, i2, o2⟩ w6 ⟨hM, hka, hkl, ho2', hp, e3, hrow, hn3, hnw, ew, ⟨cs2, hc2, e2⟩, hm, hS, hsz⟩
     dsimp only at hM hka hkl ho2' hp e3 hrow hn3 hnw hsz ⊢
     match cs2, hc2 with
     | [q0, q1, q2, q3], _ =>
     have hwv := Blk.slv2 ew
     by_cases hlt : k < 2
     · obtain ⟨n', hn'⟩ : ∃ n', 2 - k = n' + 1 := ⟨2 - k - 1, by omega⟩
       rw [hn'] at hM
       simp only [manyO] at hM
       have hk2 : k < ([[116, 104, 101, 110], [101, 108, 115, 101]] : List Str).length := hlt
       have hth : thenO l k i2 o2 = mustO l (([[116, 104, 101, 110], [101, 108, 115, 101]] : List Str)[k]) i2 o2 := by
        rcases (by omega : k = 0 ∨ k = 1) with rfl | rfl <;> rfl
       have hne : ([[116, 104, 101, 110], [101, 108, 115, 101]] : List Str)[k] ≠ [] := by
        rcases (by omega : k = 0 ∨ k = 1) with rfl | rfl
        · show ([116, 104, 101, 110] : Str) ≠ []; decide
        · show ([101, 108, 115, 101] : Str) ≠ []; decide
       rw [hth] at hM
       repeat' (first | refine W1 ?_ | (exfalso; omega) | (refine VG ?_ ?_ <;> intro hg) | (refine VC ?_ ?_ <;> intro hc))
       cases hU : mustO l (([[116, 104, 101, 110], [101, 108, 115, 101]] : List Str)[k]) i2 o2 with
       | err a c =>
         rw [hU] at hM
         simp only [Option.some.injEq] at hM
         subst hM
         simp only [Option.some.injEq] at h
         subst h
         refine WL_pcall rfl (evs2 rfl rfl) (PC.falls (mustP_any b tv l hL _ hne i2 o2 _ hp) hU hS) rfl ?_
         intro wz hwz
         repeat' (first | refine WQ_then_panic ?_ | refine WQ_block_panic ?_)
         refine WQ_panic ?_
         exact PC.err hwz
       | ok u iC oC =>
         rw [hU] at hM
         simp only at hM
         have hoC := mustO_open hU
         refine CL rfl (evs2 rfl rfl) rfl (PC.goes (mustP_any b tv l hL _ hne i2 o2 _ hp) hU) ?_
         rintro _ wC ⟨rfl, hpC, hT⟩
         have hbk : ∀ c ∈ [b], c ∈ b3 :: b2 :: X ∧ c ∉ ob kv := fun c hc => by
          simp only [List.mem_singleton] at hc
          subst hc
          exact ⟨by simp [hbX], fun h => by have := (hrow.ob_le c h).1; have := hp.lt; omega⟩
         replace hrow := hrow.ext (X' := b3 :: b2 :: X) hT hbk (fun c hc => .inl hc)
         replace e2 := e2.ext hT (by simpa using n2b)
         replace ew := ew.ext hT (by simpa using nwb)
         replace e3 := e3.ext hT (by simpa using n3b)
         replace hm := cell_up hm hb1 hT
         replace hS := hS.trans hT
         replace hsz := Nat.le_trans hsz hT.size
         clear hT hp hU hwv hth
         refine W ?_
         have hp := hpC
         cases hE : exprO l f (.expr 1) iC oC with
         | none => rw [hE] at hM; simp at hM
         | some r2 =>
           rw [hE] at hM
           obtain ⟨hpb, hps, hpi, hpl, hpo⟩ := id hp
           have hlb := hpb.lt
           have hlk := hrow.ob_le
           have hXk : ∀ c ∈ ob kv ++ (b3 :: b2 :: X), c < wC.heap.size := fun c hc => by
            rcases List.mem_append.1 hc with h | h
            · exact (hlk c h).2
            · exact Nat.lt_of_lt_of_le (hXb c h) hsz
           cases r2 with
           | err a c =>
             simp only [Option.some.injEq] at hM
             subst hM
             simp only [Option.some.injEq] at h
             subst h
             refine WC_drawnq 8 (b :: ob kv) [7] [(0, 0), (1, 1), (2, 0), (3, 2), (4, 2), (5, 2), (6, 0), (7, 2)] rfl mixed (by kernel_rfl) (by kernel_rfl) (by kernel_rfl) (fun w1 hS1 => ?_)
             replace hp := hp.up hS1; replace e3 := e3.up hS1
             replace hm := hS1.cell (by simp) hm
             replace hS := hS.trans (hS1.mono (by simp))
             have hsub := IH l hL m (.expr 1) iC oC _ hE (ob kv ++ (b3 :: b2 :: X)) b tv w1 hb1 (by simp [hbX]) (fun c hc => Nat.lt_of_lt_of_le (hXk c hc) hS1.size) hm hp (by omega) (by omega)
             refine WDq_free rfl trivial (fun _ => PR_fieldAddr rfl) rfl ?_
             refine WDq_read rfl trivial (fun w' hw => PR_load_blk rfl rfl (e3.ext hw (by simp only [List.mem_cons, not_or]; exact ⟨n3b, hn3⟩)) rfl) rfl ?_
             refine WDq_free rfl trivial (fun _ => PR_move rfl) rfl ?_
             refine WDq_pcall rfl trivial rfl (evs2 rfl rfl) (PC.falls hsub rfl hS) rfl ?_
             intro wz hwz
             repeat' (first | refine WQ_then_panic ?_ | refine WQ_block_panic ?_)
             refine WQ_panic ?_
             exact PC.err hwz
           | ok x i3 o3 =>
             simp only at hM
             refine WC_drawn 8 (b :: ob kv) [7] [(0, 0), (1, 1), (2, 0), (3, 2), (4, 2), (5, 2), (6, 0), (7, 2)] rfl mixed (by kernel_rfl) (by kernel_rfl) (by kernel_rfl) (fun w1 hS1 => ?_)
             replace hp := hp.up hS1; replace e3 := e3.up hS1; replace e2 := e2.up hS1; replace ew := ew.up hS1; replace hrow := hrow.up hS1
             replace hm := hS1.cell (by simp) hm
             replace hS := hS.trans (hS1.mono (by simp))
             have hsz1 := Nat.le_trans hsz hS1.size
             have hXk1 : ∀ c ∈ ob kv ++ (b3 :: b2 :: X), c < w1.heap.size := fun c hc => Nat.lt_of_lt_of_le (hXk c hc) hS1.size
             have hsub := IH l hL m (.expr 1) iC oC _ hE (ob kv ++ (b3 :: b2 :: X)) b tv w1 hb1 (by simp [hbX]) hXk1 hm hp (by omega) (by omega)
             clear hS1 hXk hpb hps hlk
             refine WF_fieldAddr rfl trivial rfl rfl ?_
             refine WR_load_blk rfl trivial rfl rfl e3 (by simp only [List.mem_cons, not_or]; exact ⟨n3b, hn3⟩) rfl rfl ?_
             refine WF_move rfl trivial rfl rfl ?_
             refine WD_eff rfl trivial (OE_call rfl (evs2 rfl rfl) (PC.goes hsub rfl)) (fun _ _ h => h.2.2.mono (by simp)) rfl ?_
             rintro _ w7 ⟨⟨kx, rfl, hx⟩, hp7, hT⟩
             have hbk : ∀ c ∈ [b], c ∈ b3 :: b2 :: X ∧ c ∉ ob kv := fun c hc => by
              simp only [List.mem_singleton] at hc
              subst hc
              exact ⟨by simp [hbX], fun h => by have := (hrow.ob_le c h).1; omega⟩
             replace hrow := hrow.ext (X' := b3 :: b2 :: X) hT hbk (fun c hc => .inl hc)
             replace e2 := e2.ext hT (by simpa using n2b)
             replace ew := ew.ext hT (by simpa using nwb)
             replace e3 := e3.ext hT (by simpa using n3b)
             replace hm := cell_up hm hb1 hT
             replace hS := hS.trans hT
             have hsz7 := Nat.le_trans hsz1 hT.size
             have hXk7 : ∀ c ∈ ob kv ++ (b3 :: b2 :: X), c < w7.heap.size := fun c hc => Nat.lt_of_lt_of_le (hXk1 c hc) hT.size
             clear hT hXk1 hsz1 hsub hp
             obtain ⟨px, cx, rfl, -⟩ := id hx
             refine WD_eff rfl trivial (OE_buildSlice (vs := [(0, .agg (ndC x (.slice px x.kids.length cx)).toArray)]) rfl (buildSN1 _ _ _ _ _ _)) (fun _ _ h => (NewSl.stp h).mono (by simp)) rfl ?_
             intro bv w8 hN
             have hbv : SlV (ob kv ++ (b3 :: b2 :: X)) w8 bv [x] := hN.slvG (css := [ndC x _]) hXk7 rfl rfl rfl (reps1 hx) (by simp [maxLen])
             have hT := NewSl.stp hN
             replace hp7 := hp7.up hT; replace e3 := e3.up hT; replace e2 := e2.up hT; replace ew := ew.up hT; replace hrow := hrow.up hT
             replace hm := hT.cell (by simp) hm
             replace hS := hS.trans (hT.mono (by simp))
             have hsz8 := Nat.le_trans hsz7 hT.size
             have hXk8 : ∀ c ∈ ob kv ++ (b3 :: b2 :: X), c < w8.heap.size := fun c hc => Nat.lt_of_lt_of_le (hXk7 c hc) hT.size
             clear hT hN hXk7 hsz7 hx
             have hbase : wB.heap.size ≤ w8.heap.size := Nat.le_trans hwB hsz8
             refine WD_eff rfl trivial (OE_append (X := b3 :: b2 :: X) (base := wB.heap.size) rfl (by decide) rfl rfl hrow hbv (by simp only [List.length_cons, List.length_nil]; omega) (by simp only [List.length_cons, List.length_nil, maxLen]; omega) hbase) (fun _ _ h => h.2.1.mono (fun c hc => List.mem_cons_of_mem _ hc)) rfl ?_
             rintro kv' w9 ⟨hrow', hT, hown⟩
             have hown1 : ∀ c ∈ ob kv, w.heap.size ≤ c := fun c hc => by have := (hrow.ob_le c hc).1; omega
             have hn3' : b3 ∉ ob kv' := fun h => by
              rcases hown _ h with h | h
              · exact hn3 h
              · have := hXk8 b3 (by simp); omega
             have hnw' : bw ∉ ob kv' := fun h => by
              rcases hown _ h with h | h
              · exact hnw h
              · have := ew.lt; omega
             have hn2' : b2 ∉ ob kv := fun h => by have := (hrow.ob_le _ h).1; omega
             have hn1 : (1 : Nat) ∉ ob kv := fun h => by have := (hrow.ob_le _ h).1; have := block_lt_of_cell hm0; simp at this; omega
             have hnX : ∀ c ∈ X, c ∉ ob kv' := fun c hc h => by
              have := (hrow'.ob_le _ h).1
              have := hX c hc
              omega
             replace e2 := e2.ext hT hn2'
             replace ew := ew.ext hT hnw
             replace e3 := e3.ext hT hn3
             replace hm := hT.cell hn1 hm
             replace hS := hS.own hT (fun c hc => .inr (hown1 c hc))
             replace hp7 : Pd w9 b tv l i3 o3 := by
              obtain ⟨g1, g2, g3, g4, g5⟩ := hp7
              exact ⟨g1.ext hT (fun h => by have := hown1 b h; omega), hs0.ext hS (fun c hc => hc) (fun c hc => .inl hc), g3, g4, g5⟩
             have hsz9 := Nat.le_trans hsz8 hT.size
             clear hT hbv hXk8 hrow
             refine WF_fieldAddr rfl trivial rfl rfl ?_
             refine WD_late0 rfl trivial (OE_store1 (u := kv') rfl rfl (row_cells hrow') (row_one hrow') e3 (by simp)) rfl ?_
             rintro _ w10 ⟨hT, e3'⟩
             replace e3' : Blk w10 b3 36 (ndC (.mk 9 0 [] (ks ++ [x])) kv') := e3'
             replace e2 := e2.ext hT (by simpa using n23)
             replace ew := ew.ext hT (by simpa using nw3)
             replace hm := hT.cell (by simpa using n31.symm) hm
             replace hS := hS.own hT (fun c hc => by simp at hc; subst hc; exact .inr hb3w)
             replace hp7 : Pd w10 b tv l i3 o3 := by
              obtain ⟨g1, g2, g3, g4, g5⟩ := hp7
              exact ⟨g1.ext hT (by simpa using n3b.symm), hs0.ext hS (fun c hc => hc) (fun c hc => .inl hc), g3, g4, g5⟩
             replace hrow' := hrow'.ext (X' := b3 :: b2 :: X) hT (fun c hc => by simp at hc; subst hc; exact ⟨by simp, hn3'⟩) (fun c hc => .inl hc)
             have hsz10 := Nat.le_trans hsz9 hT.size
             refine D ?_
             refine W ?_
             exact WQ_loop (k + 1, ks ++ [x], kv', i3, o3) ⟨rfl, rfl, rfl, rfl, rfl, rfl, trivial⟩ ⟨by rw [show 2 - (k + 1) = n' by omega]; exact hM, by omega, by simp; omega, by show o3 = o + 1; have := exprO_open l _ _ _ _ _ _ _ hE; omega, hp7, e3', hrow', hn3', hnw', ew, ⟨_, rfl, e2⟩, hm, hS, hsz10⟩ (by dsimp only; omega)
     · have hk : k = 2 := by omega
       subst hk
       simp only [Nat.sub_self, manyO, Option.some.injEq] at hM
       subst hM
       simp only at h
       have ho2 : 0 < o2 := by omega
       repeat' (first | refine W1 ?_ | (exfalso; omega) | (refine VG ?_ ?_ <;> intro hg) | (refine VC ?_ ?_ <;> intro hc))
       cases hC : closesO l [101, 110, 100] i2 o2 with
       | err a c =>
         rw [hC] at h
         simp only [Option.some.injEq] at h
         subst h
         refine WL_pcall rfl (evs2 rfl rfl) (PC.falls (closes_any b tv l hL _ (by decide) i2 o2 ho2 _ hp) hC hS) rfl ?_
         intro wz hwz
         repeat' (first | refine WQ_then_panic ?_ | refine WQ_block_panic ?_)
         refine WQ_panic ?_
         exact PC.err hwz
       | ok u i3 o3 =>
         rw [hC] at h
         simp only [Option.some.injEq] at h
         subst h
         refine CL rfl (evs2 rfl rfl) rfl (PC.goes (closes_any b tv l hL _ (by decide) i2 o2 ho2 _ hp) hC) ?_
         rintro _ w7 ⟨rfl, hp7, hT⟩
         have hbk : ∀ c ∈ [b], c ∈ b3 :: b2 :: X ∧ c ∉ ob kv := fun c hc => by
          simp only [List.mem_singleton] at hc
          subst hc
          exact ⟨by simp [hbX], fun h => by have := (hrow.ob_le c h).1; have := hp.lt; omega⟩
         have hnX : ∀ c ∈ b3 :: b2 :: X, c ∉ ob kv := fun c hc h => by
          have h1 := (hrow.ob_le _ h).1
          rcases List.mem_cons.1 hc with rfl | hc
          · exact hn3 h
          · rcases List.mem_cons.1 hc with rfl | hc
            · omega
            · have := hX c hc; omega
         replace hrow := hrow.ext (X' := b3 :: b2 :: X) hT hbk (fun c hc => .inl hc)
         replace e2 := e2.ext hT (by simpa using n2b)
         replace e3 := e3.ext hT (by simpa using n3b)
         replace hS := hS.trans hT
         have hsl := hrow.slvN hnX
         refine W ?_
         refine WL_eff0 (OE_storeA (us := ndC (.mk 9 0 [] ks) kv) rfl rfl rfl rfl (ndC_one hsl) e2 rfl) ?_
         rintro _ wz ⟨hT, e2'⟩
         refine W ?_
         refine WQ_retc rfl rfl rfl e2' rfl ?_
         obtain ⟨hpb, hps, hpi, hpl, hpo⟩ := id hp7
         have hSx := hS.own hT (fun c hc => by simp at hc; subst hc; exact .inr hb2w)
         refine PC.ok ⟨_, rfl, ?_⟩ ⟨hpb.ext hT (by simpa using n2b.symm), hs0.ext hSx (fun c hc => hc) (fun c hc => .inl hc), hpi, hpl, hpo⟩ hSx
         exact (hsl.ext (X' := b3 :: b2 :: X) hT (fun c hc => by simp at hc; simp [hc]) (fun c hc => .inl hc)).wk (fun c hc => by simp [hc])
theorem buildK1 (k n : Int) (w : World) : (Instr.build 36 #[(0, .int .i64 k), (1, .int .i64 n)]).run Tryz.prog w = .ok (.agg #[.int .i64 k, .int .i64 n, str [], .slice none 0 0]) w := by kernel_rfl
theorem buildK0 (k : Int) (w : World) : (Instr.build 36 #[(0, .int .i64 k)]).run Tryz.prog w = .ok (.agg #[.int .i64 k, .int .i64 0, str [], .slice none 0 0]) w := by kernel_rfl
theorem buildK2 (k : Int) (s : Str) (w : World) : (Instr.build 36 #[(0, .int .i64 k), (2, str s)]).run Tryz.prog w = .ok (.agg #[.int .i64 k, .int .i64 0, str s, .slice none 0 0]) w := by kernel_rfl
theorem fieldC_len : fieldC.length ≤ 1000000 := by decide
theorem funcC_len : funcC.length ≤ 1000000 := by decide
theorem fieldW_nil : ([] : Str) ∉ fieldW := by decide
set_option maxHeartbeats 4000000 in
theorem primE (f : Nat) (IH : ExprC f) (l : List Tkn) (hL : Toks l) (m : Int) (i o : Nat) (r : Out Nd) (h : exprO l (f + 1) .prim i o = some r) (X : List Nat) (b : Nat) (tv : Value) (w : World) (hb1 : b ≠ 1) (hbX : b ∈ X) (hX : ∀ c ∈ X, c < w.heap.size) (hm : w.cell? ⟨1, 0, none⟩ = some (.int .i64 m)) (hp : Pd w b tv l i o) :
 Calls Tryz.prog 162 #[.pointer (some ⟨b, 0, none⟩)] w (PC b w tv l r (fun x v w' => NdV X w' v x)) := by
 have hs0 := hp.2.1
 have hi := hp.i_lt
 have hcur := cur_of hi
 rw [exprO] at h
 refine calls_of_WC1 (n := 91) Tryz.func162 rfl rfl rfl ?_
 refine W ?_
 refine WL_eff OE_alloc rfl ?_
 rintro _ w0 ⟨b2, rfl, hb2, e2, hS⟩
 have n2 : b2 ≠ b := by have := hp.lt; omega
 have hb2w : w.heap.size ≤ b2 := hb2
 obtain ⟨hpb, hps, hpi, hpl, hpo⟩ := id hp
 replace hpb := hpb.up hS
 replace hps := hps.up hS
 replace hm := hS.cell (by simp) hm
 refine W ?_
 refine WC_drawn 12 [] [11] [(0, 0), (1, 0), (2, 0), (3, 1), (4, 0), (5, 0), (6, 0), (7, 1), (8, 0), (9, 1), (10, 2), (11, 2)] rfl mixed (by kernel_rfl) (by kernel_rfl) (by kernel_rfl) (fun w1 hS1 => ?_)
 replace hpb := hpb.up hS1
 replace hps := hps.up hS1
 replace e2 := e2.up hS1
 replace hm := hS1.cell (by simp) hm
 replace hS := hS.trans hS1
 clear hS1
 refine D ?_
 refine WD_eff rfl trivial OE_alloc (fun _ _ ⟨_, _, _, _, h⟩ => h) rfl ?_
 rintro _ w2 ⟨b3, rfl, hb3, e3, hS2⟩
 have n3 : b3 ≠ b := by have := hpb.lt; omega
 have n32 : b3 ≠ b2 := by have := e2.lt; omega
 have n31 : b3 ≠ 1 := by have := block_lt_of_cell hm; simp at this; omega
 have hb3w : w.heap.size ≤ b3 := Nat.le_trans hS.size hb3
 refine WD_late0 rfl trivial (OE_storeA (us := Flat.enc l[i]) rfl rfl rfl rfl (Flat.one _) e3 rfl) rfl ?_
 rintro _ w3 ⟨hT, e3⟩
 have hT0 := hS2.own hT (fun c hc => .inr (by simp at hc; omega))
 clear hT hS2
 replace hpb := hpb.up hT0
 replace hps := hps.up hT0
 replace e2 := e2.up hT0
 replace hm := hT0.cell (by simp) hm
 replace hS := hS.trans hT0
 clear hT0 hb3
 refine D ?_
 rw [← hcur] at e3
 clear hp
 have hp : Pd w3 b tv l i o := ⟨hpb, hps, hpi, hpl, hpo⟩
 have fin : ∀ (nd : Nd) (i' o' : Nat) (w4 w5 : World) (kv : Value), nd.kids = [] → kv = .slice none 0 0 → Pd w4 b tv l i' o' → Stp [b] w w4 → Stp [b2] w4 w5 → PC b w tv l (.ok nd i' o') (fun x v w' => NdV X w' v x) (.returned (.agg (ndC nd kv).toArray)) w5 := by
  intro nd i' o' w4 w5 kv hk hkv hp4 h1 h2
  subst hkv
  obtain ⟨g1, g2, g3, g4, g5⟩ := hp4
  have hSx := h1.own h2 (fun c hc => by simp at hc; subst hc; exact .inr hb2w)
  refine PC.ok ⟨_, rfl, ?_⟩ ⟨g1.ext h2 (by simpa using n2.symm), hs0.ext hSx (fun c hc => hc) (fun c hc => .inl hc), g3, g4, g5⟩ hSx
  rw [hk]
  exact nilSlvN _ _
 by_cases c1 : (cur l i).kind = 2
 · rw [if_pos c1] at h
   simp only [Option.some.injEq] at h
   subst h
   repeat' (first | refine W1 ?_ | (exfalso; omega) | (refine VG ?_ ?_ <;> intro hg) | (refine VC ?_ ?_ <;> intro hc))
   all_goals try exact absurd c1 (by assumption)
   obtain ⟨hpb, hps, hpi, hpl, hpo⟩ := id hp
   have hi1 := hL.end_of_kind hp.i_lt (by rw [c1]; decide)
   refine W ?_
   refine WL_eff0 (OE_store1 (u := .int .i64 ((i + 1 : Nat) : Int)) rfl (by show some _ = some _; simp) rfl rfl hpb (by simp)) ?_
   rintro _ w4 ⟨hT, hpb9⟩
   replace hps := hps.ext (X' := [b]) hT (fun c hc => hc) (fun c hc => .inl hc)
   replace e2 := e2.ext hT (by simpa using n2)
   replace e3 := e3.ext hT (by simpa using n3)
   replace hS := (hS.mono (S' := [b]) (by simp)).trans hT
   replace hp : Pd w4 b tv l (i + 1) o := ⟨hpb9, hps, hi1, hpl, hpo⟩
   clear hT hpb9 hpb hps
   refine W ?_
   apply WL_build (vs := [(0, .int .i64 1), (1, .int .i64 (cur l i).num)]) rfl (buildK1 _ _) rfl
   refine WL_eff0 (OE_storeA (us := ndC (.mk 1 (cur l i).num [] []) (.slice none 0 0)) rfl rfl rfl rfl (ndC_one (x := (.mk 1 (cur l i).num [] [])) (nilSlvN [] w)) e2 rfl) ?_
   rintro _ w5 ⟨hT, e2'⟩
   refine W ?_
   refine WQ_retc rfl rfl rfl e2' rfl ?_
   exact fin _ _ _ _ _ _ rfl rfl hp hS hT
 rw [if_neg c1] at h
 by_cases c2 : (cur l i).kind = 3
 · rw [if_pos c2] at h
   simp only [Option.some.injEq] at h
   subst h
   repeat' (first | refine W1 ?_ | (exfalso; omega) | (refine VG ?_ ?_ <;> intro hg) | (refine VC ?_ ?_ <;> intro hc))
   all_goals try exact absurd (by assumption) c1
   all_goals try exact absurd c2 (by assumption)
   obtain ⟨hpb, hps, hpi, hpl, hpo⟩ := id hp
   have hi1 := hL.end_of_kind hp.i_lt (by rw [c2]; decide)
   refine W ?_
   refine WL_eff0 (OE_store1 (u := .int .i64 ((i + 1 : Nat) : Int)) rfl (by show some _ = some _; simp) rfl rfl hpb (by simp)) ?_
   rintro _ w4 ⟨hT, hpb9⟩
   replace hps := hps.ext (X' := [b]) hT (fun c hc => hc) (fun c hc => .inl hc)
   replace e2 := e2.ext hT (by simpa using n2)
   replace e3 := e3.ext hT (by simpa using n3)
   replace hS := (hS.mono (S' := [b]) (by simp)).trans hT
   replace hp : Pd w4 b tv l (i + 1) o := ⟨hpb9, hps, hi1, hpl, hpo⟩
   clear hT hpb9 hpb hps
   refine W ?_
   apply WL_build (vs := [(0, .int .i64 3), (1, .int .i64 (cur l i).num)]) rfl (buildK1 _ _) rfl
   refine WL_eff0 (OE_storeA (us := ndC (.mk 3 (cur l i).num [] []) (.slice none 0 0)) rfl rfl rfl rfl (ndC_one (x := (.mk 3 (cur l i).num [] [])) (nilSlvN [] w)) e2 rfl) ?_
   rintro _ w5 ⟨hT, e2'⟩
   refine W ?_
   refine WQ_retc rfl rfl rfl e2' rfl ?_
   exact fin _ _ _ _ _ _ rfl rfl hp hS hT
 rw [if_neg c2] at h
 repeat' (first | refine W1 ?_ | (exfalso; omega) | (refine VG ?_ ?_ <;> intro hg) | (refine VC ?_ ?_ <;> intro hc))
 all_goals try exact absurd (by assumption) c1
 all_goals try exact absurd (by assumption) c2
 refine CL rfl (evs2 rfl rfl) rfl (take_any b tv l [116, 114, 117, 101] i o _ hp (fun h => hL.end_of hp.i_lt (by rw [h]; decide))) ?_
 rintro _ w4 ⟨rfl, hp4, hT⟩
 replace e2 := e2.ext hT (by simpa using n2)
 replace e3 := e3.ext hT (by simpa using n3)
 replace hm := cell_up hm hb1 hT
 replace hS := (hS.mono (S' := [b]) (by simp)).trans hT
 clear hT hp
 by_cases c3 : (cur l i).text = [116, 114, 117, 101]
 · rw [if_pos c3] at h
   simp only [Option.some.injEq] at h
   subst h
   rw [if_pos c3] at hp4
   rw [decide_eq_true c3]
   have hp := hp4
   refine W ?_
   apply WL_build (vs := [(0, .int .i64 2), (1, .int .i64 1)]) rfl (buildK1 _ _) rfl
   refine WL_eff0 (OE_storeA (us := ndC (.mk 2 1 [] []) (.slice none 0 0)) rfl rfl rfl rfl (ndC_one (x := (.mk 2 1 [] [])) (nilSlvN [] w)) e2 rfl) ?_
   rintro _ w5 ⟨hT, e2'⟩
   refine W ?_
   refine WQ_retc rfl rfl rfl e2' rfl ?_
   exact fin _ _ _ _ _ _ rfl rfl hp hS hT
 rw [if_neg c3] at h hp4
 rw [decide_eq_false c3]
 refine W ?_
 refine CL rfl (evs2 rfl rfl) rfl (take_any b tv l [102, 97, 108, 115, 101] i o _ hp4 (fun h => hL.end_of hp4.i_lt (by rw [h]; decide))) ?_
 rintro _ w5 ⟨rfl, hp5, hT⟩
 replace e2 := e2.ext hT (by simpa using n2)
 replace e3 := e3.ext hT (by simpa using n3)
 replace hm := cell_up hm hb1 hT
 replace hS := hS.trans hT
 clear hT hp4
 by_cases c4 : (cur l i).text = [102, 97, 108, 115, 101]
 · rw [if_pos c4] at h
   simp only [Option.some.injEq] at h
   subst h
   rw [if_pos c4] at hp5
   rw [decide_eq_true c4]
   have hp := hp5
   refine W ?_
   apply WL_build (vs := [(0, .int .i64 2)]) rfl (buildK0 _) rfl
   refine WL_eff0 (OE_storeA (us := ndC (.mk 2 0 [] []) (.slice none 0 0)) rfl rfl rfl rfl (ndC_one (x := (.mk 2 0 [] [])) (nilSlvN [] w)) e2 rfl) ?_
   rintro _ w6 ⟨hT, e2'⟩
   refine W ?_
   refine WQ_retc rfl rfl rfl e2' rfl ?_
   exact fin _ _ _ _ _ _ rfl rfl hp hS hT
 rw [if_neg c4] at h hp5
 rw [decide_eq_false c4]
 have hp := hp5
 clear hp5
 by_cases c5 : (cur l i).text = [40]
 · rw [if_pos c5] at h
   repeat' (first | refine W1 ?_ | (exfalso; omega) | (refine VG ?_ ?_ <;> intro hg) | (refine VC ?_ ?_ <;> intro hc))
   all_goals try exact absurd c5 (by assumption)
   cases hO : opensO l [40] i o with
   | err a c =>
     rw [hO] at h
     simp only [Option.some.injEq] at h
     subst h
     refine WL_pcall rfl (evs2 rfl rfl) (PC.falls (opens_any b tv l hL _ (by decide) i o _ hp) hO hS) rfl ?_
     intro wz hwz
     repeat' (first | refine WQ_then_panic ?_ | refine WQ_block_panic ?_)
     refine WQ_panic ?_
     exact PC.err hwz
   | ok t i1 o1 =>
     obtain ⟨hoo, hoi, hopt⟩ := opensO_open hO
     subst o1; subst i1
     rw [hO] at h
     simp only at h
     refine CL rfl (evs2 rfl rfl) rfl (PC.goes (opens_any b tv l hL _ (by decide) i o _ hp) hO) ?_
     rintro _ wA ⟨rfl, hp2, hT⟩
     replace e2 := e2.ext hT (by simpa using n2)
     replace hm := cell_up hm hb1 hT
     replace hS := hS.trans hT
     clear hT hp e3
     have l2 := e2.lt
     have hXa : ∀ c ∈ b2 :: X, c < wA.heap.size := fun c hc => by
      rcases List.mem_cons.1 hc with rfl | hc
      · exact l2
      · have := hX c hc; have := hS.size; omega
     refine W ?_
     cases hE0 : exprO l f (.expr 1) (i + 1) (o + 1) with
     | none => rw [hE0] at h; simp at h
     | some r1 =>
     rw [hE0] at h
     have hsub := IH l hL m (.expr 1) (i + 1) (o + 1) r1 hE0 (b2 :: X) b tv wA hb1 (by simp [hbX]) hXa hm hp2 (by omega) (by omega)
     cases r1 with
     | err a c =>
       simp only [Option.some.injEq] at h
       subst h
       refine WL_pcall rfl (evs2 rfl rfl) (PC.falls hsub rfl hS) rfl ?_
       intro wz hwz
       repeat' (first | refine WQ_then_panic ?_ | refine WQ_block_panic ?_)
       refine WQ_panic ?_
       exact PC.err hwz
     | ok x iA oA =>
       have hoA := exprO_open l _ _ _ _ _ _ _ hE0
       simp only at h
       refine CL rfl (evs2 rfl rfl) rfl (PC.goes hsub rfl) ?_
       rintro _ wB ⟨⟨kx, rfl, hx⟩, hp, hT⟩
       replace e2 := e2.ext hT (by simpa using n2)
       replace hm := cell_up hm hb1 hT
       replace hS := hS.trans hT
       clear hT hp2 hsub
       refine WL_eff OE_alloc rfl ?_
       rintro _ wC ⟨b4, rfl, hb4, e4, hT⟩
       have n42 : b4 ≠ b2 := by have := e2.lt; omega
       have n4 : b4 ≠ b := by have := hp.lt; omega
       refine WL_eff0 (OE_storeA (us := ndC x kx) rfl rfl rfl rfl (ndC_one hx) e4 rfl) ?_
       rintro _ wD ⟨hT2, e4'⟩
       replace hT := hT.own hT2 (fun c hc => .inr (by simp at hc; omega))
       clear hT2 e4
       replace hp := hp.up hT; replace e2 := e2.up hT; replace hx := hx.up hT
       replace hS := hS.trans (hT.mono (by simp))
       clear hT
       refine W ?_
       cases hC : closesO l [41] iA oA with
       | err a c =>
         rw [hC] at h
         simp only [Option.some.injEq] at h
         subst h
         refine WL_pcall rfl (evs2 rfl rfl) (PC.falls (closes_any b tv l hL _ (by decide) iA oA (by omega) _ hp) hC hS) rfl ?_
         intro wz hwz
         repeat' (first | refine WQ_then_panic ?_ | refine WQ_block_panic ?_)
         refine WQ_panic ?_
         exact PC.err hwz
       | ok u i3 o3 =>
         rw [hC] at h
         simp only [Option.some.injEq] at h
         subst h
         refine CL rfl (evs2 rfl rfl) rfl (PC.goes (closes_any b tv l hL _ (by decide) iA oA (by omega) _ hp) hC) ?_
         rintro _ wE ⟨rfl, hp7, hT⟩
         replace e2 := e2.ext hT (by simpa using n2)
         replace e4' := e4'.ext hT (by simpa using n4)
         replace hx := hx.ext (X' := b2 :: X) hT (fun c hc => by simp at hc; subst hc; simp [hbX]) (fun c hc => .inl hc)
         replace hS := hS.trans hT
         clear hT hp
         refine W ?_
         refine WL_eff0 (OE_storeA (us := ndC x kx) rfl rfl rfl rfl (ndC_one hx) e2 rfl) ?_
         rintro _ wz ⟨hT, e2'⟩
         refine W ?_
         refine WQ_retc rfl rfl rfl e2' rfl ?_
         obtain ⟨g1, g2, g3, g4, g5⟩ := hp7
         have hSx := hS.own hT (fun c hc => by simp at hc; subst hc; exact .inr hb2w)
         refine PC.ok ⟨_, rfl, ?_⟩ ⟨g1.ext hT (by simpa using n2.symm), hs0.ext hSx (fun c hc => hc) (fun c hc => .inl hc), g3, g4, g5⟩ hSx
         exact (hx.ext (X' := b2 :: X) hT (fun c hc => by simp at hc; simp [hc]) (fun c hc => .inl hc)).wk (fun c hc => by simp [hc])
 rw [if_neg c5] at h
 by_cases c6 : (cur l i).text = [105, 102]
 · rw [if_pos c6] at h
   repeat' (first | refine W1 ?_ | (exfalso; omega) | (refine VG ?_ ?_ <;> intro hg) | (refine VC ?_ ?_ <;> intro hc))
   all_goals try exact absurd (by assumption) c5
   all_goals try exact absurd c6 (by assumption)
   have l2 := e2.lt
   have hXa : ∀ c ∈ b2 :: X, c < w5.heap.size := fun c hc => by
    rcases List.mem_cons.1 hc with rfl | hc
    · exact l2
    · have := hX c hc; have := hS.size; omega
   have hsub := choiceE f IH l hL m i o r h (b2 :: X) b tv _ hb1 (by simp [hbX]) hXa hm hp
   cases r with
   | err a c =>
     refine WL_pcall rfl (evs1 rfl) (PC.falls hsub rfl hS) rfl ?_
     intro wz hwz
     repeat' (first | refine WQ_then_panic ?_ | refine WQ_block_panic ?_)
     refine WQ_panic ?_
     exact PC.err hwz
   | ok x i3 o3 =>
     refine CL rfl (evs1 rfl) rfl (PC.goes hsub rfl) ?_
     rintro _ wE ⟨⟨kx, rfl, hx⟩, hp7, hT⟩
     replace e2 := e2.ext hT (by simpa using n2)
     replace hS := hS.trans hT
     clear hT hp
     refine WL_eff0 (OE_storeA (us := ndC x kx) rfl rfl rfl rfl (ndC_one hx) e2 rfl) ?_
     rintro _ wz ⟨hT, e2'⟩
     refine W ?_
     refine WQ_retc rfl rfl rfl e2' rfl ?_
     obtain ⟨g1, g2, g3, g4, g5⟩ := hp7
     have hSx := hS.own hT (fun c hc => by simp at hc; subst hc; exact .inr hb2w)
     refine PC.ok ⟨_, rfl, ?_⟩ ⟨g1.ext hT (by simpa using n2.symm), hs0.ext hSx (fun c hc => hc) (fun c hc => .inl hc), g3, g4, g5⟩ hSx
     exact (hx.ext (X' := b2 :: X) hT (fun c hc => by simp at hc; simp [hc]) (fun c hc => .inl hc)).wk (fun c hc => by simp [hc])
 rw [if_neg c6] at h
 repeat' (first | refine W1 ?_ | (exfalso; omega) | (refine VG ?_ ?_ <;> intro hg) | (refine VC ?_ ?_ <;> intro hc))
 all_goals try exact absurd (by assumption) c5
 all_goals try exact absurd (by assumption) c6
 refine CL rfl (evs2 rfl rfl) rfl (within_any funcC funcW funcW_nil (cur l i).text m _ hm funcC_len (hL.tl i) (fun h => func_iff h (hL.sp i))) ?_
 rintro _ w6 ⟨rfl, hT⟩
 replace hp := hp.up hT; replace e2 := e2.up hT; replace e3 := e3.up hT
 replace hm := hT.cell (by simp) hm
 replace hS := hS.trans (hT.mono (by simp))
 clear hT
 by_cases c7 : (cur l i).text ∈ funcW
 · rw [if_pos c7] at h
   rw [decide_eq_true c7]
   refine W ?_
   have l2 := e2.lt
   have hXa : ∀ c ∈ b2 :: X, c < w6.heap.size := fun c hc => by
    rcases List.mem_cons.1 hc with rfl | hc
    · exact l2
    · have := hX c hc; have := hS.size; omega
   have hsub := callE f IH l hL m i o r c7 h (b2 :: X) b tv _ hb1 (by simp [hbX]) hXa hm hp
   cases r with
   | err a c =>
     refine WL_pcall rfl (evs1 rfl) (PC.falls hsub rfl hS) rfl ?_
     intro wz hwz
     repeat' (first | refine WQ_then_panic ?_ | refine WQ_block_panic ?_)
     refine WQ_panic ?_
     exact PC.err hwz
   | ok x i3 o3 =>
     refine CL rfl (evs1 rfl) rfl (PC.goes hsub rfl) ?_
     rintro _ wE ⟨⟨kx, rfl, hx⟩, hp7, hT⟩
     replace e2 := e2.ext hT (by simpa using n2)
     replace hS := hS.trans hT
     clear hT hp
     refine WL_eff0 (OE_storeA (us := ndC x kx) rfl rfl rfl rfl (ndC_one hx) e2 rfl) ?_
     rintro _ wz ⟨hT, e2'⟩
     refine W ?_
     refine WQ_retc rfl rfl rfl e2' rfl ?_
     obtain ⟨g1, g2, g3, g4, g5⟩ := hp7
     have hSx := hS.own hT (fun c hc => by simp at hc; subst hc; exact .inr hb2w)
     refine PC.ok ⟨_, rfl, ?_⟩ ⟨g1.ext hT (by simpa using n2.symm), hs0.ext hSx (fun c hc => hc) (fun c hc => .inl hc), g3, g4, g5⟩ hSx
     exact (hx.ext (X' := b2 :: X) hT (fun c hc => by simp at hc; simp [hc]) (fun c hc => .inl hc)).wk (fun c hc => by simp [hc])
 rw [if_neg c7] at h
 rw [decide_eq_false c7]
 refine W ?_
 refine CL rfl (evs2 rfl rfl) rfl (within_any fieldC fieldW fieldW_nil (cur l i).text m _ hm fieldC_len (hL.tl i) (fun h => field_iff h (hL.sp i))) ?_
 rintro _ w7 ⟨rfl, hT⟩
 replace hp := hp.up hT; replace e2 := e2.up hT; replace e3 := e3.up hT
 replace hm := hT.cell (by simp) hm
 replace hS := hS.trans (hT.mono (by simp))
 clear hT
 by_cases c8 : (cur l i).text ∈ fieldW
 · rw [if_pos c8] at h
   simp only [Option.some.injEq] at h
   subst h
   rw [decide_eq_true c8]
   obtain ⟨hpb, hps, hpi, hpl, hpo⟩ := id hp
   have hi1 := hL.end_of hp.i_lt (fun e => fieldW_nil (e ▸ c8))
   refine W ?_
   refine WL_eff0 (OE_store1 (u := .int .i64 ((i + 1 : Nat) : Int)) rfl (by show some _ = some _; simp) rfl rfl hpb (by simp)) ?_
   rintro _ w8 ⟨hT, hpb9⟩
   replace hps := hps.ext (X' := [b]) hT (fun c hc => hc) (fun c hc => .inl hc)
   replace e2 := e2.ext hT (by simpa using n2)
   replace e3 := e3.ext hT (by simpa using n3)
   replace hS := hS.trans hT
   replace hp : Pd w8 b tv l (i + 1) o := ⟨hpb9, hps, hi1, hpl, hpo⟩
   clear hT hpb9 hpb hps
   refine W ?_
   apply WL_build (vs := [(0, .int .i64 4), (2, str (cur l i).text)]) rfl (buildK2 _ _) rfl
   refine WL_eff0 (OE_storeA (us := ndC (.mk 4 0 (cur l i).text []) (.slice none 0 0)) rfl rfl rfl rfl (ndC_one (x := (.mk 4 0 (cur l i).text [])) (nilSlvN [] w)) e2 rfl) ?_
   rintro _ w9 ⟨hT, e2'⟩
   refine W ?_
   refine WQ_retc rfl rfl rfl e2' rfl ?_
   exact fin _ _ _ _ _ _ rfl rfl hp hS hT
 rw [if_neg c8] at h
 simp only [Option.some.injEq] at h
 subst h
 rw [decide_eq_false c8]
 refine W ?_
 refine WL_pcall rfl (evs2 rfl rfl) (failS b tv l i o 20 _ w hp hS) rfl ?_
 intro wz hwz
 repeat' (first | refine WQ_then_panic ?_ | refine WQ_block_panic ?_)
 refine WQ_panic ?_
 exact PC.fail hwz
theorem expr8 {l : List Tkn} {m : Int} {i o : Nat} {r : Out Nd} (IH : ∀ (X : List Nat) (b : Nat) (tv : Value) (w : World), b ≠ 1 → b ∈ X → (∀ c ∈ X, c < w.heap.size) → w.cell? ⟨1, 0, none⟩ = some (.int .i64 m) → Pd w b tv l i o →
 Calls Tryz.prog 162 #[.pointer (some ⟨b, 0, none⟩)] w (PC b w tv l r (fun x v w' => NdV X w' v x))) (X : List Nat) (b : Nat) (tv : Value) (w : World) (hb1 : b ≠ 1) (hbX : b ∈ X) (hX : ∀ c ∈ X, c < w.heap.size) (hm : w.cell? ⟨1, 0, none⟩ = some (.int .i64 m)) (hp : Pd w b tv l i o) :
 Calls Tryz.prog 119 #[.pointer (some ⟨b, 0, none⟩), .int .i64 ((8 : Nat) : Int)] w (PC b w tv l r (fun x v w' => NdV X w' v x)) := by
 have hs0 := hp.2.1
 refine calls_of_WC2 (n := 98) Tryz.func119 rfl rfl rfl ?_
 refine W ?_
 refine WL_eff OE_alloc rfl ?_
 rintro _ w1 ⟨b4, rfl, hb4, e4, hS⟩
 have n4 : b4 ≠ b := by have := hp.lt; omega
 have hb4w : w.heap.size ≤ b4 := hb4
 replace hm := hS.cell (by simp) hm
 replace hp := hp.up hS
 have l4 := e4.lt
 have hX1 : ∀ c ∈ b4 :: X, c < w1.heap.size := fun c hc => by
  rcases List.mem_cons.1 hc with rfl | hc
  · exact l4
  · have := hX c hc; have := hS.size; omega
 repeat' (first | refine W1 ?_ | (exfalso; omega) | (refine VG ?_ ?_ <;> intro hg) | (refine VC ?_ ?_ <;> intro hc))
 have hsub := IH (b4 :: X) b tv _ hb1 (by simp [hbX]) hX1 hm hp
 cases r with
 | err a c =>
   refine WL_pcall rfl (evs1 rfl) (PC.falls hsub rfl (hS.mono (by simp))) rfl ?_
   intro wz hwz
   repeat' (first | refine WQ_then_panic ?_ | refine WQ_block_panic ?_)
   refine WQ_panic ?_
   exact PC.err hwz
 | ok x i3 o3 =>
   refine CL rfl (evs1 rfl) rfl (PC.goes hsub rfl) ?_
   rintro _ wE ⟨⟨kx, rfl, hx⟩, hp7, hT⟩
   replace e4 := e4.ext hT (by simpa using n4)
   replace hS := (hS.mono (S' := [b]) (by simp)).trans hT
   clear hT hp
   refine WL_eff0 (OE_storeA (us := ndC x kx) rfl rfl rfl rfl (ndC_one hx) e4 rfl) ?_
   rintro _ wz ⟨hT, e4'⟩
   refine W ?_
   refine WQ_retc rfl rfl rfl e4' rfl ?_
   obtain ⟨g1, g2, g3, g4, g5⟩ := hp7
   have hSx := hS.own hT (fun c hc => by simp at hc; subst hc; exact .inr hb4w)
   refine PC.ok ⟨_, rfl, ?_⟩ ⟨g1.ext hT (by simpa using n4.symm), hs0.ext hSx (fun c hc => hc) (fun c hc => .inl hc), g3, g4, g5⟩ hSx
   exact (hx.ext (X' := b4 :: X) hT (fun c hc => by simp at hc; simp [hc]) (fun c hc => .inl hc)).wk (fun c hc => by simp [hc])
theorem exprC_all : ∀ f, ExprC f := by
 intro f
 induction f using Nat.strongRecOn with
 | _ f ih =>
   intro l hL m c i o r h X b tv w hb1 hbX hX hm hp
   cases f with
   | zero => simp [exprO] at h
   | succ f =>
     have IH := ih f (Nat.lt_succ_self f)
     cases c with
     | loop k x => trivial
     | prim => exact primE f IH l hL m i o r h X b tv w hb1 hbX hX hm hp
     | expr k =>
       intro hk1 hk8
       rw [exprO] at h
       split at h
       · rename_i hsp
         exact exprU f IH l hL m k i o r hk8 hsp h X b tv w hb1 hbX hX hm hp
       · rename_i hsp
         split at h
         · rename_i h8
           subst h8
           exact expr8 (IH l hL m .prim i o r h) X b tv w hb1 hbX hX hm hp
         · exact exprB f (fun f' hf' => ih f' (by omega)) l hL m k i o r hk1 (by omega) hsp h X b tv w hb1 hbX hX hm hp
def mustF (x : Nd) (want : Int) : Int := if nestN x ≤ 12 then (if typeT x = 0 then 21 else if typeT x = want then 0 else 21) else 2
theorem must_any (v : Value) (x : Nd) (want : Int) (w : World) (hx : NdV [] w v x) (hF : SlV [] w flds fieldNames) : Calls Tryz.prog 58 #[v, .int .i64 want] w (Ret fun r w' => r = .int .i64 (mustF x want) ∧ Stp [] w w') := by
 obtain ⟨kv, rfl, hs⟩ := hx
 refine calls_of_WC2 (n := 20) Tryz.func58 rfl rfl rfl ?_
 refine W ?_
 refine WL_eff (OE_box rfl) rfl ?_
 rintro _ w1 ⟨b, rfl, hb, hblk, hS⟩
 replace hblk : Blk w1 b _ (ndC x kv) := hblk
 refine W ?_
 refine CL rfl (evs1 rfl) rfl (Of_any [] [] _ x _ ⟨kv, rfl, hs.up hS⟩ (hF.up hS)) ?_
 rintro _ w2 ⟨rfl, hS2⟩
 replace hS := hS.trans hS2
 unfold mustF
 by_cases hn : nestN x ≤ 12
 · rw [if_pos hn, if_pos hn, if_pos hn]
   by_cases ht : typeT x = 0
   · rw [if_pos ht, if_pos ht]
     repeat' (first | refine W1 ?_ | (exfalso; omega) | (refine VG ?_ ?_ <;> intro hg) | (refine VC ?_ ?_ <;> intro hc))
     refine WR ?_
     exact .mk ⟨rfl, hS⟩
   · rw [if_neg ht, if_neg ht]
     by_cases hw : typeT x = want
     · rw [if_pos hw]
       repeat' (first | refine W1 ?_ | (exfalso; omega) | (refine VG ?_ ?_ <;> intro hg) | (refine VC ?_ ?_ <;> intro hc))
       refine WR ?_
       exact .mk ⟨rfl, hS⟩
     · rw [if_neg hw]
       repeat' (first | refine W1 ?_ | (exfalso; omega) | (refine VG ?_ ?_ <;> intro hg) | (refine VC ?_ ?_ <;> intro hc))
       refine WR ?_
       exact .mk ⟨rfl, hS⟩
 · rw [if_neg hn, if_neg hn, if_neg hn]
   repeat' (first | refine W1 ?_ | (exfalso; omega) | (refine VG ?_ ?_ <;> intro hg) | (refine VC ?_ ?_ <;> intro hc))
   refine WR ?_
   exact .mk ⟨rfl, hS⟩
structure Rul where
 name : Str
 frm : Int
 on : Str
 cnd : Nd
 due : Nd
 unl : Str
 els : Str
abbrev rlC (r : Rul) (ki kd : Value) : List Value := [str r.name, .int .i64 r.frm, str r.on, .int .i64 r.cnd.kind, .int .i64 r.cnd.num, str r.cnd.word, ki, .int .i64 r.due.kind, .int .i64 r.due.num, str r.due.word, kd, str r.unl, str r.els]
def RulV (X : List Nat) (w : World) (v : Value) (r : Rul) : Prop := ∃ ki kd, v = .agg (rlC r ki kd).toArray ∧ SlV X w ki r.cnd.kids ∧ SlV X w kd r.due.kids
def namesT (r : Rul) : Bool := namedT r.name && namedT r.on && (decide (r.unl = []) || namedT r.unl) && (decide (r.els = []) || namedT r.els)
def checkT (r : Rul) : Int := if namesT r = false then 7 else if r.frm < 0 ∨ r.frm > 3652058 then 5 else if mustF r.cnd 2 ≠ 0 then mustF r.cnd 2 else mustF r.due 3
theorem Check14_any (v : Value) (r : Rul) (m : Int) (w : World) (hv : RulV [] w v r) (hF : SlV [] w flds fieldNames) (hm : w.cell? ⟨1, 0, none⟩ = some (.int .i64 m)) :
 Calls Tryz.prog 18 #[v] w (Ret fun r' w' => r' = .int .i64 (checkT r) ∧ Stp [] w w') := by
 obtain ⟨ki, kd, rfl, hi, hd⟩ := hv
 refine calls_of_WC1 (n := 55) Tryz.func18 rfl rfl rfl ?_
 refine W ?_
 refine WL_eff (OE_box rfl) rfl ?_
 rintro _ w1 ⟨b, rfl, hb, hblk, hS⟩
 replace hblk : Blk w1 b _ (rlC r ki kd) := hblk
 refine W ?_
 refine CL rfl (evs1 rfl) rfl (named_any r.name m _ (hF.up hS) (hS.cell (by simp) hm)) ?_
 rintro _ w2 ⟨rfl, hT⟩
 replace hblk := hblk.up hT
 replace hS := hS.trans hT
 clear hT
 refine WL_cutQ (σ := Bool) (fun q => [(1, .pointer (some ⟨b, 0, none⟩)), (2, .int .i64 0), (4, .bool q)]) (fun q w' => Blk w' b 38 (rlC r ki kd) ∧ Stp [] w w' ∧ q = !namesT r) ?_ ?_
 · cases hA : namedT r.name with
   | false =>
     refine W ?_
     exact WQ_cut true ⟨rfl, rfl, rfl, trivial⟩ ⟨hblk, hS, by simp [namesT, *]⟩
   | true =>
     refine W ?_
     refine CL rfl (evs1 rfl) rfl (named_any r.on m _ (hF.up hS) (hS.cell (by simp) hm)) ?_
     rintro _ w2 ⟨rfl, hT⟩
     replace hblk := hblk.up hT
     replace hS := hS.trans hT
     clear hT
     cases hB : namedT r.on with
     | false =>
       refine W ?_
       exact WQ_cut true ⟨rfl, rfl, rfl, trivial⟩ ⟨hblk, hS, by simp [namesT, *]⟩
     | true =>
       repeat' (first | refine W1 ?_ | (exfalso; omega) | (refine VG ?_ ?_ <;> intro hg) | (refine VC ?_ ?_ <;> intro hc))
       · refine CL rfl (evs1 rfl) rfl (named_any r.unl m _ (hF.up hS) (hS.cell (by simp) hm)) ?_
         rintro _ w2 ⟨rfl, hT⟩
         replace hblk := hblk.up hT
         replace hS := hS.trans hT
         clear hT
         cases hC : namedT r.unl with
         | false =>
           refine W ?_
           exact WQ_cut true ⟨rfl, rfl, rfl, trivial⟩ ⟨hblk, hS, by simp [namesT, *]⟩
         | true =>
           repeat' (first | refine W1 ?_ | (exfalso; omega) | (refine VG ?_ ?_ <;> intro hg) | (refine VC ?_ ?_ <;> intro hc))
           · refine CL rfl (evs1 rfl) rfl (named_any r.els m _ (hF.up hS) (hS.cell (by simp) hm)) ?_
             rintro _ w2 ⟨rfl, hT⟩
             replace hblk := hblk.up hT
             replace hS := hS.trans hT
             clear hT
             cases hD : namedT r.els with
             | false =>
               refine W ?_
               exact WQ_cut true ⟨rfl, rfl, rfl, trivial⟩ ⟨hblk, hS, by simp [namesT, *]⟩
             | true =>
               refine W ?_
               exact WQ_cut false ⟨rfl, rfl, rfl, trivial⟩ ⟨hblk, hS, by simp [namesT, *]⟩
           · exact WQ_cut false ⟨rfl, rfl, rfl, trivial⟩ ⟨hblk, hS, by simp [namesT, *]⟩
       · refine CL rfl (evs1 rfl) rfl (named_any r.els m _ (hF.up hS) (hS.cell (by simp) hm)) ?_
         rintro _ w2 ⟨rfl, hT⟩
         replace hblk := hblk.up hT
         replace hS := hS.trans hT
         clear hT
         cases hD : namedT r.els with
         | false =>
           refine W ?_
           exact WQ_cut true ⟨rfl, rfl, rfl, trivial⟩ ⟨hblk, hS, by simp [namesT, *]⟩
         | true =>
           refine W ?_
           exact WQ_cut false ⟨rfl, rfl, rfl, trivial⟩ ⟨hblk, hS, by simp [namesT, *]⟩
       · exact WQ_cut false ⟨rfl, rfl, rfl, trivial⟩ ⟨hblk, hS, by simp [namesT, *]⟩
 rintro q w3 ⟨hblk, hS, hq⟩
 try dsimp only at hq ⊢
 unfold checkT
 cases hnm : namesT r with
 | false =>
   rw [hnm] at hq
   subst hq
   refine W ?_
   refine WR ?_
   exact .mk ⟨rfl, hS⟩
 | true =>
   rw [hnm] at hq
   subst hq
   refine W ?_
   by_cases hr : r.frm < 0 ∨ r.frm > 3652058
   · repeat' (first | refine W1 ?_ | (exfalso; omega) | (refine VG ?_ ?_ <;> intro hg) | (refine VC ?_ ?_ <;> intro hc))
     all_goals
      refine WR ?_
      exact .mk ⟨by rw [if_neg (by decide), if_pos hr], hS⟩
   repeat' (first | refine W1 ?_ | (exfalso; omega) | (refine VG ?_ ?_ <;> intro hg) | (refine VC ?_ ?_ <;> intro hc))
   apply WL_pure (PR_loadN_blk (us := ndC r.cnd ki) rfl rfl hblk rfl rfl) rfl
   refine W ?_
   refine CL rfl (evs2 rfl rfl) rfl (must_any _ r.cnd 2 _ ⟨ki, rfl, hi.up hS⟩ (hF.up hS)) ?_
   rintro _ w4 ⟨rfl, hT⟩
   replace hblk := hblk.up hT
   replace hS := hS.trans hT
   clear hT
   by_cases h2 : mustF r.cnd 2 = 0
   · repeat' (first | refine W1 ?_ | (exfalso; omega) | (refine VG ?_ ?_ <;> intro hg) | (refine VC ?_ ?_ <;> intro hc))
     apply WL_pure (PR_loadN_blk (us := ndC r.due kd) rfl rfl hblk rfl rfl) rfl
     refine W ?_
     refine CL rfl (evs2 rfl rfl) rfl (must_any _ r.due 3 _ ⟨kd, rfl, hd.up hS⟩ (hF.up hS)) ?_
     rintro _ w5 ⟨rfl, hT⟩
     refine W ?_
     refine WR ?_
     exact .mk ⟨by rw [if_neg (by decide), if_neg hr, if_neg (by simpa using h2)], hS.trans hT⟩
   · repeat' (first | refine W1 ?_ | (exfalso; omega) | (refine VG ?_ ?_ <;> intro hg) | (refine VC ?_ ?_ <;> intro hc))
     refine WR ?_
     exact .mk ⟨by rw [if_neg (by decide), if_neg hr, if_pos h2], hS⟩
end Go.Proofs.YtgpibcgebpgmiaaGreatDoor
namespace Go.Eng
open Go Go.RowKit Go.Proofs
section
variable {P : Program} {n : Nat} {Q : Exit → Act → World → Prop} {e : Env} {w : World} {ops : Array Oper} {rest : List Oper} {ty : TypeId} {pos : String} {af : Array Edge}
theorem OE_callB {d : Option Nat} {g : Option (Nat × Bool)} {f : Nat} {fn : Func} {xs : Array Operand} {ts : Array TypeId} {vs bd cap us : Array Value} {G : Value → World → Prop} {c : Operand} [hf : Fun P f fn] (hc : ev e c = some (.func (.func f) bd cap))
 (hv : ∀ a, Has n e a → xs.map a.eval = vs) (hu : bd ++ vs ++ cap = us) (h : Calls P f us w (Ret G)) :
 OE P n ⟨d, .call { callee := .value c, args := xs, argTypes := ts }, ty, pos, af, g⟩ e w G :=
 ⟨fun a ha Q => by
   have he : (execOp a.eval ⟨d, .call { callee := .value c, args := xs, argTypes := ts }, ty, pos, af, g⟩).run P w = .ok (.enter f us) w := by
    simp only [execOp, resolve, ha.ev hc, Deferred.ofValue, hv a ha]
    simp [invoke]
    rw [← Array.append_assoc, hu]
    exact hf.enters us w
   unfold Oper.wp
   rw [he]
   simp only [Oper.upon]
   refine h.mono ?_
   rintro r w' ⟨v, rfl, hg⟩
   exact ⟨v, rfl, hg⟩⟩
theorem WL_pcallB {d : Nat} {f : Nat} {fn : Func} {xs : Array Operand} {ts : Array TypeId} {vs bd cap us : Array Value} {c : Operand} {ch : List PanicEntry} {F : World → Prop} [hf : Fun P f fn]
 (hc : ev e c = some (.func (.func f) bd cap)) (hv : ∀ a, Has n e a → xs.map a.eval = vs) (hu : bd ++ vs ++ cap = us) (h : Calls P f us w (fun e w' => e = .panicked ch ∧ F w')) (hd : Nat.blt d n = true) (k : ∀ w', F w' → WQ n Q (.panic ch) [] w') :
 WL P n ops Q (⟨some d, .call { callee := .value c, args := xs, argTypes := ts }, ty, pos, af, none⟩ :: rest) e w :=
 WL_effP (G := fun _ _ => False) (F := fun ch' w' => ch' = ch ∧ F w') (OEP_callB hc hv hu (h.mono fun e w' ⟨h1, h2⟩ => by rw [h1]; exact .pan ⟨rfl, h2⟩)) hd (fun ch' w' ⟨h1, h2⟩ => by subst h1; exact WQ_forget (k w' h2)) (fun _ _ h => h.elim)
theorem PR_makeFuncB1 {d : Option Nat} {g : Option (Nat × Bool)} {f : Nat} {x : Operand} {v : Value} (hx : ev e x = some v) : PR P n ⟨d, .makeFunc (.func f) #[x] #[], ty, pos, af, g⟩ e w (.func (.func f) #[v] #[]) :=
 ⟨fun a ha => by simp [execOp, Instr.makeFunc, ha.ev hx]⟩
end
end Go.Eng
namespace Go.Proofs.YtgpibcgebpgmiaaGreatDoor
open Go Go.Eng Go.RowKit Go.Proofs
def _root_.Go.Eng.RuleM.rul (r : RuleM) : Rul := ⟨r.name, r.frm, r.on, r.cond, r.due, r.unl, r.els⟩
instance : GoRep Rul where
 k := 13
 rep := fun X w r cs => ∃ ki kd, cs = rlC r ki kd ∧ SlV X w ki r.cnd.kids ∧ SlV X w kd r.due.kids
 len := by rintro X w r cs ⟨ki, kd, rfl, _⟩; rfl
 one := by
  rintro X w r cs ⟨ki, kd, rfl, h1, h2⟩ c hc
  have e1 := h1.one
  have e2 := h2.one
  simp only [rlC, List.mem_cons, List.not_mem_nil, or_false] at hc
  rcases hc with rfl | rfl | rfl | rfl | rfl | rfl | rfl | rfl | rfl | rfl | rfl | rfl | rfl <;> first | rfl | exact e1 | exact e2
 ext := by
  rintro X S X' w w' r cs ⟨ki, kd, rfl, h1, h2⟩ hS g1 g2
  exact ⟨ki, kd, rfl, h1.ext hS g1 g2, h2.ext hS g1 g2⟩
theorem rlOne (r : Rul) {X Y : List Nat} {w w' : World} {ki kd : Value} (h1 : SlV X w ki r.cnd.kids) (h2 : SlV Y w' kd r.due.kids) : ∀ c ∈ rlC r ki kd, c.oneCell' = true := by
 intro c hc
 have e1 := h1.one
 have e2 := h2.one
 simp only [rlC, List.mem_cons, List.not_mem_nil, or_false] at hc
 rcases hc with rfl | rfl | rfl | rfl | rfl | rfl | rfl | rfl | rfl | rfl | rfl | rfl | rfl <;> first | rfl | exact e1 | exact e2
theorem whole_any (X : List Nat) (b : Nat) (tv : Value) (l : List Tkn) (hL : Toks l) (m : Int) (i o : Nat) (w : World) (hb1 : b ≠ 1) (hbX : b ∈ X) (hX : ∀ c ∈ X, c < w.heap.size) (hm : w.cell? ⟨1, 0, none⟩ = some (.int .i64 m)) (hp : Pd w b tv l i o) :
 Calls Tryz.prog 74 #[.pointer (some ⟨b, 0, none⟩)] w (PC b w tv l (wholeO l i o) (fun x v w' => NdV X w' v x)) := by
 have hs0 := hp.2.1
 have hE := wholeO_eq l i o
 generalize wholeO l i o = r at *
 refine calls_of_WC1 (n := 5) Tryz.func74 rfl rfl rfl ?_
 refine W ?_
 refine WL_eff OE_alloc rfl ?_
 rintro _ w1 ⟨b2, rfl, hb2, e2, hS⟩
 have n2 : b2 ≠ b := by have := hp.lt; omega
 have hb2w : w.heap.size ≤ b2 := hb2
 replace hm := hS.cell (by simp) hm
 replace hp := hp.up hS
 have l2 := e2.lt
 have hX1 : ∀ c ∈ b2 :: X, c < w1.heap.size := fun c hc => by
  rcases List.mem_cons.1 hc with rfl | hc
  · exact l2
  · have := hX c hc; have := hS.size; omega
 refine W ?_
 have hsub := exprC_all _ l hL m (.expr 1) i o r hE (b2 :: X) b tv _ hb1 (by simp [hbX]) hX1 hm hp (by omega) (by omega)
 cases r with
 | err a c =>
   refine WL_pcall rfl (evs2 rfl rfl) (PC.falls hsub rfl (hS.mono (by simp))) rfl ?_
   intro wz hwz
   repeat' (first | refine WQ_then_panic ?_ | refine WQ_block_panic ?_)
   refine WQ_panic ?_
   exact PC.err hwz
 | ok x i3 o3 =>
   refine CL rfl (evs2 rfl rfl) rfl (PC.goes hsub rfl) ?_
   rintro _ wE ⟨⟨kx, rfl, hx⟩, hp7, hT⟩
   replace e2 := e2.ext hT (by simpa using n2)
   replace hS := (hS.mono (S' := [b]) (by simp)).trans hT
   clear hT hp
   refine WL_eff0 (OE_storeA (us := ndC x kx) rfl rfl rfl rfl (ndC_one hx) e2 rfl) ?_
   rintro _ wz ⟨hT, e2'⟩
   refine W ?_
   refine WQ_retc rfl rfl rfl e2' rfl ?_
   obtain ⟨g1, g2, g3, g4, g5⟩ := hp7
   have hSx := hS.own hT (fun c hc => by simp at hc; subst hc; exact .inr hb2w)
   refine PC.ok ⟨_, rfl, ?_⟩ ⟨g1.ext hT (by simpa using n2.symm), hs0.ext hSx (fun c hc => hc) (fun c hc => .inl hc), g3, g4, g5⟩ hSx
   exact (hx.ext (X' := b2 :: X) hT (fun c hc => by simp at hc; simp [hc]) (fun c hc => .inl hc)).wk (fun c hc => by simp [hc])
theorem partS_any (b : Nat) (tv : Value) (l : List Tkn) (hL : Toks l) (wd : Str) (hwd : wd ≠ []) (m : Int) (i o : Nat) (w : World) (hb1 : b ≠ 1) (hm : w.cell? ⟨1, 0, none⟩ = some (.int .i64 m)) (hp : Pd w b tv l i o) :
 Calls Tryz.prog 72 #[.pointer (some ⟨b, 0, none⟩), str wd, .func (.func 69) #[.pointer (some ⟨b, 0, none⟩)] #[]] w (PC b w tv l (partO l wd [] (nameO l) i o) (fun s v _ => v = str s)) := by
 unfold partO
 refine calls_of_WC3 (n := 19) Tryz.func72 rfl rfl rfl ?_
 refine W ?_
 refine CL rfl (evs2 rfl rfl) rfl (take_any b tv l wd i o _ hp (fun h => hL.end_of hp.i_lt (by rw [h]; exact hwd))) ?_
 rintro _ w4 ⟨rfl, hp4, hS⟩
 replace hm := cell_up hm hb1 hS
 by_cases c3 : (cur l i).text = wd
 · rw [if_pos c3] at hp4 ⊢
   rw [decide_eq_true c3]
   refine W ?_
   rcases hN : nameO l (i + 1) o with ⟨a, c⟩ | ⟨s, i1, o1⟩
   · refine WL_pcallB rfl evs0 rfl (PC.falls (name_any b tv l hL _ _ m _ hm hp4) hN hS) rfl ?_
     intro wz hwz
     repeat' (first | refine WQ_then_panic ?_ | refine WQ_block_panic ?_)
     refine WQ_panic ?_
     exact PC.err hwz
   · refine WL_eff (OE_callB rfl evs0 rfl (PC.goes (name_any b tv l hL _ _ m _ hm hp4) hN)) rfl ?_
     rintro _ w5 ⟨rfl, hp5, hT⟩
     replace hS := hS.trans hT
     refine W ?_
     simp only [Out.bind]
     rcases hU : mustO l [59] i1 o1 with ⟨a, c⟩ | ⟨u, i2, o2⟩
     · refine WL_pcall rfl (evs2 rfl rfl) (PC.falls (mustP_any b tv l hL _ (by decide) i1 o1 _ hp5) hU hS) rfl ?_
       intro wz hwz
       repeat' (first | refine WQ_then_panic ?_ | refine WQ_block_panic ?_)
       refine WQ_panic ?_
       exact PC.err hwz
     · refine CL rfl (evs2 rfl rfl) rfl (PC.goes (mustP_any b tv l hL _ (by decide) i1 o1 _ hp5) hU) ?_
       rintro _ w6 ⟨rfl, hp6, hT⟩
       replace hS := hS.trans hT
       refine W ?_
       refine WR ?_
       exact PC.ok rfl hp6 hS
 · rw [if_neg c3] at hp4 ⊢
   rw [decide_eq_false c3]
   refine W ?_
   refine WR ?_
   exact PC.ok rfl hp4 hS
theorem partN_any (X : List Nat) (b : Nat) (tv : Value) (l : List Tkn) (hL : Toks l) (wd : Str) (hwd : wd ≠ []) (m : Int) (i o : Nat) (w : World) (hb1 : b ≠ 1) (hbX : b ∈ X) (hX : ∀ c ∈ X, c < w.heap.size) (hm : w.cell? ⟨1, 0, none⟩ = some (.int .i64 m)) (hp : Pd w b tv l i o) :
 Calls Tryz.prog 73 #[.pointer (some ⟨b, 0, none⟩), str wd, .func (.func 74) #[.pointer (some ⟨b, 0, none⟩)] #[]] w (PC b w tv l (partO l wd ndZero (wholeO l) i o) (fun x v w' => NdV X w' v x)) := by
 have hs0 := hp.2.1
 unfold partO
 refine calls_of_WC3 (n := 19) Tryz.func73 rfl rfl rfl ?_
 refine W ?_
 refine WL_eff OE_alloc rfl ?_
 rintro _ w1 ⟨b6, rfl, hb6, e6, hS⟩
 have n6 : b6 ≠ b := by have := hp.lt; omega
 have hb6w : w.heap.size ≤ b6 := hb6
 refine W ?_
 refine WL_eff OE_alloc rfl ?_
 rintro _ w2 ⟨b7, rfl, hb7, e7, hT⟩
 have n7 : b7 ≠ b := by have := hp.lt; have := hS.size; omega
 have n76 : b7 ≠ b6 := by have := e6.lt; omega
 replace e6 := e6.up hT
 replace hS := hS.trans hT
 clear hT
 replace hm := hS.cell (by simp) hm
 replace hp := hp.up hS
 refine W ?_
 refine CL rfl (evs2 rfl rfl) rfl (take_any b tv l wd i o _ hp (fun h => hL.end_of hp.i_lt (by rw [h]; exact hwd))) ?_
 rintro _ w4 ⟨rfl, hp4, hT⟩
 replace hm := cell_up hm hb1 hT
 replace e6 := e6.ext hT (by simpa using n6)
 replace e7 := e7.ext hT (by simpa using n7)
 replace hS := (hS.mono (S' := [b]) (by simp)).trans hT
 clear hT hp
 by_cases c3 : (cur l i).text = wd
 · rw [if_pos c3] at hp4 ⊢
   rw [decide_eq_true c3]
   refine W ?_
   have l6 := e6.lt
   have hX4 : ∀ c ∈ b6 :: X, c < w4.heap.size := fun c hc => by
    rcases List.mem_cons.1 hc with rfl | hc
    · exact l6
    · have := hX c hc; have := hS.size; omega
   have hsub := whole_any (b6 :: X) b tv l hL m (i + 1) o w4 hb1 (by simp [hbX]) hX4 hm hp4
   rcases hN : wholeO l (i + 1) o with ⟨a, c⟩ | ⟨x, i1, o1⟩
   · refine WL_pcallB rfl evs0 rfl (PC.falls hsub hN hS) rfl ?_
     intro wz hwz
     repeat' (first | refine WQ_then_panic ?_ | refine WQ_block_panic ?_)
     refine WQ_panic ?_
     exact PC.err hwz
   · refine WL_eff (OE_callB rfl evs0 rfl (PC.goes hsub hN)) rfl ?_
     rintro _ w5 ⟨⟨kx, rfl, hx⟩, hp5, hT⟩
     replace e6 := e6.ext hT (by simpa using n6)
     replace hS := hS.trans hT
     have hX5 : ∀ c ∈ b6 :: X, c < w5.heap.size := fun c hc => Nat.lt_of_lt_of_le (hX4 c hc) hT.size
     clear hT hp4 hX4 l6 hsub
     refine WL_eff OE_alloc rfl ?_
     rintro _ w6 ⟨b8, rfl, hb8, e8, hT⟩
     have n86 : b8 ≠ b6 := by have := e6.lt; omega
     have n8 : b8 ≠ b := by have := hp5.lt; omega
     refine WL_eff0 (OE_storeA (us := ndC x kx) rfl rfl rfl rfl (ndC_one hx) e8 rfl) ?_
     rintro _ w7 ⟨hT2, e8'⟩
     replace hT := hT.own hT2 (fun c hc => .inr (by simp at hc; omega))
     clear hT2 e8
     replace hp5 := hp5.up hT; replace e6 := e6.up hT; replace hx := hx.up hT
     replace hS := hS.trans (hT.mono (by simp))
     clear hT
     refine W ?_
     simp only [Out.bind]
     rcases hU : mustO l [59] i1 o1 with ⟨a, c⟩ | ⟨u, i2, o2⟩
     · refine WL_pcall rfl (evs2 rfl rfl) (PC.falls (mustP_any b tv l hL _ (by decide) i1 o1 _ hp5) hU hS) rfl ?_
       intro wz hwz
       repeat' (first | refine WQ_then_panic ?_ | refine WQ_block_panic ?_)
       refine WQ_panic ?_
       exact PC.err hwz
     · refine CL rfl (evs2 rfl rfl) rfl (PC.goes (mustP_any b tv l hL _ (by decide) i1 o1 _ hp5) hU) ?_
       rintro _ w8 ⟨rfl, hp6, hT⟩
       replace e6 := e6.ext hT (by simpa using n6)
       replace e8' := e8'.ext hT (by simpa using n8)
       replace hx := hx.ext (X' := b6 :: X) hT (fun c hc => by simp at hc; subst hc; simp [hbX]) (fun c hc => .inl hc)
       replace hS := hS.trans hT
       clear hT hp5
       refine W ?_
       refine WL_eff0 (OE_storeA (us := ndC x kx) rfl rfl rfl rfl (ndC_one hx) e6 rfl) ?_
       rintro _ wz ⟨hT, e6'⟩
       refine W ?_
       refine WQ_retc rfl rfl rfl e6' rfl ?_
       obtain ⟨g1, g2, g3, g4, g5⟩ := hp6
       have hSx := hS.own hT (fun c hc => by simp at hc; subst hc; exact .inr hb6w)
       refine PC.ok ⟨_, rfl, ?_⟩ ⟨g1.ext hT (by simpa using n6.symm), hs0.ext hSx (fun c hc => hc) (fun c hc => .inl hc), g3, g4, g5⟩ hSx
       exact (hx.ext (X' := b6 :: X) hT (fun c hc => by simp at hc; simp [hc]) (fun c hc => .inl hc)).wk (fun c hc => by simp [hc])
 · rw [if_neg c3] at hp4 ⊢
   rw [decide_eq_false c3]
   refine W ?_
   refine WL_eff0 (OE_storeA (us := ndC ndZero (.slice none 0 0)) rfl rfl rfl rfl (ndC_one (x := ndZero) (nilSlvN [] w)) e6 rfl) ?_
   rintro _ wz ⟨hT, e6'⟩
   refine W ?_
   refine WQ_retc rfl rfl rfl e6' rfl ?_
   obtain ⟨g1, g2, g3, g4, g5⟩ := hp4
   have hSx := hS.own hT (fun c hc => by simp at hc; subst hc; exact .inr hb6w)
   refine PC.ok ⟨_, rfl, ?_⟩ ⟨g1.ext hT (by simpa using n6.symm), hs0.ext hSx (fun c hc => hc) (fun c hc => .inl hc), g3, g4, g5⟩ hSx
   exact nilSlvN _ _
theorem buildR0 (s : Str) (w : World) : (Instr.build 38 #[(0, str s)]).run Tryz.prog w = .ok (.agg (rlC ⟨s, 0, [], ndZero, ndZero, [], []⟩ (.slice none 0 0) (.slice none 0 0)).toArray) w := by kernel_rfl
set_option maxHeartbeats 4000000 in
theorem rule_any (X : List Nat) (b : Nat) (tv : Value) (l : List Tkn) (hL : Toks l) (m : Int) (i o : Nat) (w : World) (hb1 : b ≠ 1) (hbX : b ∈ X) (hX : ∀ c ∈ X, c < w.heap.size) (hm : w.cell? ⟨1, 0, none⟩ = some (.int .i64 m)) (hp : Pd w b tv l i o) :
 Calls Tryz.prog 26 #[.pointer (some ⟨b, 0, none⟩)] w (PC b w tv l (ruleO l i o) (fun r v w' => RulV X w' v r.rul)) := by
 have hs0 := hp.2.1
 unfold ruleO
 refine calls_of_WC1 (n := 61) Tryz.func26 rfl rfl rfl ?_
 refine W ?_
 refine WL_eff OE_alloc rfl ?_
 rintro _ w1 ⟨b2, rfl, hb2, e2, hS⟩
 have n2 : b2 ≠ b := by have := hp.lt; omega
 have hb2w : w.heap.size ≤ b2 := hb2
 replace hm := hS.cell (by simp) hm
 replace hp := hp.up hS
 replace hS := hS.mono (S' := [b]) (by simp)
 refine W ?_
 rcases hU : mustO l [114, 117, 108, 101] i o with ⟨a, c⟩ | ⟨u1, i1, o1⟩
 · refine WL_pcall rfl (evs2 rfl rfl) (PC.falls (mustP_any b tv l hL [114, 117, 108, 101] (by decide) i o _ hp) hU hS) rfl ?_
   intro wz hwz
   repeat' (first | refine WQ_then_panic ?_ | refine WQ_block_panic ?_)
   refine WQ_panic ?_
   exact PC.err hwz
 refine CL rfl (evs2 rfl rfl) rfl (PC.goes (mustP_any b tv l hL [114, 117, 108, 101] (by decide) i o _ hp) hU) ?_
 rintro _ wn1 ⟨rfl, hpn, hT⟩
 replace hm := cell_up hm hb1 hT
 replace e2 := e2.ext hT (by simpa using n2)
 replace hS := hS.trans hT
 clear hT hp
 have hp := hpn
 clear hpn hU
 refine W ?_
 simp only [Out.bind]
 rcases hU : nameO l i1 o1 with ⟨a, c⟩ | ⟨u2, i2, o2⟩
 · refine WL_pcall rfl (evs1 rfl) (PC.falls (name_any b tv l hL i1 o1 m _ hm hp) hU hS) rfl ?_
   intro wz hwz
   repeat' (first | refine WQ_then_panic ?_ | refine WQ_block_panic ?_)
   refine WQ_panic ?_
   exact PC.err hwz
 refine CL rfl (evs1 rfl) rfl (PC.goes (name_any b tv l hL i1 o1 m _ hm hp) hU) ?_
 rintro _ wn2 ⟨rfl, hpn, hT⟩
 replace hm := cell_up hm hb1 hT
 replace e2 := e2.ext hT (by simpa using n2)
 replace hS := hS.trans hT
 clear hT hp
 have hp := hpn
 clear hpn hU
 apply WL_build (vs := [(0, str u2)]) rfl (buildR0 _) rfl
 refine WL_eff OE_alloc rfl ?_
 rintro _ wa ⟨b3, rfl, hb3, e3, hT⟩
 have n32 : b3 ≠ b2 := by have := e2.lt; omega
 have n3 : b3 ≠ b := by have := hp.lt; omega
 have n31 : b3 ≠ 1 := by have := block_lt_of_cell hm; simp at this; omega
 have hb3w : w.heap.size ≤ b3 := Nat.le_trans hS.size hb3
 refine WL_eff0 (OE_storeA (us := rlC ⟨u2, 0, [], ndZero, ndZero, [], []⟩ (.slice none 0 0) (.slice none 0 0)) rfl rfl rfl rfl (rlOne ⟨u2, 0, [], ndZero, ndZero, [], []⟩ (nilSlvN [] w) (nilSlvN [] w)) e3 rfl) ?_
 rintro _ wb ⟨hT2, e3'⟩
 replace hT := hT.own hT2 (fun c hc => .inr (by simp at hc; omega))
 clear hT2 e3
 have e3 := e3'
 clear e3'
 replace hp := hp.up hT; replace e2 := e2.up hT
 replace hm := hT.cell (by simp) hm
 replace hS := hS.trans (hT.mono (by simp))
 clear hT
 have hXs : ∀ c ∈ b3 :: b2 :: X, c < wb.heap.size := fun c hc => by
  rcases List.mem_cons.1 hc with rfl | hc
  · exact e3.lt
  · rcases List.mem_cons.1 hc with rfl | hc
    · exact e2.lt
    · have := hX c hc; have := hS.size; omega
 have hci : SlV (α := Nd) (b3 :: b2 :: X) wb (.slice none 0 0) ndZero.kids := nilSlvN _ _
 have hdi : SlV (α := Nd) (b3 :: b2 :: X) wb (.slice none 0 0) ndZero.kids := nilSlvN _ _
 refine W ?_
 simp only
 rcases hU : mustO l [102, 114, 111, 109] i2 o2 with ⟨a, c⟩ | ⟨u3, i3, o3⟩
 · refine WL_pcall rfl (evs2 rfl rfl) (PC.falls (mustP_any b tv l hL [102, 114, 111, 109] (by decide) i2 o2 _ hp) hU hS) rfl ?_
   intro wz hwz
   repeat' (first | refine WQ_then_panic ?_ | refine WQ_block_panic ?_)
   refine WQ_panic ?_
   exact PC.err hwz
 refine CL rfl (evs2 rfl rfl) rfl (PC.goes (mustP_any b tv l hL [102, 114, 111, 109] (by decide) i2 o2 _ hp) hU) ?_
 rintro _ wn3 ⟨rfl, hpn, hT⟩
 replace hm := cell_up hm hb1 hT
 replace e2 := e2.ext hT (by simpa using n2)
 replace e3 := e3.ext hT (by simpa using n3)
 replace hci := hci.ext (X' := b3 :: b2 :: X) hT (fun c hc => by simp at hc; subst hc; simp [hbX]) (fun c hc => .inl hc)
 replace hdi := hdi.ext (X' := b3 :: b2 :: X) hT (fun c hc => by simp at hc; subst hc; simp [hbX]) (fun c hc => .inl hc)
 replace hS := hS.trans hT
 replace hXs := fun c hc => Nat.lt_of_lt_of_le (hXs c hc) hT.size
 clear hT hp
 have hp := hpn
 clear hpn hU
 refine W ?_
 simp only
 rcases hU : tokenO l 3 i3 o3 with ⟨a, c⟩ | ⟨u4, i4, o4⟩
 · refine WL_pcall rfl (evs2 rfl rfl) (PC.falls (token_any b tv l hL 3 (by decide) i3 o3 _ hp) hU hS) rfl ?_
   intro wz hwz
   repeat' (first | refine WQ_then_panic ?_ | refine WQ_block_panic ?_)
   refine WQ_panic ?_
   exact PC.err hwz
 refine CL rfl (evs2 rfl rfl) rfl (PC.goes (token_any b tv l hL 3 (by decide) i3 o3 _ hp) hU) ?_
 rintro _ wn4 ⟨rfl, hpn, hT⟩
 replace hm := cell_up hm hb1 hT
 replace e2 := e2.ext hT (by simpa using n2)
 replace e3 := e3.ext hT (by simpa using n3)
 replace hci := hci.ext (X' := b3 :: b2 :: X) hT (fun c hc => by simp at hc; subst hc; simp [hbX]) (fun c hc => .inl hc)
 replace hdi := hdi.ext (X' := b3 :: b2 :: X) hT (fun c hc => by simp at hc; subst hc; simp [hbX]) (fun c hc => .inl hc)
 replace hS := hS.trans hT
 replace hXs := fun c hc => Nat.lt_of_lt_of_le (hXs c hc) hT.size
 clear hT hp
 have hp := hpn
 clear hpn hU
 refine WL_pure (PR_field rfl (tknNum _)) rfl ?_
 refine W ?_
 refine WL_eff0 (OE_store1 (u := .int .i64 u4.num) rfl rfl rfl rfl e3 (by simp)) ?_
 rintro _ ws4 ⟨hT, e3'⟩
 replace e3 : Blk ws4 b3 38 (rlC ⟨u2, u4.num, [], ndZero, ndZero, [], []⟩ (.slice none 0 0) (.slice none 0 0)) := e3'
 clear e3'
 replace e2 := e2.ext hT (by simpa using n32.symm)
 replace hm := hT.cell (by simpa using n31.symm) hm
 replace hS := hS.own hT (fun c hc => by simp at hc; subst hc; exact .inr hb3w)
 replace hp : Pd ws4 b tv l i4 o4 := by
  obtain ⟨g1, g2, g3, g4, g5⟩ := hp
  exact ⟨g1.ext hT (by simpa using n3.symm), hs0.ext hS (fun c hc => hc) (fun c hc => .inl hc), g3, g4, g5⟩
 replace hXs := fun c hc => Nat.lt_of_lt_of_le (hXs c hc) hT.size
 replace hci := hci.ext (X' := b3 :: b2 :: X) hT (fun c hc => by simp at hc; simp [hc]) (fun c hc => .inl hc)
 replace hdi := hdi.ext (X' := b3 :: b2 :: X) hT (fun c hc => by simp at hc; simp [hc]) (fun c hc => .inl hc)
 refine W ?_
 simp only
 rcases hU : mustO l [123] i4 o4 with ⟨a, c⟩ | ⟨u5, i5, o5⟩
 · refine WL_pcall rfl (evs2 rfl rfl) (PC.falls (mustP_any b tv l hL [123] (by decide) i4 o4 _ hp) hU hS) rfl ?_
   intro wz hwz
   repeat' (first | refine WQ_then_panic ?_ | refine WQ_block_panic ?_)
   refine WQ_panic ?_
   exact PC.err hwz
 refine CL rfl (evs2 rfl rfl) rfl (PC.goes (mustP_any b tv l hL [123] (by decide) i4 o4 _ hp) hU) ?_
 rintro _ wn5 ⟨rfl, hpn, hT⟩
 replace hm := cell_up hm hb1 hT
 replace e2 := e2.ext hT (by simpa using n2)
 replace e3 := e3.ext hT (by simpa using n3)
 replace hci := hci.ext (X' := b3 :: b2 :: X) hT (fun c hc => by simp at hc; subst hc; simp [hbX]) (fun c hc => .inl hc)
 replace hdi := hdi.ext (X' := b3 :: b2 :: X) hT (fun c hc => by simp at hc; subst hc; simp [hbX]) (fun c hc => .inl hc)
 replace hS := hS.trans hT
 replace hXs := fun c hc => Nat.lt_of_lt_of_le (hXs c hc) hT.size
 clear hT hp
 have hp := hpn
 clear hpn hU
 refine W ?_
 refine CL rfl (evs1 rfl) rfl (next_any b tv l i5 o5 _ hp) ?_
 rintro _ wx5 ⟨rfl, hT⟩
 replace hp := hp.up hT; replace e2 := e2.up hT; replace e3 := e3.up hT; replace hci := hci.up hT; replace hdi := hdi.up hT
 replace hm := hT.cell (by simp) hm
 replace hS := hS.trans (hT.mono (by simp))
 replace hXs := fun c hc => Nat.lt_of_lt_of_le (hXs c hc) hT.size
 clear hT
 simp only
 by_cases hon : (cur l i5).text = [111, 110]
 rotate_left
 · rw [if_neg hon]
   repeat' (first | refine W1 ?_ | (exfalso; omega) | (refine VG ?_ ?_ <;> intro hg) | (refine VC ?_ ?_ <;> intro hc))
   · refine WL_pcall rfl (evs2 rfl rfl) (failS b tv l i5 o5 20 _ w hp hS) rfl ?_
     intro wz hwz
     repeat' (first | refine WQ_then_panic ?_ | refine WQ_block_panic ?_)
     refine WQ_panic ?_
     exact PC.fail hwz
   all_goals exact absurd hon (by assumption)
 rw [if_pos hon]
 repeat' (first | refine W1 ?_ | (exfalso; omega) | (refine VG ?_ ?_ <;> intro hg) | (refine VC ?_ ?_ <;> intro hc))
 · exact absurd hon (by assumption)
 refine WL_pure (PR_makeFuncB1 rfl) rfl ?_
 rcases hU : partO l [111, 110] [] (nameO l) i5 o5 with ⟨a, c⟩ | ⟨u6, i6, o6⟩
 · refine WL_pcall rfl (evs3 rfl rfl rfl) (PC.falls (partS_any b tv l hL [111, 110] (by decide) m i5 o5 _ hb1 hm hp) hU hS) rfl ?_
   intro wz hwz
   repeat' (first | refine WQ_then_panic ?_ | refine WQ_block_panic ?_)
   refine WQ_panic ?_
   exact PC.err hwz
 refine CL rfl (evs3 rfl rfl rfl) rfl (PC.goes (partS_any b tv l hL [111, 110] (by decide) m i5 o5 _ hb1 hm hp) hU) ?_
 rintro _ wn6 ⟨rfl, hpn, hT⟩
 replace hm := cell_up hm hb1 hT
 replace e2 := e2.ext hT (by simpa using n2)
 replace e3 := e3.ext hT (by simpa using n3)
 replace hci := hci.ext (X' := b3 :: b2 :: X) hT (fun c hc => by simp at hc; subst hc; simp [hbX]) (fun c hc => .inl hc)
 replace hdi := hdi.ext (X' := b3 :: b2 :: X) hT (fun c hc => by simp at hc; subst hc; simp [hbX]) (fun c hc => .inl hc)
 replace hS := hS.trans hT
 replace hXs := fun c hc => Nat.lt_of_lt_of_le (hXs c hc) hT.size
 clear hT hp
 have hp := hpn
 clear hpn hU
 refine W ?_
 refine WL_eff0 (OE_store1 (u := str u6) rfl rfl rfl rfl e3 (by simp)) ?_
 rintro _ ws6 ⟨hT, e3'⟩
 replace e3 : Blk ws6 b3 38 (rlC ⟨u2, u4.num, u6, ndZero, ndZero, [], []⟩ (.slice none 0 0) (.slice none 0 0)) := e3'
 clear e3'
 replace e2 := e2.ext hT (by simpa using n32.symm)
 replace hm := hT.cell (by simpa using n31.symm) hm
 replace hS := hS.own hT (fun c hc => by simp at hc; subst hc; exact .inr hb3w)
 replace hp : Pd ws6 b tv l i6 o6 := by
  obtain ⟨g1, g2, g3, g4, g5⟩ := hp
  exact ⟨g1.ext hT (by simpa using n3.symm), hs0.ext hS (fun c hc => hc) (fun c hc => .inl hc), g3, g4, g5⟩
 replace hXs := fun c hc => Nat.lt_of_lt_of_le (hXs c hc) hT.size
 replace hci := hci.ext (X' := b3 :: b2 :: X) hT (fun c hc => by simp at hc; simp [hc]) (fun c hc => .inl hc)
 replace hdi := hdi.ext (X' := b3 :: b2 :: X) hT (fun c hc => by simp at hc; simp [hc]) (fun c hc => .inl hc)
 refine W ?_
 refine WL_pure (PR_makeFuncB1 rfl) rfl ?_
 simp only
 rcases hU : partO l [105, 102] ndZero (wholeO l) i6 o6 with ⟨a, c⟩ | ⟨u7, i7, o7⟩
 · refine WL_pcall rfl (evs3 rfl rfl rfl) (PC.falls (partN_any (b3 :: b2 :: X) b tv l hL [105, 102] (by decide) m i6 o6 _ hb1 (by simp [hbX]) hXs hm hp) hU hS) rfl ?_
   intro wz hwz
   repeat' (first | refine WQ_then_panic ?_ | refine WQ_block_panic ?_)
   refine WQ_panic ?_
   exact PC.err hwz
 refine CL rfl (evs3 rfl rfl rfl) rfl (PC.goes (partN_any (b3 :: b2 :: X) b tv l hL [105, 102] (by decide) m i6 o6 _ hb1 (by simp [hbX]) hXs hm hp) hU) ?_
 rintro _ wn7 ⟨⟨kx7, rfl, hx7⟩, hpn, hT⟩
 replace hm := cell_up hm hb1 hT
 replace e2 := e2.ext hT (by simpa using n2)
 replace e3 := e3.ext hT (by simpa using n3)
 replace hci := hci.ext (X' := b3 :: b2 :: X) hT (fun c hc => by simp at hc; subst hc; simp [hbX]) (fun c hc => .inl hc)
 replace hdi := hdi.ext (X' := b3 :: b2 :: X) hT (fun c hc => by simp at hc; subst hc; simp [hbX]) (fun c hc => .inl hc)
 replace hS := hS.trans hT
 replace hXs := fun c hc => Nat.lt_of_lt_of_le (hXs c hc) hT.size
 clear hT hp
 have hp := hpn
 clear hpn hU
 refine W ?_
 refine WL_eff0 (OE_store (us := ndC u7 kx7) rfl rfl rfl rfl (ndC_one hx7) e3 (by simp)) ?_
 rintro _ ws7 ⟨hT, e3'⟩
 replace e3 : Blk ws7 b3 38 (rlC ⟨u2, u4.num, u6, u7, ndZero, [], []⟩ kx7 (.slice none 0 0)) := e3'
 clear e3'
 replace e2 := e2.ext hT (by simpa using n32.symm)
 replace hm := hT.cell (by simpa using n31.symm) hm
 replace hS := hS.own hT (fun c hc => by simp at hc; subst hc; exact .inr hb3w)
 replace hp : Pd ws7 b tv l i7 o7 := by
  obtain ⟨g1, g2, g3, g4, g5⟩ := hp
  exact ⟨g1.ext hT (by simpa using n3.symm), hs0.ext hS (fun c hc => hc) (fun c hc => .inl hc), g3, g4, g5⟩
 replace hXs := fun c hc => Nat.lt_of_lt_of_le (hXs c hc) hT.size
 replace hx7 := hx7.ext (X' := b3 :: b2 :: X) hT (fun c hc => by simp at hc; simp [hc]) (fun c hc => .inl hc)
 replace hdi := hdi.ext (X' := b3 :: b2 :: X) hT (fun c hc => by simp at hc; simp [hc]) (fun c hc => .inl hc)
 clear hT hci
 refine W ?_
 refine WC_cutQ (σ := Value) (fun _ => [(0, .pointer (some ⟨b, 0, none⟩)), (2, .pointer (some ⟨b2, 0, none⟩)), (3, .pointer (some ⟨b3, 0, none⟩))])
  (fun q w' => Blk w' b3 38 (rlC ⟨u2, u4.num, u6, if u7.kind = 0 then .mk 2 1 [] [] else u7, ndZero, [], []⟩ q (.slice none 0 0)) ∧ SlV (b3 :: b2 :: X) w' q (if u7.kind = 0 then Nd.mk 2 1 [] [] else u7).kids ∧ Stp [b3] ws7 w') ?_ ?_
 · by_cases k0 : u7.kind = 0
   · rw [if_pos k0]
     repeat' (first | refine W1 ?_ | (exfalso; omega) | (refine VG ?_ ?_ <;> intro hg) | (refine VC ?_ ?_ <;> intro hc))
     all_goals try exact absurd k0 (by assumption)
     apply WL_build (vs := [(0, .int .i64 2), (1, .int .i64 1)]) rfl (buildK1 _ _) rfl
     refine W ?_
     refine WL_eff0 (OE_store (us := ndC (.mk 2 1 [] []) (.slice none 0 0)) rfl rfl rfl rfl (ndC_one (x := .mk 2 1 [] []) (nilSlvN [] w)) e3 (by simp)) ?_
     rintro _ wy ⟨hT, e3'⟩
     refine W ?_
     exact WQ_cut (.slice none 0 0) ⟨rfl, rfl, rfl, trivial⟩ ⟨e3', nilSlvN _ _, hT⟩
   · rw [if_neg k0]
     repeat' (first | refine W1 ?_ | (exfalso; omega) | (refine VG ?_ ?_ <;> intro hg) | (refine VC ?_ ?_ <;> intro hc))
     all_goals try exact absurd (by assumption) k0
     exact WQ_cut kx7 ⟨rfl, rfl, rfl, trivial⟩ ⟨e3, hx7, Stp.refl _ _⟩
 clear e3 hx7
 generalize hcnd : (if u7.kind = 0 then Nd.mk 2 1 [] [] else u7) = cnd
 rintro ki ws7 ⟨e3, hci, hT⟩
 replace e2 := e2.ext hT (by simpa using n32.symm)
 replace hm := hT.cell (by simpa using n31.symm) hm
 replace hS := hS.own hT (fun c hc => by simp at hc; subst hc; exact .inr hb3w)
 replace hp : Pd ws7 b tv l i7 o7 := by
  obtain ⟨g1, g2, g3, g4, g5⟩ := hp
  exact ⟨g1.ext hT (by simpa using n3.symm), hs0.ext hS (fun c hc => hc) (fun c hc => .inl hc), g3, g4, g5⟩
 replace hXs := fun c hc => Nat.lt_of_lt_of_le (hXs c hc) hT.size
 replace hdi := hdi.ext (X' := b3 :: b2 :: X) hT (fun c hc => by simp at hc; simp [hc]) (fun c hc => .inl hc)
 clear hT
 refine W ?_
 refine CL rfl (evs1 rfl) rfl (next_any b tv l i7 o7 _ hp) ?_
 rintro _ wx7 ⟨rfl, hT⟩
 replace hp := hp.up hT; replace e2 := e2.up hT; replace e3 := e3.up hT; replace hci := hci.up hT; replace hdi := hdi.up hT
 replace hm := hT.cell (by simp) hm
 replace hS := hS.trans (hT.mono (by simp))
 replace hXs := fun c hc => Nat.lt_of_lt_of_le (hXs c hc) hT.size
 clear hT
 simp only
 by_cases hdue : (cur l i7).text = [100, 117, 101]
 rotate_left
 · rw [if_neg hdue]
   repeat' (first | refine W1 ?_ | (exfalso; omega) | (refine VG ?_ ?_ <;> intro hg) | (refine VC ?_ ?_ <;> intro hc))
   · refine WL_pcall rfl (evs2 rfl rfl) (failS b tv l i7 o7 20 _ w hp hS) rfl ?_
     intro wz hwz
     repeat' (first | refine WQ_then_panic ?_ | refine WQ_block_panic ?_)
     refine WQ_panic ?_
     exact PC.fail hwz
   all_goals exact absurd hdue (by assumption)
 rw [if_pos hdue]
 repeat' (first | refine W1 ?_ | (exfalso; omega) | (refine VG ?_ ?_ <;> intro hg) | (refine VC ?_ ?_ <;> intro hc))
 · exact absurd hdue (by assumption)
 refine WL_pure (PR_makeFuncB1 rfl) rfl ?_
 rcases hU : partO l [100, 117, 101] ndZero (wholeO l) i7 o7 with ⟨a, c⟩ | ⟨u8, i8, o8⟩
 · refine WL_pcall rfl (evs3 rfl rfl rfl) (PC.falls (partN_any (b3 :: b2 :: X) b tv l hL [100, 117, 101] (by decide) m i7 o7 _ hb1 (by simp [hbX]) hXs hm hp) hU hS) rfl ?_
   intro wz hwz
   repeat' (first | refine WQ_then_panic ?_ | refine WQ_block_panic ?_)
   refine WQ_panic ?_
   exact PC.err hwz
 refine CL rfl (evs3 rfl rfl rfl) rfl (PC.goes (partN_any (b3 :: b2 :: X) b tv l hL [100, 117, 101] (by decide) m i7 o7 _ hb1 (by simp [hbX]) hXs hm hp) hU) ?_
 rintro _ wn8 ⟨⟨kx8, rfl, hx8⟩, hpn, hT⟩
 replace hm := cell_up hm hb1 hT
 replace e2 := e2.ext hT (by simpa using n2)
 replace e3 := e3.ext hT (by simpa using n3)
 replace hci := hci.ext (X' := b3 :: b2 :: X) hT (fun c hc => by simp at hc; subst hc; simp [hbX]) (fun c hc => .inl hc)
 replace hdi := hdi.ext (X' := b3 :: b2 :: X) hT (fun c hc => by simp at hc; subst hc; simp [hbX]) (fun c hc => .inl hc)
 replace hS := hS.trans hT
 replace hXs := fun c hc => Nat.lt_of_lt_of_le (hXs c hc) hT.size
 clear hT hp
 have hp := hpn
 clear hpn hU
 refine W ?_
 refine WL_eff0 (OE_store (us := ndC u8 kx8) rfl rfl rfl rfl (ndC_one hx8) e3 (by simp)) ?_
 rintro _ ws8 ⟨hT, e3'⟩
 replace e3 : Blk ws8 b3 38 (rlC ⟨u2, u4.num, u6, cnd, u8, [], []⟩ ki kx8) := e3'
 clear e3'
 replace e2 := e2.ext hT (by simpa using n32.symm)
 replace hm := hT.cell (by simpa using n31.symm) hm
 replace hS := hS.own hT (fun c hc => by simp at hc; subst hc; exact .inr hb3w)
 replace hp : Pd ws8 b tv l i8 o8 := by
  obtain ⟨g1, g2, g3, g4, g5⟩ := hp
  exact ⟨g1.ext hT (by simpa using n3.symm), hs0.ext hS (fun c hc => hc) (fun c hc => .inl hc), g3, g4, g5⟩
 replace hXs := fun c hc => Nat.lt_of_lt_of_le (hXs c hc) hT.size
 clear hdi
 have hdi := hx8.ext (X' := b3 :: b2 :: X) hT (fun c hc => by simp at hc; simp [hc]) (fun c hc => .inl hc)
 replace hci := hci.ext (X' := b3 :: b2 :: X) hT (fun c hc => by simp at hc; simp [hc]) (fun c hc => .inl hc)
 clear hT hx8
 refine W ?_
 refine WL_pure (PR_makeFuncB1 rfl) rfl ?_
 simp only
 rcases hU : partO l [117, 110, 108, 101, 115, 115] [] (nameO l) i8 o8 with ⟨a, c⟩ | ⟨u9, i9, o9⟩
 · refine WL_pcall rfl (evs3 rfl rfl rfl) (PC.falls (partS_any b tv l hL [117, 110, 108, 101, 115, 115] (by decide) m i8 o8 _ hb1 hm hp) hU hS) rfl ?_
   intro wz hwz
   repeat' (first | refine WQ_then_panic ?_ | refine WQ_block_panic ?_)
   refine WQ_panic ?_
   exact PC.err hwz
 refine CL rfl (evs3 rfl rfl rfl) rfl (PC.goes (partS_any b tv l hL [117, 110, 108, 101, 115, 115] (by decide) m i8 o8 _ hb1 hm hp) hU) ?_
 rintro _ wn9 ⟨rfl, hpn, hT⟩
 replace hm := cell_up hm hb1 hT
 replace e2 := e2.ext hT (by simpa using n2)
 replace e3 := e3.ext hT (by simpa using n3)
 replace hci := hci.ext (X' := b3 :: b2 :: X) hT (fun c hc => by simp at hc; subst hc; simp [hbX]) (fun c hc => .inl hc)
 replace hdi := hdi.ext (X' := b3 :: b2 :: X) hT (fun c hc => by simp at hc; subst hc; simp [hbX]) (fun c hc => .inl hc)
 replace hS := hS.trans hT
 replace hXs := fun c hc => Nat.lt_of_lt_of_le (hXs c hc) hT.size
 clear hT hp
 have hp := hpn
 clear hpn hU
 refine W ?_
 refine WL_eff0 (OE_store1 (u := str u9) rfl rfl rfl rfl e3 (by simp)) ?_
 rintro _ ws9 ⟨hT, e3'⟩
 replace e3 : Blk ws9 b3 38 (rlC ⟨u2, u4.num, u6, cnd, u8, u9, []⟩ ki kx8) := e3'
 clear e3'
 replace e2 := e2.ext hT (by simpa using n32.symm)
 replace hm := hT.cell (by simpa using n31.symm) hm
 replace hS := hS.own hT (fun c hc => by simp at hc; subst hc; exact .inr hb3w)
 replace hp : Pd ws9 b tv l i9 o9 := by
  obtain ⟨g1, g2, g3, g4, g5⟩ := hp
  exact ⟨g1.ext hT (by simpa using n3.symm), hs0.ext hS (fun c hc => hc) (fun c hc => .inl hc), g3, g4, g5⟩
 replace hXs := fun c hc => Nat.lt_of_lt_of_le (hXs c hc) hT.size
 replace hci := hci.ext (X' := b3 :: b2 :: X) hT (fun c hc => by simp at hc; simp [hc]) (fun c hc => .inl hc)
 replace hdi := hdi.ext (X' := b3 :: b2 :: X) hT (fun c hc => by simp at hc; simp [hc]) (fun c hc => .inl hc)
 refine W ?_
 refine WL_pure (PR_makeFuncB1 rfl) rfl ?_
 simp only
 rcases hU : partO l [101, 108, 115, 101] [] (nameO l) i9 o9 with ⟨a, c⟩ | ⟨u10, i10, o10⟩
 · refine WL_pcall rfl (evs3 rfl rfl rfl) (PC.falls (partS_any b tv l hL [101, 108, 115, 101] (by decide) m i9 o9 _ hb1 hm hp) hU hS) rfl ?_
   intro wz hwz
   repeat' (first | refine WQ_then_panic ?_ | refine WQ_block_panic ?_)
   refine WQ_panic ?_
   exact PC.err hwz
 refine CL rfl (evs3 rfl rfl rfl) rfl (PC.goes (partS_any b tv l hL [101, 108, 115, 101] (by decide) m i9 o9 _ hb1 hm hp) hU) ?_
 rintro _ wn10 ⟨rfl, hpn, hT⟩
 replace hm := cell_up hm hb1 hT
 replace e2 := e2.ext hT (by simpa using n2)
 replace e3 := e3.ext hT (by simpa using n3)
 replace hci := hci.ext (X' := b3 :: b2 :: X) hT (fun c hc => by simp at hc; subst hc; simp [hbX]) (fun c hc => .inl hc)
 replace hdi := hdi.ext (X' := b3 :: b2 :: X) hT (fun c hc => by simp at hc; subst hc; simp [hbX]) (fun c hc => .inl hc)
 replace hS := hS.trans hT
 replace hXs := fun c hc => Nat.lt_of_lt_of_le (hXs c hc) hT.size
 clear hT hp
 have hp := hpn
 clear hpn hU
 refine W ?_
 refine WL_eff0 (OE_store1 (u := str u10) rfl rfl rfl rfl e3 (by simp)) ?_
 rintro _ ws10 ⟨hT, e3'⟩
 replace e3 : Blk ws10 b3 38 (rlC ⟨u2, u4.num, u6, cnd, u8, u9, u10⟩ ki kx8) := e3'
 clear e3'
 replace e2 := e2.ext hT (by simpa using n32.symm)
 replace hm := hT.cell (by simpa using n31.symm) hm
 replace hS := hS.own hT (fun c hc => by simp at hc; subst hc; exact .inr hb3w)
 replace hp : Pd ws10 b tv l i10 o10 := by
  obtain ⟨g1, g2, g3, g4, g5⟩ := hp
  exact ⟨g1.ext hT (by simpa using n3.symm), hs0.ext hS (fun c hc => hc) (fun c hc => .inl hc), g3, g4, g5⟩
 replace hXs := fun c hc => Nat.lt_of_lt_of_le (hXs c hc) hT.size
 replace hci := hci.ext (X' := b3 :: b2 :: X) hT (fun c hc => by simp at hc; simp [hc]) (fun c hc => .inl hc)
 replace hdi := hdi.ext (X' := b3 :: b2 :: X) hT (fun c hc => by simp at hc; simp [hc]) (fun c hc => .inl hc)
 refine W ?_
 simp only
 rcases hU : mustO l [125] i10 o10 with ⟨a, c⟩ | ⟨u11, i11, o11⟩
 · refine WL_pcall rfl (evs2 rfl rfl) (PC.falls (mustP_any b tv l hL [125] (by decide) i10 o10 _ hp) hU hS) rfl ?_
   intro wz hwz
   repeat' (first | refine WQ_then_panic ?_ | refine WQ_block_panic ?_)
   refine WQ_panic ?_
   exact PC.err hwz
 refine CL rfl (evs2 rfl rfl) rfl (PC.goes (mustP_any b tv l hL [125] (by decide) i10 o10 _ hp) hU) ?_
 rintro _ wn11 ⟨rfl, hpn, hT⟩
 replace hm := cell_up hm hb1 hT
 replace e2 := e2.ext hT (by simpa using n2)
 replace e3 := e3.ext hT (by simpa using n3)
 replace hci := hci.ext (X' := b3 :: b2 :: X) hT (fun c hc => by simp at hc; subst hc; simp [hbX]) (fun c hc => .inl hc)
 replace hdi := hdi.ext (X' := b3 :: b2 :: X) hT (fun c hc => by simp at hc; subst hc; simp [hbX]) (fun c hc => .inl hc)
 replace hS := hS.trans hT
 replace hXs := fun c hc => Nat.lt_of_lt_of_le (hXs c hc) hT.size
 clear hT hp
 have hp := hpn
 clear hpn hU
 refine W ?_
 simp only
 refine WL_eff0 (OE_storeA (us := rlC ⟨u2, u4.num, u6, cnd, u8, u9, u10⟩ ki kx8) rfl rfl rfl rfl (rlOne ⟨u2, u4.num, u6, cnd, u8, u9, u10⟩ hci hdi) e2 rfl) ?_
 rintro _ wz ⟨hT, e2'⟩
 refine W ?_
 rw [hcnd]
 refine WQ_retc rfl rfl rfl e2' rfl ?_
 obtain ⟨g1, g2, g3, g4, g5⟩ := hp
 have hSx := hS.own hT (fun c hc => by simp at hc; subst hc; exact .inr hb2w)
 refine PC.ok ⟨ki, kx8, rfl, ?_, ?_⟩ ⟨g1.ext hT (by simpa using n2.symm), hs0.ext hSx (fun c hc => hc) (fun c hc => .inl hc), g3, g4, g5⟩ hSx
 · exact (hci.ext (X' := b3 :: b2 :: X) hT (fun c hc => by simp at hc; simp [hc]) (fun c hc => .inl hc)).wk (fun c hc => by simp [hc])
 · exact (hdi.ext (X' := b3 :: b2 :: X) hT (fun c hc => by simp at hc; simp [hc]) (fun c hc => .inl hc)).wk (fun c hc => by simp [hc])
abbrev nil4 : Nd := .mk 0 0 [] []
abbrev nilS : Value := .slice none 0 0
theorem rlC_one (r : Rul) {X Y : List Nat} {w w' : World} {ki kd : Value} (h1 : SlV X w ki r.cnd.kids) (h2 : SlV Y w' kd r.due.kids) : ∀ c ∈ rlC r ki kd, c.oneCell' = true := by
 intro c hc
 have e1 := h1.one
 have e2 := h2.one
 simp only [rlC, List.mem_cons, List.not_mem_nil, or_false] at hc
 rcases hc with rfl | rfl | rfl | rfl | rfl | rfl | rfl | rfl | rfl | rfl | rfl | rfl | rfl <;> first | rfl | exact e1 | exact e2
end Go.Proofs.YtgpibcgebpgmiaaGreatDoor
namespace Go.Eng
open Go Go.RowKit Go.Proofs
theorem manyO_mono {m m' : Nat → Nat → Option (Out Nd)} {sep : Nat → Nat → Nat → Out Unit} (hm : ∀ i o r, m i o = some r → m' i o = some r) :
 ∀ (n k : Nat) (ks : List Nd) (i o : Nat) (r : Out (List Nd)), manyO m sep n k ks i o = some r → manyO m' sep n k ks i o = some r
 | 0, k, ks, i, o, r, h => by simpa [manyO] using h
 | n + 1, k, ks, i, o, r, h => by
   simp only [manyO] at h ⊢
   cases h1 : sep k i o with
   | err a c => rw [h1] at h; exact h
   | ok u i1 o1 =>
     rw [h1] at h
     simp only at h ⊢
     cases h2 : m i1 o1 with
     | none => rw [h2] at h; simp at h
     | some r2 =>
       rw [h2] at h
       rw [hm _ _ _ h2]
       cases r2 with
       | err a c => exact h
       | ok x i2 o2 => exact manyO_mono hm n _ _ _ _ _ h
theorem exprO_mono (l : List Tkn) : ∀ (f : Nat) (c : Call) (i o : Nat) (r : Out Nd), exprO l f c i o = some r → exprO l (f + 1) c i o = some r
 | 0, c, i, o, r, h => by simp [exprO] at h
 | f + 1, .expr k, i, o, r, h => by
   have ih := exprO_mono l f
   rw [exprO] at h ⊢
   split at h
   · rename_i hsp
     rw [if_pos hsp]
     cases h1 : opensO l (cur l i).text i o with
     | err a c => rw [h1] at h; exact h
     | ok u i1 o1 =>
       rw [h1] at h
       simp only at h ⊢
       cases h2 : exprO l f (.expr k) i1 o1 with
       | none => rw [h2] at h; simp at h
       | some r2 => rw [h2] at h; rw [ih _ _ _ _ h2]; exact h
   · rename_i hsp
     rw [if_neg hsp]
     split at h
     · rename_i h8; rw [if_pos h8]; exact ih _ _ _ _ h
     · rename_i h8
       rw [if_neg h8]
       cases h2 : exprO l f (.expr (k + 1)) i o with
       | none => rw [h2] at h; simp at h
       | some r2 =>
         rw [h2] at h
         rw [ih _ _ _ _ h2]
         cases r2 with
         | err a c => exact h
         | ok x i2 o2 => exact ih _ _ _ _ h
 | f + 1, .loop k y, i, o, r, h => by
   have ih := exprO_mono l f
   rw [exprO] at h ⊢
   split at h
   · rename_i hk
     rw [if_pos hk]
     cases h2 : exprO l f (.expr (k + 1)) (i + 1) o with
     | none => rw [h2] at h; simp at h
     | some r2 =>
       rw [h2] at h
       rw [ih _ _ _ _ h2]
       cases r2 with
       | err a c => exact h
       | ok x i2 o2 =>
         simp only at h ⊢
         split at h
         · rename_i h5; rw [if_pos h5]; exact ih _ _ _ _ h
         · rename_i h5
           rw [if_neg h5]
           split at h
           · rename_i h4; rw [if_pos h4]; exact h
           · rename_i h4; rw [if_neg h4]; exact ih _ _ _ _ h
   · rename_i hk; rw [if_neg hk]; exact h
 | f + 1, .prim, i, o, r, h => by
   have ih := exprO_mono l f
   have hE : ∀ i o r, exprO l f (.expr 1) i o = some r → exprO l (f + 1) (.expr 1) i o = some r := fun i o r h => ih _ _ _ _ h
   rw [exprO] at h ⊢
   split at h
   · rename_i hc; rw [if_pos hc]; exact h
   rename_i hc; rw [if_neg hc]; clear hc
   split at h
   · rename_i hc; rw [if_pos hc]; exact h
   rename_i hc; rw [if_neg hc]; clear hc
   split at h
   · rename_i hc; rw [if_pos hc]; exact h
   rename_i hc; rw [if_neg hc]; clear hc
   split at h
   · rename_i hc; rw [if_pos hc]; exact h
   rename_i hc; rw [if_neg hc]; clear hc
   split at h
   · rename_i hc
     rw [if_pos hc]
     cases h1 : opensO l [40] i o with
     | err a c => rw [h1] at h; exact h
     | ok u i1 o1 =>
       rw [h1] at h
       simp only at h ⊢
       cases h2 : exprO l f (.expr 1) i1 o1 with
       | none => rw [h2] at h; simp at h
       | some r2 => rw [h2] at h; rw [hE _ _ _ h2]; exact h
   rename_i hc; rw [if_neg hc]; clear hc
   split at h
   · rename_i hc
     rw [if_pos hc]
     cases h1 : opensO l [105, 102] i o with
     | err a c => rw [h1] at h; exact h
     | ok u i1 o1 =>
       rw [h1] at h
       simp only at h ⊢
       cases h2 : exprO l f (.expr 1) i1 o1 with
       | none => rw [h2] at h; simp at h
       | some r2 =>
         rw [h2] at h
         rw [hE _ _ _ h2]
         cases r2 with
         | err a c => exact h
         | ok x i2 o2 =>
           simp only at h ⊢
           cases h3 : manyO (exprO l f (.expr 1)) (thenO l) 2 0 [x] i2 o2 with
           | none => rw [h3] at h; simp at h
           | some r3 => rw [h3] at h; rw [manyO_mono hE _ _ _ _ _ _ h3]; exact h
   rename_i hc; rw [if_neg hc]; clear hc
   split at h
   · rename_i hc
     rw [if_pos hc]
     cases h1 : tokenO l 1 i o with
     | err a c => rw [h1] at h; exact h
     | ok u i1 o1 =>
       rw [h1] at h
       simp only at h ⊢
       cases h2 : opensO l [40] i1 o1 with
       | err a c => rw [h2] at h; exact h
       | ok u2 i2 o2 =>
         rw [h2] at h
         simp only at h ⊢
         cases h3 : manyO (exprO l f (.expr 1)) (commaO l) (argsO (cur l i).text) 0 [] i2 o2 with
         | none => rw [h3] at h; simp at h
         | some r3 => rw [h3] at h; rw [manyO_mono hE _ _ _ _ _ _ h3]; exact h
   rename_i hc; rw [if_neg hc]; clear hc
   split at h
   · rename_i hc; rw [if_pos hc]; exact h
   rename_i hc; rw [if_neg hc]; exact h
theorem exprO_le_mono (l : List Tkn) {f f' : Nat} (h : f ≤ f') {c : Call} {i o : Nat} {r : Out Nd} (he : exprO l f c i o = some r) : exprO l f' c i o = some r := by
 induction h with
 | refl => exact he
 | step _ ih => exact exprO_mono l _ _ _ _ _ ih
def Ev (l : List Tkn) (c : Call) (i o : Nat) (r : Out Nd) : Prop := ∃ f, exprO l f c i o = some r
theorem Ev.whole {l : List Tkn} {i o : Nat} {r : Out Nd} (h : Ev l (.expr 1) i o r) : wholeO l i o = r := by
 obtain ⟨f, h⟩ := h
 have h2 := wholeO_eq l i o
 have h3 := exprO_le_mono l (Nat.le_max_left f (fuelO l i)) h
 have h4 := exprO_le_mono l (Nat.le_max_right f (fuelO l i)) h2
 rw [h3] at h4
 exact (Option.some.inj h4).symm
section
variable {l : List Tkn} {i o i' o' k : Nat} {x y : Nd} {r : Out Nd}
theorem Ev.lvl (hk : k ≠ 8) (hns : ¬ ((k = 3 ∧ (cur l i).text = [110, 111, 116]) ∨ (k = 7 ∧ (cur l i).text = [45]))) (h1 : Ev l (.expr (k + 1)) i o (.ok x i' o')) (h2 : Ev l (.loop k x) i' o' r) : Ev l (.expr k) i o r := by
 obtain ⟨f1, h1⟩ := h1
 obtain ⟨f2, h2⟩ := h2
 refine ⟨max f1 f2 + 1, ?_⟩
 rw [exprO, if_neg hns, if_neg hk, exprO_le_mono l (Nat.le_max_left f1 f2) h1]
 exact exprO_le_mono l (Nat.le_max_right f1 f2) h2
theorem Ev.stop (h : levelO (cur l i).text ≠ k) : Ev l (.loop k x) i o (.ok x i o) := ⟨1, by rw [exprO, if_neg h]⟩
theorem Ev.bin (h : levelO (cur l i).text = k) (h1 : Ev l (.expr (k + 1)) (i + 1) o (.ok y i' o')) (h4 : k ≠ 4) (hu : ¬ (k = 5 ∧ (cur l i').text ∈ unitW))
 (h2 : Ev l (.loop k (.mk 6 0 (cur l i).text [x, y])) i' o' r) : Ev l (.loop k x) i o r := by
 obtain ⟨f1, h1⟩ := h1
 obtain ⟨f2, h2⟩ := h2
 refine ⟨max f1 f2 + 1, ?_⟩
 rw [exprO, if_pos h, exprO_le_mono l (Nat.le_max_left f1 f2) h1]
 simp only
 rw [if_neg hu, if_neg h4]
 exact exprO_le_mono l (Nat.le_max_right f1 f2) h2
theorem Ev.cmp (h : levelO (cur l i).text = 4) (h1 : Ev l (.expr 5) (i + 1) o (.ok y i' o')) : Ev l (.loop 4 x) i o (.ok (.mk 6 0 (cur l i).text [x, y]) i' o') := by
 obtain ⟨f1, h1⟩ := h1
 refine ⟨f1 + 1, ?_⟩
 rw [exprO, if_pos h, h1]
 simp
theorem Ev.unit (h : levelO (cur l i).text = 5) (h1 : Ev l (.expr 6) (i + 1) o (.ok y i' o')) (hu : (cur l i').text ∈ unitW)
 (h2 : Ev l (.loop 5 (.mk (if (cur l i).text = [45] then 8 else 7) 0 (cur l i').text [x, y])) (i' + 1) o' r) : Ev l (.loop 5 x) i o r := by
 obtain ⟨f1, h1⟩ := h1
 obtain ⟨f2, h2⟩ := h2
 refine ⟨max f1 f2 + 1, ?_⟩
 rw [exprO, if_pos h, exprO_le_mono l (Nat.le_max_left f1 f2) h1]
 simp only
 rw [if_pos ⟨trivial, hu⟩]
 exact exprO_le_mono l (Nat.le_max_right f1 f2) h2
theorem Ev.un (hsp : (k = 3 ∧ (cur l i).text = [110, 111, 116]) ∨ (k = 7 ∧ (cur l i).text = [45])) (ho : o < 12) (h1 : Ev l (.expr k) (i + 1) (o + 1) (.ok x i' o')) : Ev l (.expr k) i o (.ok (.mk 5 0 (cur l i).text [x]) i' (o' - 1)) := by
 obtain ⟨f1, h1⟩ := h1
 refine ⟨f1 + 1, ?_⟩
 rw [exprO, if_pos hsp]
 unfold opensO
 rw [if_pos rfl, if_neg (by omega)]
 simp only
 rw [h1]
theorem Ev.p8 (h : Ev l .prim i o r) : Ev l (.expr 8) i o r := by
 obtain ⟨f, h⟩ := h
 refine ⟨f + 1, ?_⟩
 rw [exprO, if_neg (by simp), if_pos rfl]
 exact h
theorem Ev.num (h : (cur l i).kind = 2) : Ev l .prim i o (.ok (.mk 1 (cur l i).num [] []) (i + 1) o) := ⟨1, by rw [exprO]; (try simp only); rw [if_pos h]⟩
theorem Ev.day (h : (cur l i).kind = 3) : Ev l .prim i o (.ok (.mk 3 (cur l i).num [] []) (i + 1) o) := ⟨1, by rw [exprO]; (try simp only); rw [if_neg (by omega), if_pos h]⟩
def plainK (l : List Tkn) (i : Nat) : Prop := (cur l i).kind ≠ 2 ∧ (cur l i).kind ≠ 3
theorem Ev.true (h0 : plainK l i) (h : (cur l i).text = [116, 114, 117, 101]) : Ev l .prim i o (.ok (.mk 2 1 [] []) (i + 1) o) := ⟨1, by rw [exprO]; (try simp only); rw [if_neg h0.1, if_neg h0.2, if_pos h]⟩
theorem Ev.false (h0 : plainK l i) (h : (cur l i).text = [102, 97, 108, 115, 101]) : Ev l .prim i o (.ok (.mk 2 0 [] []) (i + 1) o) := ⟨1, by rw [exprO]; (try simp only); rw [if_neg h0.1, if_neg h0.2, if_neg (by rw [h]; decide), if_pos h]⟩
theorem Ev.field (h0 : plainK l i) (h : (cur l i).text ∈ fieldW) : Ev l .prim i o (.ok (.mk 4 0 (cur l i).text []) (i + 1) o) := by
 have hne : ∀ s : Str, s ∉ fieldW → (cur l i).text ≠ s := fun s hs e => hs (e ▸ h)
 have hf : (cur l i).text ∉ funcW := fun hf => by
  have : ∀ s ∈ fieldW, s ∉ funcW := by decide
  exact this _ h hf
 exact ⟨1, by rw [exprO]; (try simp only); rw [if_neg h0.1, if_neg h0.2, if_neg (hne _ (by decide)), if_neg (hne _ (by decide)), if_neg (hne _ (by decide)), if_neg (hne _ (by decide)), if_neg hf, if_pos h]⟩
theorem Ev.par (h0 : plainK l i) (h : (cur l i).text = [40]) (ho : o < 12) (h1 : Ev l (.expr 1) (i + 1) (o + 1) (.ok x i' o')) (h2 : (cur l i').text = [41]) : Ev l .prim i o (.ok x (i' + 1) (o' - 1)) := by
 obtain ⟨f, h1⟩ := h1
 refine ⟨f + 1, ?_⟩
 rw [exprO]
 try simp only
 rw [if_neg h0.1, if_neg h0.2, if_neg (by rw [h]; decide), if_neg (by rw [h]; decide), if_pos h]
 unfold opensO
 rw [if_pos h, if_neg (by omega)]
 simp only
 rw [h1]
 simp only [closesO, mustO]
 rw [if_pos h2]
 rfl
theorem Ev.cond {x1 x2 x3 : Nd} {i1 i2 i3 o1 o2 o3 : Nat} (h0 : plainK l i) (h : (cur l i).text = [105, 102]) (ho : o < 12) (h1 : Ev l (.expr 1) (i + 1) (o + 1) (.ok x1 i1 o1)) (ht : (cur l i1).text = [116, 104, 101, 110])
 (h2 : Ev l (.expr 1) (i1 + 1) o1 (.ok x2 i2 o2)) (hs : (cur l i2).text = [101, 108, 115, 101]) (h3 : Ev l (.expr 1) (i2 + 1) o2 (.ok x3 i3 o3)) (he : (cur l i3).text = [101, 110, 100]) : Ev l .prim i o (.ok (.mk 9 0 [] [x1, x2, x3]) (i3 + 1) (o3 - 1)) := by
 obtain ⟨f1, h1⟩ := h1
 obtain ⟨f2, h2⟩ := h2
 obtain ⟨f3, h3⟩ := h3
 refine ⟨max f1 (max f2 f3) + 1, ?_⟩
 have g1 := exprO_le_mono l (Nat.le_max_left f1 (max f2 f3)) h1
 have g2 := exprO_le_mono l (Nat.le_trans (Nat.le_max_left f2 f3) (Nat.le_max_right f1 (max f2 f3))) h2
 have g3 := exprO_le_mono l (Nat.le_trans (Nat.le_max_right f2 f3) (Nat.le_max_right f1 (max f2 f3))) h3
 rw [exprO]
 try simp only
 rw [if_neg h0.1, if_neg h0.2, if_neg (by rw [h]; decide), if_neg (by rw [h]; decide), if_neg (by rw [h]; decide), if_pos h]
 unfold opensO
 rw [if_pos h, if_neg (by omega)]
 simp only
 rw [g1]
 simp only [manyO, thenO, mustO]
 simp only [ht, if_true, g2]
 simp [hs, g3, closesO, mustO, he, Out.bind]
theorem Ev.call1 {x1 : Nd} {i1 o1 : Nat} (h0 : (cur l i).kind = 1) (h : (cur l i).text ∈ funcW) (ha : argsO (cur l i).text = 1) (hp : (cur l (i + 1)).text = [40]) (ho : o < 12) (h1 : Ev l (.expr 1) (i + 2) (o + 1) (.ok x1 i1 o1))
 (he : (cur l i1).text = [41]) : Ev l .prim i o (.ok (.mk 10 0 (cur l i).text [x1]) (i1 + 1) (o1 - 1)) := by
 have hne : ∀ s : Str, s ∉ funcW → (cur l i).text ≠ s := fun s hs e => hs (e ▸ h)
 obtain ⟨f1, h1⟩ := h1
 refine ⟨f1 + 1, ?_⟩
 rw [exprO]
 try simp only
 rw [if_neg (by omega), if_neg (by omega), if_neg (hne _ (by decide)), if_neg (hne _ (by decide)), if_neg (hne _ (by decide)), if_neg (hne _ (by decide)), if_pos h]
 unfold tokenO
 rw [if_pos h0]
 simp only
 unfold opensO
 rw [if_pos hp, if_neg (by omega)]
 simp only [ha, manyO, commaO, Nat.lt_irrefl, if_false]
 rw [h1]
 simp [closesO, mustO, he, Out.bind]
theorem Ev.call2 {x1 x2 : Nd} {i1 o1 i2 o2 : Nat} (h0 : (cur l i).kind = 1) (h : (cur l i).text ∈ funcW) (ha : argsO (cur l i).text = 2) (hp : (cur l (i + 1)).text = [40]) (ho : o < 12) (h1 : Ev l (.expr 1) (i + 2) (o + 1) (.ok x1 i1 o1))
 (hc : (cur l i1).text = [44]) (h2 : Ev l (.expr 1) (i1 + 1) o1 (.ok x2 i2 o2)) (he : (cur l i2).text = [41]) : Ev l .prim i o (.ok (.mk 10 0 (cur l i).text [x1, x2]) (i2 + 1) (o2 - 1)) := by
 have hne : ∀ s : Str, s ∉ funcW → (cur l i).text ≠ s := fun s hs e => hs (e ▸ h)
 obtain ⟨f1, h1⟩ := h1
 obtain ⟨f2, h2⟩ := h2
 refine ⟨max f1 f2 + 1, ?_⟩
 have g1 := exprO_le_mono l (Nat.le_max_left f1 f2) h1
 have g2 := exprO_le_mono l (Nat.le_max_right f1 f2) h2
 rw [exprO]
 try simp only
 rw [if_neg (by omega), if_neg (by omega), if_neg (hne _ (by decide)), if_neg (hne _ (by decide)), if_neg (hne _ (by decide)), if_neg (hne _ (by decide)), if_pos h]
 unfold tokenO
 rw [if_pos h0]
 simp only
 unfold opensO
 rw [if_pos hp, if_neg (by omega)]
 simp only [ha, manyO, commaO, Nat.lt_irrefl, if_false]
 rw [g1]
 simp [mustO, hc, g2, closesO, he, Out.bind]
end
abbrev T3 := Int × Str × Int
def of3 (t : Tkn) : T3 := (t.kind, t.text, t.num)
def At (l : List Tkn) : Nat → List T3 → Prop
 | _, [] => True
 | i, t :: r => of3 (cur l i) = t ∧ At l (i + 1) r
theorem At_app {l : List Tkn} : ∀ {a b : List T3} {i : Nat}, At l i (a ++ b) ↔ At l i a ∧ At l (i + a.length) b
 | [], b, i => by simp [At]
 | t :: a, b, i => by
   simp only [List.cons_append, At, List.length_cons]
   rw [At_app, and_assoc]
   rw [show i + 1 + a.length = i + (a.length + 1) by omega]
theorem At_cons {l : List Tkn} {t : T3} {r : List T3} {i : Nat} (h : At l i (t :: r)) : ((cur l i).kind = t.1 ∧ (cur l i).text = t.2.1 ∧ (cur l i).num = t.2.2) ∧ At l (i + 1) r := by
 obtain ⟨h1, h2⟩ := h
 subst h1
 exact ⟨⟨rfl, rfl, rfl⟩, h2⟩
def lvl (x : Nd) : Nat := if x.kind = 6 then levelO x.word else if x.kind = 7 ∨ x.kind = 8 then 5 else if x.kind = 5 then (if x.word = [110, 111, 116] then 3 else 7) else 8
def leftL (k : Nat) : Nat := if k = 4 then 5 else k
abbrev DayS := Int → Str
section
variable (ds : DayS)
def parS (least : Nat) (p : Nat × Str) : Str := if p.1 < least then 40 :: p.2 ++ [41] else p.2
def parT (least : Nat) (p : Nat × List T3) : List T3 := if p.1 < least then (4, [40], 0) :: p.2 ++ [(4, [41], 0)] else p.2
def parD (least : Nat) (p : Nat × Nat) : Nat := if p.1 < least then p.2 + 1 else p.2
def opKind (s : Str) : Int := if s = [111, 114] ∨ s = [97, 110, 100] then 1 else 4
def tokK (k n : Int) (s : Str) (ks : List (Nat × List T3)) : List T3 :=
 if k = 1 then [(2, Lib.itoa n, n)] else if k = 2 then [(1, if n = 1 then [116, 114, 117, 101] else [102, 97, 108, 115, 101], 0)] else if k = 3 then [(3, 64 :: ds n, n)] else if k = 4 then [(1, s, 0)]
 else if k = 5 then (if s = [110, 111, 116] then (1, [110, 111, 116], 0) :: parT 3 (ks.getD 0 (0, [])) else (4, [45], 0) :: parT 7 (ks.getD 0 (0, [])))
 else if k = 9 then (1, [105, 102], 0) :: ((ks.getD 0 (0, [])).2 ++ (1, [116, 104, 101, 110], 0) :: ((ks.getD 1 (0, [])).2 ++ (1, [101, 108, 115, 101], 0) :: ((ks.getD 2 (0, [])).2 ++ [(1, [101, 110, 100], 0)])))
 else if k = 10 then (1, s, 0) :: (4, [40], 0) :: ((match ks with | [] => [] | a :: r => a.2 ++ r.flatMap fun p => (4, [44], 0) :: p.2) ++ [(4, [41], 0)])
 else if k = 7 then parT 5 (ks.getD 0 (0, [])) ++ (4, [43], 0) :: (parT 6 (ks.getD 1 (0, [])) ++ [(1, s, 0)])
 else if k = 8 then parT 5 (ks.getD 0 (0, [])) ++ (4, [45], 0) :: (parT 6 (ks.getD 1 (0, [])) ++ [(1, s, 0)])
 else parT (leftL (levelO s)) (ks.getD 0 (0, [])) ++ (opKind s, s, 0) :: parT (levelO s + 1) (ks.getD 1 (0, []))
def tokN : Nd → List T3
 | .mk k n s l => tokK ds k n s (l.map fun y => (lvl y, tokN y))
def opK (k : Int) (s : Str) (ks : List (Nat × Nat)) : Nat :=
 if k = 5 then 1 + (if s = [110, 111, 116] then parD 3 (ks.getD 0 (0, 0)) else parD 7 (ks.getD 0 (0, 0)))
 else if k = 9 ∨ k = 10 then 1 + (ks.map (·.2)).foldl max 0
 else if k = 7 ∨ k = 8 then max (parD 5 (ks.getD 0 (0, 0))) (parD 6 (ks.getD 1 (0, 0)))
 else if k = 6 then max (parD (leftL (levelO s)) (ks.getD 0 (0, 0))) (parD (levelO s + 1) (ks.getD 1 (0, 0)))
 else 0
def opN : Nd → Nat
 | .mk k n s l => opK k s (l.map fun y => (lvl y, opN y))
theorem tokN_mk (k n : Int) (s : Str) (l : List Nd) : tokN ds (.mk k n s l) = tokK ds k n s (l.map fun y => (lvl y, tokN ds y)) := by rw [tokN]
theorem opN_mk (k n : Int) (s : Str) (l : List Nd) : opN (.mk k n s l) = opK k s (l.map fun y => (lvl y, opN y)) := by rw [opN]
end
inductive Wf : Nd → Prop
 | num (n : Int) (h : 0 ≤ n ∧ n ≤ 2147483647) : Wf (.mk 1 n [] [])
 | bool (n : Int) (h : n = 0 ∨ n = 1) : Wf (.mk 2 n [] [])
 | day (n : Int) (h : 0 ≤ n ∧ n ≤ 3652058) : Wf (.mk 3 n [] [])
 | field (s : Str) (h : s ∈ fieldW) : Wf (.mk 4 0 s [])
 | neg (a : Nd) (ha : Wf a) : Wf (.mk 5 0 [45] [a])
 | not (a : Nd) (ha : Wf a) : Wf (.mk 5 0 [110, 111, 116] [a])
 | bin (s : Str) (a b : Nd) (hs : 1 ≤ levelO s) (ha : Wf a) (hb : Wf b) : Wf (.mk 6 0 s [a, b])
 | after (s : Str) (a b : Nd) (hs : s ∈ unitW) (ha : Wf a) (hb : Wf b) : Wf (.mk 7 0 s [a, b])
 | before (s : Str) (a b : Nd) (hs : s ∈ unitW) (ha : Wf a) (hb : Wf b) : Wf (.mk 8 0 s [a, b])
 | cond (a b c : Nd) (ha : Wf a) (hb : Wf b) (hc : Wf c) : Wf (.mk 9 0 [] [a, b, c])
 | call1 (s : Str) (a : Nd) (hs : s ∈ funcW) (h1 : argsO s = 1) (ha : Wf a) : Wf (.mk 10 0 s [a])
 | call2 (s : Str) (a b : Nd) (hs : s ∈ funcW) (h2 : argsO s = 2) (ha : Wf a) (hb : Wf b) : Wf (.mk 10 0 s [a, b])
theorem Ev.det {l : List Tkn} {c : Call} {i o : Nat} {r r' : Out Nd} (h : Ev l c i o r) (h' : Ev l c i o r') : r = r' := by
 obtain ⟨f, h⟩ := h
 obtain ⟨f', h'⟩ := h'
 have g := exprO_le_mono l (Nat.le_max_left f f') h
 have g' := exprO_le_mono l (Nat.le_max_right f f') h'
 rw [g] at g'
 exact Option.some.inj g'
theorem levelO_le (s : Str) : levelO s ≤ 6 ∧ levelO s ≠ 3 := by
 unfold levelO
 repeat' split
 all_goals omega
theorem levelO_unit : ∀ s ∈ unitW, levelO s = 0 := by decide
theorem levelO_pos {s : Str} (h : 1 ≤ levelO s) : s ∉ unitW ∧ s ≠ [110, 111, 116] := by
 refine ⟨fun hs => by have := levelO_unit s hs; omega, fun hs => by rw [hs] at h; revert h; decide⟩
section climb
variable {l : List Tkn} {i j o k m : Nat} {x : Nd} {r : Out Nd}
abbrev CC (l : List Tkn) (x : Nd) (i j o k : Nat) : Prop := ∀ r, Ev l (.loop k x) j o r → Ev l (.expr k) i o r
theorem CC.ok (h : CC l x i j o k) (hn : levelO (cur l j).text ≠ k) : Ev l (.expr k) i o (.ok x j o) := h _ (Ev.stop hn)
theorem CC.of_ok (h : Ev l (.expr k) i o (.ok x j o)) (hn : levelO (cur l j).text ≠ k) : CC l x i j o k := fun r hr => by
 rw [Ev.det hr (Ev.stop hn)]
 exact h
theorem CC.climb : ∀ (d k : Nat), k + d = m → m ≤ 7 → levelO (cur l j).text ≤ k → (m ≤ 3 ∨ (cur l i).text ≠ [110, 111, 116]) → CC l x i j o m → CC l x i j o k
 | 0, k, hk, hm, hn, hs, h => by
   have : k = m := by omega
   subst this
   exact h
 | d + 1, k, hk, hm, hn, hs, h => by
   have h1 := CC.climb d (k + 1) (by omega) hm (by omega) hs h
   intro r hr
   refine Ev.lvl (by omega) ?_ (h1.ok (by omega)) hr
   rintro (⟨h3, ht⟩ | ⟨h7, _⟩)
   · rcases hs with hs | hs
     · omega
     · exact hs ht
   · omega
theorem CC.prim (h : Ev l .prim i o (.ok x j o)) (h1 : (cur l i).text ≠ [110, 111, 116]) (h2 : (cur l i).text ≠ [45]) (hk : k ≤ 7) (hn : levelO (cur l j).text ≤ k) : CC l x i j o k := by
 refine CC.climb (m := 7) (7 - k) k (by omega) (by omega) hn (.inr h1) ?_
 intro r hr
 refine Ev.lvl (by omega) ?_ h.p8 hr
 rintro (⟨_, ht⟩ | ⟨_, ht⟩)
 · exact h1 ht
 · exact h2 ht
end climb
structure PT (ds : DayS) (l : List Tkn) (x : Nd) (i : Nat) : Prop where
 nn : 4 ≤ lvl x → (cur l i).text ≠ [110, 111, 116]
 cc : ∀ k o, 1 ≤ k → k ≤ 7 → k ≤ lvl x → o + opN x ≤ 12 → levelO (cur l (i + (tokN ds x).length)).text ≤ k → ((cur l (i + (tokN ds x).length)).text ∈ unitW → 6 ≤ lvl x) →
  (lvl x = 4 → levelO (cur l (i + (tokN ds x).length)).text ≠ 4) → CC l x i (i + (tokN ds x).length) o k
structure PO (ds : DayS) (l : List Tkn) (x : Nd) (least i : Nat) : Prop where
 nn : 4 ≤ least → (cur l i).text ≠ [110, 111, 116]
 cc : ∀ k o, 1 ≤ k → k ≤ 7 → k ≤ least → o + parD least (lvl x, opN x) ≤ 12 → levelO (cur l (i + (parT least (lvl x, tokN ds x)).length)).text ≤ k → ((cur l (i + (parT least (lvl x, tokN ds x)).length)).text ∈ unitW → 6 ≤ least) →
  (least ≤ 4 → levelO (cur l (i + (parT least (lvl x, tokN ds x)).length)).text ≠ 4) → CC l x i (i + (parT least (lvl x, tokN ds x)).length) o k
theorem lvl_pos {x : Nd} (h : Wf x) : 1 ≤ lvl x := by
 cases h with
 | bin s a b hs ha hb => exact hs
 | not a ha => show 1 ≤ (if [110, 111, 116] = [110, 111, 116] then 3 else 7); decide
 | neg a ha => show 1 ≤ (if [45] = [110, 111, 116] then 3 else 7); decide
 | num => show 1 ≤ 8; decide
 | bool => show 1 ≤ 8; decide
 | day => show 1 ≤ 8; decide
 | field => show 1 ≤ 8; decide
 | after => show 1 ≤ 5; decide
 | before => show 1 ≤ 5; decide
 | cond => show 1 ≤ 8; decide
 | call1 => show 1 ≤ 8; decide
 | call2 => show 1 ≤ 8; decide
theorem PO.of {ds : DayS} {l : List Tkn} {x : Nd} (hw : Wf x) (ih : ∀ i, At l i (tokN ds x) → PT ds l x i) {least i : Nat} (hl : least ≤ 8) (h : At l i (parT least (lvl x, tokN ds x))) : PO ds l x least i := by
 have hx := lvl_pos hw
 by_cases hp : lvl x < least
 · unfold parT at h
   simp only [hp, if_true] at h
   rw [List.cons_append] at h
   obtain ⟨⟨a1, a2, a3⟩, h⟩ := At_cons h
   rw [At_app] at h
   obtain ⟨h, h'⟩ := h
   obtain ⟨⟨b1, b2, b3⟩, -⟩ := At_cons h'
   simp only at a1 a2 a3 b1 b2 b3
   have hlen : (parT least (lvl x, tokN ds x)).length = (tokN ds x).length + 2 := by
    unfold parT
    simp only [hp, if_true]
    simp
   have e1 : i + (parT least (lvl x, tokN ds x)).length = i + 1 + (tokN ds x).length + 1 := by rw [hlen]; omega
   refine ⟨fun _ => by rw [a2]; decide, fun k o hk1 hk7 hkl ho hn hu h4 => ?_⟩
   have hd : parD least (lvl x, opN x) = opN x + 1 := by unfold parD; simp only [hp, if_true]
   rw [hd] at ho
   rw [e1] at hn ⊢
   have hin := ((ih (i + 1) h).cc 1 (o + 1) (by omega) (by omega) hx (by omega) (by rw [b2]; decide) (by rw [b2]; intro hu; exact absurd hu (by decide)) (by rw [b2]; intro _; decide)).ok (by rw [b2]; decide)
   have hpr := Ev.par (l := l) (i := i) (o := o) ⟨by rw [a1]; decide, by rw [a1]; decide⟩ a2 (by omega) hin b2
   exact CC.prim hpr (by rw [a2]; decide) (by rw [a2]; decide) hk7 hn
 · have e1 : parT least (lvl x, tokN ds x) = tokN ds x := by unfold parT; simp only [hp, if_false]
   have e2 : parD least (lvl x, opN x) = opN x := by unfold parD; simp only [hp, if_false]
   rw [e1] at h
   have hi := ih i h
   refine ⟨fun h4 => hi.nn (by omega), fun k o hk1 hk7 hkl ho hn hu h4 => ?_⟩
   rw [e1] at hn hu h4 ⊢
   rw [e2] at ho
   exact hi.cc k o hk1 hk7 (by omega) ho hn (fun h => by have := hu h; omega) (fun h => h4 (by omega))
theorem decDigits_dig (u : Nat) : ∀ c ∈ Lib.decDigits u, 48 ≤ c.toNat ∧ c.toNat ≤ 57 := by
 induction u using Nat.strongRecOn with
 | _ u ih =>
   have h1 : ∀ k, k < 10 → 48 ≤ (UInt8.ofNat (48 + k)).toNat ∧ (UInt8.ofNat (48 + k)).toNat ≤ 57 := by decide
   by_cases h : u < 10
   · rw [Lib.decDigits, dif_pos h]
     intro c hc
     simp only [List.mem_singleton] at hc
     subst hc
     exact h1 u h
   · rw [Lib.decDigits, dif_neg h]
     intro c hc
     rcases List.mem_append.1 hc with hc | hc
     · exact ih _ (by omega) c hc
     · simp only [List.mem_singleton] at hc
       subst hc
       exact h1 _ (by omega)
theorem itoa_dig {n : Int} (h : 0 ≤ n) : ∀ c ∈ Lib.itoa n, 48 ≤ c.toNat ∧ c.toNat ≤ 57 := by
 unfold Lib.itoa
 rw [if_neg (by omega)]
 exact decDigits_dig _
theorem itoa_ne {n : Int} (h : 0 ≤ n) : Lib.itoa n ≠ [110, 111, 116] ∧ Lib.itoa n ≠ [45] := by
 have := itoa_dig h
 refine ⟨fun e => ?_, fun e => ?_⟩
 · rw [e] at this; revert this; decide
 · rw [e] at this; revert this; decide
section
variable {ds : DayS} {l : List Tkn} {x : Nd} {i : Nat}
theorem PT.prim (h1 : (cur l i).text ≠ [110, 111, 116]) (h2 : (cur l i).text ≠ [45]) (h : ∀ o, o + opN x ≤ 12 → Ev l .prim i o (.ok x (i + (tokN ds x).length) o)) : PT ds l x i :=
 ⟨fun _ => h1, fun k o _ hk7 _ ho hn _ _ => CC.prim (h o ho) h1 h2 hk7 hn⟩
end
theorem field_ne : ∀ s ∈ fieldW, s ≠ [110, 111, 116] ∧ s ≠ [45] := by decide
theorem func_ne : ∀ s ∈ funcW, s ≠ [110, 111, 116] ∧ s ≠ [45] := by decide
theorem PT_all (ds : DayS) {x : Nd} (hx : Wf x) : ∀ (l : List Tkn) (i : Nat), At l i (tokN ds x) → PT ds l x i := by
 induction hx with
 | num n h =>
   intro l i hA
   have e : tokN ds (.mk 1 n [] []) = [(2, Lib.itoa n, n)] := by rw [tokN_mk]; rfl
   have hn := itoa_ne h.1
   rw [e] at hA
   obtain ⟨⟨t1, t2, t3⟩, -⟩ := At_cons hA
   simp only at t1 t2 t3
   refine PT.prim (by rw [t2]; exact hn.1) (by rw [t2]; exact hn.2) (fun o _ => ?_)
   have := Ev.num (o := o) t1
   rw [t3] at this
   rw [e]
   exact this
 | bool n h =>
   intro l i hA
   have e : tokN ds (.mk 2 n [] []) = [(1, if n = 1 then [116, 114, 117, 101] else [102, 97, 108, 115, 101], 0)] := by rw [tokN_mk]; rfl
   rw [e] at hA
   obtain ⟨⟨t1, t2, t3⟩, -⟩ := At_cons hA
   simp only at t1 t2 t3
   have hp : plainK l i := ⟨by rw [t1]; decide, by rw [t1]; decide⟩
   rcases h with rfl | rfl
   · rw [if_neg (by decide)] at t2
     refine PT.prim (by rw [t2]; decide) (by rw [t2]; decide) (fun o _ => ?_)
     rw [e]
     exact Ev.false hp t2
   · rw [if_pos rfl] at t2
     refine PT.prim (by rw [t2]; decide) (by rw [t2]; decide) (fun o _ => ?_)
     rw [e]
     exact Ev.true hp t2
 | day n h =>
   intro l i hA
   have e : tokN ds (.mk 3 n [] []) = [(3, 64 :: ds n, n)] := by rw [tokN_mk]; rfl
   rw [e] at hA
   obtain ⟨⟨t1, t2, t3⟩, -⟩ := At_cons hA
   simp only at t1 t2 t3
   refine PT.prim (by rw [t2]; intro h; injection h with h _; revert h; decide) (by rw [t2]; intro h; injection h with h _; revert h; decide) (fun o _ => ?_)
   have := Ev.day (o := o) t1
   rw [t3] at this
   rw [e]
   exact this
 | field s h =>
   intro l i hA
   have e : tokN ds (.mk 4 0 s []) = [(1, s, 0)] := by rw [tokN_mk]; rfl
   rw [e] at hA
   obtain ⟨⟨t1, t2, t3⟩, -⟩ := At_cons hA
   simp only at t1 t2 t3
   have hp : plainK l i := ⟨by rw [t1]; decide, by rw [t1]; decide⟩
   have hn := field_ne s h
   refine PT.prim (by rw [t2]; exact hn.1) (by rw [t2]; exact hn.2) (fun o _ => ?_)
   have := Ev.field (o := o) hp (by rw [t2]; exact h)
   rw [t2] at this
   rw [e]
   exact this
 | neg a ha iha =>
   intro l i hA
   have e : tokN ds (.mk 5 0 [45] [a]) = (4, [45], 0) :: parT 7 (lvl a, tokN ds a) := by rw [tokN_mk]; rfl
   have eo : opN (.mk 5 0 [45] [a]) = 1 + parD 7 (lvl a, opN a) := by rw [opN_mk]; rfl
   rw [e] at hA
   obtain ⟨⟨t1, t2, t3⟩, hA⟩ := At_cons hA
   simp only at t1 t2 t3
   have pa := PO.of ha (iha l) (by decide) hA
   have ej : i + (tokN ds (.mk 5 0 [45] [a])).length = i + 1 + (parT 7 (lvl a, tokN ds a)).length := by rw [e, List.length_cons]; omega
   have el : lvl (.mk 5 0 [45] [a]) = 7 := rfl
   refine ⟨fun _ => by rw [t2]; decide, ?_⟩
   rw [ej, el, eo]
   intro k o hk1 hk7 hkl ho hn hu h4
   have hle := levelO_le (cur l (i + 1 + (parT 7 (lvl a, tokN ds a)).length)).text
   have hin := (pa.cc 7 (o + 1) (by omega) (by omega) (by omega) (by omega) (by omega) (by omega) (by omega)).ok (by omega)
   have h7 := Ev.un (.inr ⟨rfl, t2⟩) (by omega) hin
   rw [t2] at h7
   exact CC.climb (m := 7) (7 - k) k (by omega) (by omega) hn (.inr (by rw [t2]; decide)) (CC.of_ok h7 (by omega))
 | not a ha iha =>
   intro l i hA
   have e : tokN ds (.mk 5 0 [110, 111, 116] [a]) = (1, [110, 111, 116], 0) :: parT 3 (lvl a, tokN ds a) := by rw [tokN_mk]; rfl
   have eo : opN (.mk 5 0 [110, 111, 116] [a]) = 1 + parD 3 (lvl a, opN a) := by rw [opN_mk]; rfl
   rw [e] at hA
   obtain ⟨⟨t1, t2, t3⟩, hA⟩ := At_cons hA
   simp only at t1 t2 t3
   have pa := PO.of ha (iha l) (by decide) hA
   have ej : i + (tokN ds (.mk 5 0 [110, 111, 116] [a])).length = i + 1 + (parT 3 (lvl a, tokN ds a)).length := by rw [e, List.length_cons]; omega
   have el : lvl (.mk 5 0 [110, 111, 116] [a]) = 3 := rfl
   refine ⟨fun h => by rw [el] at h; omega, ?_⟩
   rw [ej, el, eo]
   intro k o hk1 hk7 hkl ho hn hu h4
   have hle := levelO_le (cur l (i + 1 + (parT 3 (lvl a, tokN ds a)).length)).text
   have hin := (pa.cc 3 (o + 1) (by omega) (by omega) (by omega) (by omega) (by omega) (fun h => by have := hu h; omega) (by omega)).ok (by omega)
   have h7 := Ev.un (.inl ⟨rfl, t2⟩) (by omega) hin
   rw [t2] at h7
   exact CC.climb (m := 3) (3 - k) k (by omega) (by omega) hn (.inl (by omega)) (CC.of_ok h7 (by omega))
 | bin s a b hs ha hb iha ihb =>
   intro l i hA
   have e : tokN ds (.mk 6 0 s [a, b]) = parT (leftL (levelO s)) (lvl a, tokN ds a) ++ (opKind s, s, 0) :: parT (levelO s + 1) (lvl b, tokN ds b) := by rw [tokN_mk]; rfl
   have eo : opN (.mk 6 0 s [a, b]) = max (parD (leftL (levelO s)) (lvl a, opN a)) (parD (levelO s + 1) (lvl b, opN b)) := by rw [opN_mk]; rfl
   have el : lvl (.mk 6 0 s [a, b]) = levelO s := rfl
   have hL := levelO_le s
   have hP := levelO_pos hs
   have hlf : leftL (levelO s) = if levelO s = 4 then 5 else levelO s := rfl
   rw [e, At_app] at hA
   obtain ⟨hA1, hA⟩ := hA
   obtain ⟨⟨t1, t2, t3⟩, hA2⟩ := At_cons hA
   simp only at t1 t2 t3
   have pa := PO.of ha (iha l) (by rw [hlf]; split <;> omega) hA1
   have pb := PO.of hb (ihb l) (by omega) hA2
   have ej : i + (tokN ds (.mk 6 0 s [a, b])).length = i + (parT (leftL (levelO s)) (lvl a, tokN ds a)).length + 1 + (parT (levelO s + 1) (lvl b, tokN ds b)).length := by rw [e]; simp; omega
   have hnn : 4 ≤ levelO s → (cur l i).text ≠ [110, 111, 116] := fun h => pa.nn (by rw [hlf]; split <;> omega)
   refine ⟨fun h => hnn h, ?_⟩
   rw [ej, el, eo]
   clear e ej eo hA
   intro k o hk1 hk7 hkl ho hn hu h4
   have pac := pa.cc
   have pbc := pb.cc
   generalize i + (parT (leftL (levelO s)) (lvl a, tokN ds a)).length = ja at *
   generalize ja + 1 + (parT (levelO s + 1) (lvl b, tokN ds b)).length = j at *
   by_cases h44 : levelO s = 4
   · rw [hlf, if_pos h44] at pac ho
     have hEa := (pac 5 o (by omega) (by omega) (by omega) (by omega) (by rw [t2]; omega) (fun h => absurd (t2 ▸ h) hP.1) (by omega)).ok (by rw [t2]; omega)
     have hEb := (pbc 5 o (by omega) (by omega) (by omega) (by omega) (by omega) (fun h => by have := hu h; omega) (by omega)).ok (by omega)
     have hc := Ev.cmp (x := a) (by rw [t2]; exact h44) hEb
     rw [t2] at hc
     have h4' := Ev.lvl (k := 4) (by omega) (by omega) hEa hc
     exact CC.climb (m := 4) (4 - k) k (by omega) (by omega) hn (.inr (hnn (by omega))) (CC.of_ok h4' (h4 h44))
   · rw [hlf, if_neg h44] at pac ho
     have hEb := (pbc (levelO s + 1) o (by omega) (by omega) (by omega) (by omega) (by omega) (fun h => by have := hu h; omega) (by omega)).ok (by omega)
     refine CC.climb (m := levelO s) (levelO s - k) k (by omega) (by omega) hn (by rcases Nat.lt_or_ge (levelO s) 4 with h | h; exact .inl (by omega); exact .inr (hnn h)) ?_
     intro r hr
     refine pac (levelO s) o hs (by omega) (by omega) (by omega) (by rw [t2]; omega) (fun h => absurd (t2 ▸ h) hP.1) (fun _ => by rw [t2]; omega) r ?_
     refine Ev.bin (by rw [t2]) hEb h44 (fun ⟨h5, h⟩ => by have := hu h; omega) ?_
     rw [t2]
     exact hr
 | after s a b hs ha hb iha ihb =>
   intro l i hA
   have e : tokN ds (.mk 7 0 s [a, b]) = parT 5 (lvl a, tokN ds a) ++ (4, [43], 0) :: (parT 6 (lvl b, tokN ds b) ++ [(1, s, 0)]) := by rw [tokN_mk]; rfl
   have eo : opN (.mk 7 0 s [a, b]) = max (parD 5 (lvl a, opN a)) (parD 6 (lvl b, opN b)) := by rw [opN_mk]; rfl
   have el : lvl (.mk 7 0 s [a, b]) = 5 := rfl
   have hP := levelO_unit s hs
   rw [e, At_app] at hA
   obtain ⟨hA1, hA⟩ := hA
   obtain ⟨⟨t1, t2, t3⟩, hA2⟩ := At_cons hA
   rw [At_app] at hA2
   obtain ⟨hA2, hA3⟩ := hA2
   obtain ⟨⟨u1, u2, u3⟩, -⟩ := At_cons hA3
   simp only at t1 t2 t3 u1 u2 u3
   have pa := PO.of ha (iha l) (by omega) hA1
   have pb := PO.of hb (ihb l) (by omega) hA2
   have ej : i + (tokN ds (.mk 7 0 s [a, b])).length = i + (parT 5 (lvl a, tokN ds a)).length + 1 + (parT 6 (lvl b, tokN ds b)).length + 1 := by rw [e]; simp; omega
   have hnn : (cur l i).text ≠ [110, 111, 116] := pa.nn (by omega)
   refine ⟨fun h => hnn, ?_⟩
   rw [ej, el, eo]
   clear e ej eo hA
   intro k o hk1 hk7 hkl ho hn hu h4
   have pac := pa.cc
   have pbc := pb.cc
   generalize i + (parT 5 (lvl a, tokN ds a)).length = ja at *
   generalize ja + 1 + (parT 6 (lvl b, tokN ds b)).length = jb at *
   have hEb := (pbc 6 o (by omega) (by omega) (by omega) (by omega) (by rw [u2]; omega) (fun h => by omega) (by omega)).ok (by rw [u2]; omega)
   have lv5 : levelO (cur l ja).text = 5 := by rw [t2]; decide
   refine CC.climb (m := 5) (5 - k) k (by omega) (by omega) hn (.inr hnn) ?_
   intro r hr
   refine pac 5 o (by omega) (by omega) (by omega) (by omega) (by omega) (fun h => by rw [t2] at h; exact absurd h (by decide)) (fun _ => by omega) r ?_
   refine Ev.unit lv5 hEb (by rw [u2]; exact hs) ?_
   rw [t2, u2, if_neg (by decide)]
   exact hr
 | before s a b hs ha hb iha ihb =>
   intro l i hA
   have e : tokN ds (.mk 8 0 s [a, b]) = parT 5 (lvl a, tokN ds a) ++ (4, [45], 0) :: (parT 6 (lvl b, tokN ds b) ++ [(1, s, 0)]) := by rw [tokN_mk]; rfl
   have eo : opN (.mk 8 0 s [a, b]) = max (parD 5 (lvl a, opN a)) (parD 6 (lvl b, opN b)) := by rw [opN_mk]; rfl
   have el : lvl (.mk 8 0 s [a, b]) = 5 := rfl
   have hP := levelO_unit s hs
   rw [e, At_app] at hA
   obtain ⟨hA1, hA⟩ := hA
   obtain ⟨⟨t1, t2, t3⟩, hA2⟩ := At_cons hA
   rw [At_app] at hA2
   obtain ⟨hA2, hA3⟩ := hA2
   obtain ⟨⟨u1, u2, u3⟩, -⟩ := At_cons hA3
   simp only at t1 t2 t3 u1 u2 u3
   have pa := PO.of ha (iha l) (by omega) hA1
   have pb := PO.of hb (ihb l) (by omega) hA2
   have ej : i + (tokN ds (.mk 8 0 s [a, b])).length = i + (parT 5 (lvl a, tokN ds a)).length + 1 + (parT 6 (lvl b, tokN ds b)).length + 1 := by rw [e]; simp; omega
   have hnn : (cur l i).text ≠ [110, 111, 116] := pa.nn (by omega)
   refine ⟨fun h => hnn, ?_⟩
   rw [ej, el, eo]
   clear e ej eo hA
   intro k o hk1 hk7 hkl ho hn hu h4
   have pac := pa.cc
   have pbc := pb.cc
   generalize i + (parT 5 (lvl a, tokN ds a)).length = ja at *
   generalize ja + 1 + (parT 6 (lvl b, tokN ds b)).length = jb at *
   have hEb := (pbc 6 o (by omega) (by omega) (by omega) (by omega) (by rw [u2]; omega) (fun h => by omega) (by omega)).ok (by rw [u2]; omega)
   have lv5 : levelO (cur l ja).text = 5 := by rw [t2]; decide
   refine CC.climb (m := 5) (5 - k) k (by omega) (by omega) hn (.inr hnn) ?_
   intro r hr
   refine pac 5 o (by omega) (by omega) (by omega) (by omega) (by omega) (fun h => by rw [t2] at h; exact absurd h (by decide)) (fun _ => by omega) r ?_
   refine Ev.unit lv5 hEb (by rw [u2]; exact hs) ?_
   rw [t2, u2, if_pos rfl]
   exact hr
 | cond a b c ha hb hc iha ihb ihc =>
   intro l i hA
   have e : tokN ds (.mk 9 0 [] [a, b, c]) = (1, [105, 102], 0) :: (tokN ds a ++ (1, [116, 104, 101, 110], 0) :: (tokN ds b ++ (1, [101, 108, 115, 101], 0) :: (tokN ds c ++ [(1, [101, 110, 100], 0)]))) := by rw [tokN_mk]; rfl
   have eo : opN (.mk 9 0 [] [a, b, c]) = 1 + max (max (max 0 (opN a)) (opN b)) (opN c) := by rw [opN_mk]; rfl
   have ej : i + (tokN ds (.mk 9 0 [] [a, b, c])).length = i + 1 + (tokN ds a).length + 1 + (tokN ds b).length + 1 + (tokN ds c).length + 1 := by rw [e]; simp; omega
   rw [e] at hA
   obtain ⟨⟨t1, t2, t3⟩, hA⟩ := At_cons hA
   rw [At_app] at hA
   obtain ⟨hA1, hA⟩ := hA
   obtain ⟨⟨u1, u2, u3⟩, hA⟩ := At_cons hA
   rw [At_app] at hA
   obtain ⟨hA2, hA⟩ := hA
   obtain ⟨⟨v1, v2, v3⟩, hA⟩ := At_cons hA
   rw [At_app] at hA
   obtain ⟨hA3, hA⟩ := hA
   obtain ⟨⟨x1, x2, x3⟩, -⟩ := At_cons hA
   simp only at t1 t2 t3 u1 u2 u3 v1 v2 v3 x1 x2 x3
   refine PT.prim (by rw [t2]; decide) (by rw [t2]; decide) (fun o ho => ?_)
   rw [eo] at ho
   rw [ej]
   have p1 := ((iha l _ hA1).cc 1 (o + 1) (by omega) (by omega) (lvl_pos ha) (by omega) (by rw [u2]; decide) (by rw [u2]; intro h; exact absurd h (by decide)) (by rw [u2]; intro _; decide)).ok (by rw [u2]; decide)
   have p2 := ((ihb l _ hA2).cc 1 (o + 1) (by omega) (by omega) (lvl_pos hb) (by omega) (by rw [v2]; decide) (by rw [v2]; intro h; exact absurd h (by decide)) (by rw [v2]; intro _; decide)).ok (by rw [v2]; decide)
   have p3 := ((ihc l _ hA3).cc 1 (o + 1) (by omega) (by omega) (lvl_pos hc) (by omega) (by rw [x2]; decide) (by rw [x2]; intro h; exact absurd h (by decide)) (by rw [x2]; intro _; decide)).ok (by rw [x2]; decide)
   exact Ev.cond ⟨by rw [t1]; decide, by rw [t1]; decide⟩ t2 (by omega) p1 u2 p2 v2 p3 x2
 | call1 s a hs h1 ha iha =>
   intro l i hA
   have e : tokN ds (.mk 10 0 s [a]) = (1, s, 0) :: (4, [40], 0) :: ((tokN ds a ++ []) ++ [(4, [41], 0)]) := by rw [tokN_mk]; rfl
   have eo : opN (.mk 10 0 s [a]) = 1 + max 0 (opN a) := by rw [opN_mk]; rfl
   have ej : i + (tokN ds (.mk 10 0 s [a])).length = i + 2 + (tokN ds a).length + 1 := by rw [e]; simp; omega
   rw [List.append_nil] at e
   rw [e] at hA
   obtain ⟨⟨t1, t2, t3⟩, hA⟩ := At_cons hA
   obtain ⟨⟨u1, u2, u3⟩, hA⟩ := At_cons hA
   rw [At_app] at hA
   obtain ⟨hA1, hA⟩ := hA
   obtain ⟨⟨x1, x2, x3⟩, -⟩ := At_cons hA
   simp only at t1 t2 t3 u1 u2 u3 x1 x2 x3
   have hn := func_ne s hs
   refine PT.prim (by rw [t2]; exact hn.1) (by rw [t2]; exact hn.2) (fun o ho => ?_)
   rw [eo] at ho
   rw [ej]
   have p1 := ((iha l _ hA1).cc 1 (o + 1) (by omega) (by omega) (lvl_pos ha) (by omega) (by rw [x2]; decide) (by rw [x2]; intro h; exact absurd h (by decide)) (by rw [x2]; intro _; decide)).ok (by rw [x2]; decide)
   have := Ev.call1 t1 (by rw [t2]; exact hs) (by rw [t2]; exact h1) u2 (by omega) p1 x2
   rw [t2] at this
   exact this
 | call2 s a b hs h2 ha hb iha ihb =>
   intro l i hA
   have e : tokN ds (.mk 10 0 s [a, b]) = (1, s, 0) :: (4, [40], 0) :: ((tokN ds a ++ ((4, [44], 0) :: tokN ds b ++ [])) ++ [(4, [41], 0)]) := by rw [tokN_mk]; rfl
   have eo : opN (.mk 10 0 s [a, b]) = 1 + max (max 0 (opN a)) (opN b) := by rw [opN_mk]; rfl
   have ej : i + (tokN ds (.mk 10 0 s [a, b])).length = i + 2 + (tokN ds a).length + 1 + (tokN ds b).length + 1 := by rw [e]; simp; omega
   rw [List.append_nil, List.append_assoc, List.cons_append] at e
   rw [e] at hA
   obtain ⟨⟨t1, t2, t3⟩, hA⟩ := At_cons hA
   obtain ⟨⟨u1, u2, u3⟩, hA⟩ := At_cons hA
   rw [At_app] at hA
   obtain ⟨hA1, hA⟩ := hA
   obtain ⟨⟨v1, v2, v3⟩, hA⟩ := At_cons hA
   rw [At_app] at hA
   obtain ⟨hA2, hA⟩ := hA
   obtain ⟨⟨x1, x2, x3⟩, -⟩ := At_cons hA
   simp only at t1 t2 t3 u1 u2 u3 v1 v2 v3 x1 x2 x3
   have hn := func_ne s hs
   refine PT.prim (by rw [t2]; exact hn.1) (by rw [t2]; exact hn.2) (fun o ho => ?_)
   rw [eo] at ho
   rw [ej]
   have p1 := ((iha l _ hA1).cc 1 (o + 1) (by omega) (by omega) (lvl_pos ha) (by omega) (by rw [v2]; decide) (by rw [v2]; intro h; exact absurd h (by decide)) (by rw [v2]; intro _; decide)).ok (by rw [v2]; decide)
   have p2 := ((ihb l _ hA2).cc 1 (o + 1) (by omega) (by omega) (lvl_pos hb) (by omega) (by rw [x2]; decide) (by rw [x2]; intro h; exact absurd h (by decide)) (by rw [x2]; intro _; decide)).ok (by rw [x2]; decide)
   have := Ev.call2 t1 (by rw [t2]; exact hs) (by rw [t2]; exact h2) u2 (by omega) p1 v2 p2 x2
   rw [t2] at this
   exact this
theorem whole_tree (ds : DayS) {x : Nd} (hx : Wf x) {l : List Tkn} {i o : Nat} (hA : At l i (tokN ds x)) (ho : o + opN x ≤ 12) (hn : levelO (cur l (i + (tokN ds x).length)).text = 0) (hu : (cur l (i + (tokN ds x).length)).text ∉ unitW) :
 wholeO l i o = .ok x (i + (tokN ds x).length) o :=
 Ev.whole (((PT_all ds hx l i hA).cc 1 o (by omega) (by omega) (lvl_pos hx) ho (by omega) (fun h => absurd h hu) (fun _ => by omega)).ok (by omega))
def letB (c : UInt8) : Bool := decide (97 ≤ c.toNat) && decide (c.toNat ≤ 122)
def digB (c : UInt8) : Bool := decide (48 ≤ c.toNat) && decide (c.toNat ≤ 57)
def ldB (c : UInt8) : Bool := letB c || digB c
def decN (s : Str) : Nat := s.foldl (fun n c => 10 * n + (c.toNat - 48)) 0
def leapM (y : Int) : Bool := decide (y % 4 = 0) && (decide (¬ y % 100 = 0) || decide (y % 400 = 0))
def lengthM (y m : Int) : Int :=
 if m < 1 ∨ 12 < m then 0 else if m = 2 then (if leapM y then 29 else 28) else if m = 4 ∨ m = 6 ∨ m = 9 ∨ m = 11 then 30 else 31
def dayM (y m d : Int) : Int :=
 let (y, m) := if m - 3 < 0 then (y - 1, m + 9) else (y, m - 3)
 365 * y + y / 4 - y / 100 + y / 400 + (153 * m + 2) / 5 + d - 307
def dateP (s : Str) : Int × Int :=
 if s.length = 10 ∧ s.getD 4 0 = 45 ∧ s.getD 7 0 = 45 ∧ ((s.take 4).all digB ∧ ((s.drop 5).take 2).all digB ∧ (s.drop 8).all digB) then
  let y : Int := decN (s.take 4)
  let m : Int := decN ((s.drop 5).take 2)
  let d : Int := decN (s.drop 8)
  if y < 1 ∨ 9999 < y ∨ m < 1 ∨ 12 < m ∨ d < 1 ∨ lengthM y m < d then (0, 5) else (dayM y m d, 0)
 else (0, 7)
inductive Lx where
 | err (c : Int)
 | ok (t : Tkn)
def wordL (s : Str) : Lx := let n := (s.takeWhile ldB).length; if 12 < n then .err 2 else .ok ⟨1, 0, s.take n, 0⟩
def numberL (s : Str) : Lx :=
 let t := s.takeWhile digB
 if 1 < t.length ∧ t.getD 0 0 = 48 then .err 20 else if 2147483647 < decN t then .err 5 else .ok ⟨2, 0, t, decN t⟩
def formL : Str := [64, 100, 100, 100, 100, 45, 100, 100, 45, 100, 100]
def fitL (c x : UInt8) : Bool := if c = 100 then digB x else decide (x = c)
def dayL (s : Str) : Lx :=
 if s.length < 11 then .err 20 else if ((formL.zip s).all fun p => fitL p.1 p.2) then
  (let d := dateP ((s.take 11).drop 1); if d.2 = 0 then .ok ⟨3, 0, s.take 11, d.1⟩ else .err 5)
 else .err 20
def symsL : Str := [123, 125, 40, 41, 59, 44, 43, 45, 42, 60, 61, 62]
def symbolL (s : Str) : Lx :=
 if s.take 2 = [60, 61] ∨ s.take 2 = [33, 61] ∨ s.take 2 = [62, 61] then .ok ⟨4, 0, s.take 2, 0⟩
 else if s.getD 0 0 ∈ symsL then .ok ⟨4, 0, s.take 1, 0⟩ else .err 20
def readL (s : Str) : Lx :=
 let c := s.getD 0 0
 if letB c then wordL s else if digB c then numberL s else if c = 64 then dayL s else symbolL s
def spaceL (c : UInt8) : Bool := c = 9 || c = 10 || c = 13 || c = 32
inductive Tks where
 | err (a c : Int)
 | ok (l : List Tkn)
def tokensG (nl : Str → Nat) (s : Str) : Nat → Nat → List Tkn → Tks
 | 0, at_, l => .ok (l ++ [⟨0, at_, [], 0⟩])
 | f + 1, at_, l =>
   if at_ < s.length then
    let rest := s.drop at_
    let c := rest.getD 0 0
    if spaceL c then tokensG nl s f (at_ + 1) l
    else if c = 35 then tokensG nl s f (at_ + nl rest) l
    else match readL rest with
     | .err e => .err at_ e
     | .ok t => tokensG nl s f (at_ + t.text.length) (l ++ [{ t with pos := at_ }])
   else .ok (l ++ [⟨0, at_, [], 0⟩])
structure TkOk (t : Tkn) : Prop where
 kind : t.kind ≠ 0
 kinds : 1 ≤ t.kind ∧ t.kind ≤ 4
 text : t.text ≠ []
 sp : ∀ c ∈ t.text, c ≠ 32
 word : t.kind = 1 → t.text.length ≤ 12 ∧ (∀ c ∈ t.text, ldB c = true) ∧ letB (t.text.getD 0 0) = true
 num : t.kind = 2 → 0 ≤ t.num ∧ t.num ≤ 2147483647
 day : t.kind = 3 → 0 ≤ t.num ∧ t.num ≤ 3652058
theorem mem_takeWhile {p : UInt8 → Bool} : ∀ {l : Str} {c : UInt8}, c ∈ l.takeWhile p → p c = true
 | [], c, h => by simp at h
 | a :: r, c, h => by
   simp only [List.takeWhile_cons] at h
   split at h
   · rename_i ha
     rcases List.mem_cons.1 h with rfl | h
     · exact ha
     · exact mem_takeWhile h
   · simp at h
theorem take_takeWhile {p : UInt8 → Bool} : ∀ (l : Str), l.take (l.takeWhile p).length = l.takeWhile p
 | [] => by simp
 | a :: r => by
   simp only [List.takeWhile_cons]
   split
   · simp [take_takeWhile r]
   · simp
theorem ld_sp {c : UInt8} (h : ldB c = true) : c ≠ 32 := by rintro rfl; revert h; decide
theorem dig_sp {c : UInt8} (h : digB c = true) : c ≠ 32 := by rintro rfl; revert h; decide
theorem fit_sp {c x : UInt8} (h : fitL c x = true) (hc : c ≠ 32) : x ≠ 32 := by
 unfold fitL at h
 split at h
 · exact dig_sp h
 · simp at h; rw [h]; exact hc
theorem zip_all {p : UInt8 → UInt8 → Bool} : ∀ {a s : Str}, a.length ≤ s.length → ((a.zip s).all fun q => p q.1 q.2) = true → ∀ x ∈ s.take a.length, ∃ c ∈ a, p c x = true
 | [], s, hl, h, x, hx => by simp at hx
 | c :: a, [], hl, h, x, hx => by simp at hl
 | c :: a, y :: s, hl, h, x, hx => by
   simp only [List.zip_cons_cons, List.all_cons, Bool.and_eq_true] at h
   simp only [List.length_cons, List.take_succ_cons, List.mem_cons] at hx
   rcases hx with rfl | hx
   · exact ⟨c, by simp, h.1⟩
   · obtain ⟨d, hd, h'⟩ := zip_all (by simpa using hl) h.2 x hx
     exact ⟨d, by simp [hd], h'⟩
theorem lengthM_le (y m : Int) : lengthM y m ≤ 31 := by
 unfold lengthM
 repeat' split
 all_goals omega
theorem dayM_range {y m d : Int} (hy : 1 ≤ y) (hy2 : y ≤ 9999) (hm : 1 ≤ m) (hm2 : m ≤ 12) (hd : 1 ≤ d) (hd2 : d ≤ lengthM y m) : 0 ≤ dayM y m d ∧ dayM y m d ≤ 3652058 := by
 have h31 := lengthM_le y m
 have hm' : m = 1 ∨ m = 2 ∨ m = 3 ∨ m = 4 ∨ m = 5 ∨ m = 6 ∨ m = 7 ∨ m = 8 ∨ m = 9 ∨ m = 10 ∨ m = 11 ∨ m = 12 := by omega
 unfold dayM
 rcases hm' with rfl | rfl | rfl | rfl | rfl | rfl | rfl | rfl | rfl | rfl | rfl | rfl <;> simp <;> omega
theorem dateP_range (s : Str) : 0 ≤ (dateP s).1 ∧ (dateP s).1 ≤ 3652058 := by
 unfold dateP
 split
 · simp only
   split
   · simp
   · rename_i h
     simp only [not_or, Int.not_lt] at h
     exact dayM_range h.1 h.2.1 h.2.2.1 h.2.2.2.1 h.2.2.2.2.1 h.2.2.2.2.2
 · simp
theorem readL_ok {s : Str} {t : Tkn} (hs : s ≠ []) (hsp : s.getD 0 0 ≠ 32) (h : readL s = .ok t) : TkOk t ∧ t.text.length ≤ s.length ∧ t.text = s.take t.text.length := by
 obtain ⟨a, r, rfl⟩ : ∃ a r, s = a :: r := by cases s with | nil => exact absurd rfl hs | cons a r => exact ⟨a, r, rfl⟩
 simp only [List.getD_cons_zero] at hsp
 unfold readL at h
 simp only [List.getD_cons_zero] at h
 split at h
 · rename_i hl
   unfold wordL at h
   simp only at h
   split at h
   · simp at h
   · rename_i hn
     simp only [Lx.ok.injEq] at h
     subst h
     have hld : ldB a = true := by simp [ldB, hl]
     have hne : (a :: r).takeWhile ldB = a :: r.takeWhile ldB := by simp [hld]
     have ht := take_takeWhile (p := ldB) (a :: r)
     refine ⟨⟨by simp, by simp, ?_, ?_, fun _ => ⟨?_, ?_, ?_⟩, by simp, by simp⟩, by simp; omega, by simp⟩
     · simp only; rw [ht, hne]; simp
     · simp only; rw [ht]; exact fun c hc => ld_sp (mem_takeWhile hc)
     · simp only; rw [ht]; omega
     · simp only; rw [ht]; exact fun c hc => mem_takeWhile hc
     · simp only; rw [ht, hne]; simpa using hl
 · split at h
   · rename_i hl
     unfold numberL at h
     simp only at h
     split at h
     · simp at h
     · split at h
       · simp at h
       · rename_i hn
         simp only [Lx.ok.injEq] at h
         subst h
         have hne : (a :: r).takeWhile digB = a :: r.takeWhile digB := by simp [hl]
         have ht := take_takeWhile (p := digB) (a :: r)
         have hlen := congrArg List.length ht
         simp only [List.length_take] at hlen
         refine ⟨⟨by simp, by simp, ?_, ?_, by simp, fun _ => ⟨?_, ?_⟩, by simp⟩, ?_, ?_⟩
         · simp only; rw [hne]; simp
         · exact fun c hc => dig_sp (mem_takeWhile hc)
         · simp only; omega
         · simp only; omega
         · simp only; omega
         · exact ht.symm
   · split at h
     · rename_i h64
       unfold dayL at h
       split at h
       · simp at h
       · rename_i h11
         split at h
         · rename_i hf
           simp only at h
           split at h
           · simp only [Lx.ok.injEq] at h
             subst h
             have hd := dateP_range (((a :: r).take 11).drop 1)
             refine ⟨⟨by simp, by simp, by simp, ?_, by simp, by simp, fun _ => hd⟩, by simp; omega, by simp⟩
             intro c hc
             obtain ⟨x, hx, h'⟩ := zip_all (a := formL) (s := a :: r) (by simp only [formL, List.length_cons, List.length_nil] at h11 ⊢; omega) hf c hc
             exact fit_sp h' (by revert hx; simp only [formL]; intro hx h0; subst h0; simp at hx)
           · simp at h
         · simp at h
     · unfold symbolL at h
       split at h
       · rename_i h2
         simp only [Lx.ok.injEq] at h
         subst h
         refine ⟨⟨by simp, by simp, by simp, ?_, by simp, by simp, by simp⟩, by simp; omega, by simp⟩
         simp only
         intro c hc
         rcases h2 with h2 | h2 | h2 <;> rw [h2] at hc <;> (rintro rfl; simp at hc)
       · split at h
         · simp only [Lx.ok.injEq] at h
           subst h
           refine ⟨⟨by simp, by simp, by simp, ?_, by simp, by simp, by simp⟩, by simp, by simp⟩
           simp only [List.take_succ_cons, List.take_zero, List.mem_singleton]
           rintro c rfl
           exact hsp
         · simp at h
theorem tokensG_ok {nl : Str → Nat} {s : Str} (hsl : s.length ≤ 4000) : ∀ (f at_ : Nat) (l l' : List Tkn), (∀ t ∈ l, TkOk t) → (∀ t ∈ l, t.text.length ≤ 4000) → l.length ≤ at_ → l.length ≤ s.length → tokensG nl s f at_ l = .ok l' →
 ∃ l1 p, l' = l1 ++ [⟨0, p, [], 0⟩] ∧ (∀ t ∈ l1, TkOk t) ∧ (∀ t ∈ l1, t.text.length ≤ 4000) ∧ l1.length ≤ s.length
 | 0, at_, l, l', h1, h2, h3, h4, h => by
   simp only [tokensG, Tks.ok.injEq] at h
   exact ⟨l, _, h.symm, h1, h2, h4⟩
 | f + 1, at_, l, l', h1, h2, h3, h4, h => by
   simp only [tokensG] at h
   split at h
   · rename_i hlt
     split at h
     · exact tokensG_ok hsl f _ _ _ h1 h2 (by omega) h4 h
     · split at h
       · exact tokensG_ok hsl f _ _ _ h1 h2 (by omega) h4 h
       · rename_i hnsp _
         cases hr : readL (s.drop at_) with
         | err e => rw [hr] at h; simp at h
         | ok t =>
           rw [hr] at h
           simp only at h
           obtain ⟨g1, g2, g3⟩ := readL_ok (s := s.drop at_) (by simp; omega) (by rintro h32; rw [h32] at hnsp; exact hnsp (by decide)) hr
           have hpos : 1 ≤ t.text.length := by
            have := g1.text
            cases ht : t.text with
            | nil => exact absurd ht this
            | cons a r => simp
           have hlen : t.text.length ≤ s.length - at_ := by simpa using g2
           refine tokensG_ok hsl f _ _ _ ?_ ?_ ?_ ?_ h
           · intro u hu
             rcases List.mem_append.1 hu with hu | hu
             · exact h1 u hu
             · simp only [List.mem_singleton] at hu
               subst hu
               exact ⟨g1.kind, g1.kinds, g1.text, g1.sp, g1.word, g1.num, g1.day⟩
           · intro u hu
             rcases List.mem_append.1 hu with hu | hu
             · exact h2 u hu
             · simp only [List.mem_singleton] at hu
               subst hu
               simp only
               omega
           · simp; omega
           · simp; omega
   · simp only [Tks.ok.injEq] at h
     exact ⟨l, _, h.symm, h1, h2, h4⟩
theorem toks_of {l1 : List Tkn} {p : Int} (h1 : ∀ t ∈ l1, TkOk t) (h2 : ∀ t ∈ l1, t.text.length ≤ 4000) (h3 : l1.length ≤ 4000) : Toks (l1 ++ ([⟨0, p, [], 0⟩] : List Tkn)) := by
 have hc : ∀ i, cur (l1 ++ ([⟨0, p, [], 0⟩] : List Tkn)) i = ⟨0, p, [], 0⟩ ∨ cur (l1 ++ ([⟨0, p, [], 0⟩] : List Tkn)) i = default ∨ cur (l1 ++ ([⟨0, p, [], 0⟩] : List Tkn)) i ∈ l1 := by
  intro i
  unfold cur
  rw [List.getD_eq_getElem?_getD, List.getElem?_append]
  split
  · rename_i h
    right; right
    simp [h]
  · cases hk : i - l1.length with
    | zero => left; simp
    | succ j => right; left; simp
 refine ⟨by simp, ?_, ?_, by simp; omega, ?_, ?_⟩
 · have : cur (l1 ++ ([⟨0, p, [], 0⟩] : List Tkn)) ((l1 ++ ([⟨0, p, [], 0⟩] : List Tkn)).length - 1) = ⟨0, p, [], 0⟩ := by
    unfold cur
    simp
   rw [this]
   exact ⟨rfl, rfl⟩
 · intro i hi
   have hi2 : i < l1.length := by simpa using hi
   have : cur (l1 ++ ([⟨0, p, [], 0⟩] : List Tkn)) i = l1[i] := by
    unfold cur
    rw [List.getD_eq_getElem?_getD, List.getElem?_append_left hi2]
    simp [hi2]
   rw [this]
   have := h1 _ (List.getElem_mem hi2)
   exact ⟨this.kind, this.text⟩
 · intro i c hcm
   rcases hc i with h | h | h
   · rw [h] at hcm; simp at hcm
   · rw [h] at hcm; simp [default] at hcm
   · exact (h1 _ h).sp c hcm
 · intro i
   rcases hc i with h | h | h
   · rw [h]; simp
   · rw [h]; simp [default]
   · exact h2 _ h
def firstM (s : Str) (p : Nat → Bool) : Nat → Nat → Nat
 | 0, _ => s.length
 | f + 1, i => if i < s.length then (if p (dec s i).1 then firstM s p f (i + (dec s i).2) else i) else s.length
theorem firstM_le (s : Str) (p : Nat → Bool) : ∀ (f i : Nat), firstM s p f i ≤ s.length
 | 0, i => Nat.le_refl _
 | f + 1, i => by
   unfold firstM
   split
   · split
     · exact firstM_le s p f _
     · omega
   · exact Nat.le_refl _
theorem firstM_ge (s : Str) (p : Nat → Bool) : ∀ (f i : Nat), i ≤ s.length → i ≤ firstM s p f i
 | 0, i, h => h
 | f + 1, i, h => by
   unfold firstM
   split
   · split
     · by_cases hw : i + (dec s i).2 ≤ s.length
       · exact Nat.le_trans (Nat.le_add_right _ _) (firstM_ge s p f _ hw)
       · have : ∀ f j, s.length < j → firstM s p f j = s.length := fun f j hj => by
          cases f with
          | zero => rfl
          | succ f => unfold firstM; rw [if_neg (by omega)]
         rw [this _ _ (by omega)]
         omega
     · exact Nat.le_refl _
   · exact h
theorem firstM_ascii (p : Nat → Bool) (q : UInt8 → Bool) (hq : ∀ c : UInt8, c.toNat < 128 → p c.toNat = q c) (hp : ∀ n, 128 ≤ n → p n = false) (hq2 : ∀ c : UInt8, 128 ≤ c.toNat → q c = false) (s : Str) :
 ∀ (f i : Nat), i ≤ s.length → s.length ≤ i + f → firstM s p f i = i + ((s.drop i).takeWhile q).length
 | 0, i, h1, h2 => by
   have : i = s.length := by omega
   subst this
   simp [firstM]
 | f + 1, i, h1, h2 => by
   unfold firstM
   by_cases hlt : i < s.length
   · rw [if_pos hlt]
     have hd : s.drop i = s[i] :: s.drop (i + 1) := List.drop_eq_getElem_cons hlt
     rw [hd, List.takeWhile_cons]
     by_cases ha : (s[i]).toNat < 128
     · rw [dec_ascii hlt ha]
       simp only [hq _ ha]
       split
       · rw [firstM_ascii p q hq hp hq2 s f (i + 1) (by omega) (by omega), List.length_cons]; omega
       · simp
     · have h3 := (dec_high hlt (by omega)).1
       rw [hp _ h3, hq2 _ (by omega)]
       simp
   · rw [if_neg hlt]
     rw [List.drop_eq_nil_of_le (by omega)]
     simp; omega
def letN (n : Nat) : Bool := decide (97 ≤ n) && decide (n ≤ 122)
def digN (n : Nat) : Bool := decide (48 ≤ n) && decide (n ≤ 57)
def notNl (n : Nat) : Bool := decide (¬ n = 10)
def nlM (s : Str) : Nat := firstM s notNl s.length 0
def tokensM (s : Str) : Tks := if 4000 < s.length then .err 4000 2 else tokensG nlM s (s.length + 1) 0 []
theorem first_dig (s : Str) : firstM s digN s.length 0 = (s.takeWhile digB).length := by
 rw [firstM_ascii digN digB (fun c h => rfl) (fun n h => by unfold digN; simp; omega) (fun c h => by unfold digB; simp; omega) s s.length 0 (by omega) (by omega)]
 simp
theorem first_ld (s : Str) : firstM s (fun n => letN n || digN n) s.length 0 = (s.takeWhile ldB).length := by
 rw [firstM_ascii (fun n => letN n || digN n) ldB (fun c h => rfl) (fun n h => by unfold letN digN; simp; omega) (fun c h => by unfold ldB letB digB; simp; omega) s s.length 0 (by omega) (by omega)]
 simp
end Go.Eng
namespace Go.Proofs.YtgpibcgebpgmiaaGreatDoor
open Go Go.Eng Go.RowKit Go.Proofs
theorem letter_any (c : Nat) (w : World) : Calls Tryz.prog 112 #[.int .i32 (c : Int)] w (Ret fun r w' => r = .bool (letN c) ∧ w' = w) := by
 unfold letN
 refine calls_of_WC1 (n := 9) Tryz.func112 rfl rfl rfl ?_
 repeat' (first | refine W1 ?_ | (exfalso; omega) | (refine VG ?_ ?_ <;> intro hg) | (refine VC ?_ ?_ <;> intro hc))
 all_goals refine WR ?_
 all_goals refine .mk ⟨?_, rfl⟩
 all_goals congr 1
 all_goals (first | done | (rw [Bool.eq_iff_iff]; simp; omega) | (simp [*]))
theorem digit_any (c : Nat) (w : World) : Calls Tryz.prog 114 #[.int .i32 (c : Int)] w (Ret fun r w' => r = .bool (digN c) ∧ w' = w) := by
 unfold digN
 refine calls_of_WC1 (n := 9) Tryz.func114 rfl rfl rfl ?_
 repeat' (first | refine W1 ?_ | (exfalso; omega) | (refine VG ?_ ?_ <;> intro hg) | (refine VC ?_ ?_ <;> intro hc))
 all_goals refine WR ?_
 all_goals refine .mk ⟨?_, rfl⟩
 all_goals congr 1
 all_goals (first | done | (rw [Bool.eq_iff_iff]; simp; omega) | (simp [*]))
theorem nl_any (c : Nat) (w : World) : Calls Tryz.prog 111 #[.int .i32 (c : Int)] w (Ret fun r w' => r = .bool (notNl c) ∧ w' = w) := by
 unfold notNl
 refine calls_of_WC1 (n := 5) Tryz.func111 rfl rfl rfl ?_
 repeat' (first | refine W1 ?_ | (exfalso; omega) | (refine VG ?_ ?_ <;> intro hg) | (refine VC ?_ ?_ <;> intro hc))
 all_goals refine WR ?_
 all_goals refine .mk ⟨?_, rfl⟩
 all_goals congr 1
 all_goals (first | done | (rw [Bool.eq_iff_iff]; simp; omega) | (simp [*]))
theorem ld_any (c : Nat) (w : World) : Calls Tryz.prog 158 #[.int .i32 (c : Int)] w (Ret fun r w' => r = .bool (letN c || digN c) ∧ w' = w) := by
 refine calls_of_WC1 (n := 9) Tryz.func158 rfl rfl rfl ?_
 refine W ?_
 refine CL rfl (evs1 rfl) rfl (letter_any c _) ?_
 rintro _ _ ⟨rfl, rfl⟩
 cases letN c
 · refine W ?_
   refine CL rfl (evs1 rfl) rfl (digit_any c _) ?_
   rintro _ _ ⟨rfl, rfl⟩
   refine W ?_
   refine WR ?_
   exact .mk ⟨rfl, rfl⟩
 · refine W ?_
   refine WR ?_
   exact .mk ⟨rfl, rfl⟩
theorem first_any {g : Nat} {fn : Func} [hf : Fun Tryz.prog g fn] (p : Nat → Bool) (hg : ∀ (c : Nat) (w : World), Calls Tryz.prog g #[.int .i32 (c : Int)] w (Ret fun r w' => r = .bool (p c) ∧ w' = w)) (s : Str) (w : World) (hl : s.length ≤ 1000000) :
 Calls Tryz.prog 110 #[str s, .func (.func g) #[] #[]] w (Ret fun r w' => r = .int .i64 (firstM s p s.length 0 : Int) ∧ Stp [] w w') := by
 refine calls_of_WC2 (n := 20) Tryz.func110 rfl rfl rfl ?_
 refine W ?_
 refine WL_eff (OE_range rfl) rfl ?_
 rintro _ w1 ⟨b, rfl, hb, hI, hS⟩
 refine W ?_
 refine WC_loop (σ := Nat × Nat) (fun q => [(0, str s), (1, .func (.func g) #[] #[]), (8, .pointer (some ⟨b, 0, none⟩))]) (fun q w' => Itr w' b s q.2 ∧ Stp [] w w' ∧ firstM s p q.1 q.2 = firstM s p s.length 0 ∧ s.length ≤ q.2 + q.1) (fun q => q.1 + 1 - (if q.2 < s.length then 0 else 1)) (s.length, 0) ⟨rfl, rfl, rfl, trivial⟩ ⟨hI, hS, rfl, by omega⟩ ?_
 rintro ⟨f, i⟩ w2 ⟨hI, hS, he, hfl⟩
 dsimp only at hI hS he hfl ⊢
 generalize firstM s p s.length 0 = R at he ⊢
 by_cases hlt : i < s.length
 · obtain ⟨f, rfl⟩ : ∃ f', f = f' + 1 := ⟨f - 1, by omega⟩
   have hd := dec_pos hlt
   unfold firstM at he
   rw [if_pos hlt] at he
   refine W ?_
   refine WL_eff (OE_next rfl hI hlt) rfl ?_
   rintro _ w3 ⟨rfl, hI3, hT⟩
   replace hS := hS.own hT (fun c hc => .inr (by simp at hc; omega))
   refine W ?_
   refine CL rfl (evs1 rfl) rfl (hg _ _) ?_
   rintro _ _ ⟨rfl, rfl⟩
   cases hpc : p (dec s i).1
   · rw [hpc] at he
     refine W ?_
     refine WR ?_
     simp only [Bool.false_eq_true, if_false] at he
     exact .mk ⟨by rw [← he]; rfl, hS⟩
   · rw [hpc] at he
     refine W ?_
     refine WQ_loop (f, i + (dec s i).2) ⟨rfl, rfl, rfl, trivial⟩ ⟨hI3, hS, he, by dsimp only; omega⟩ ?_
     dsimp only
     repeat' split
     all_goals omega
 · refine W ?_
   refine WL_eff (OE_nextEnd rfl hI hlt) rfl ?_
   rintro _ _ ⟨rfl, rfl⟩
   refine W ?_
   refine WR ?_
   refine .mk ⟨?_, hS⟩
   rw [← he]
   cases f with
   | zero => rfl
   | succ f => unfold firstM; rw [if_neg hlt]
end Go.Proofs.YtgpibcgebpgmiaaGreatDoor
namespace Go.Eng
open Go Go.RowKit Go.Proofs
inductive LexTo : Str → List T3 → Prop
 | nil : LexTo [] []
 | sp {c : UInt8} {r : Str} {ts : List T3} (hc : spaceL c = true) (h : LexTo r ts) : LexTo (c :: r) ts
 | tok {s : Str} {t : Tkn} {ts : List T3} (hs : s ≠ []) (h1 : spaceL (s.getD 0 0) = false) (h2 : s.getD 0 0 ≠ 35) (hr : readL s = .ok t) (h : LexTo (s.drop t.text.length) ts) : LexTo s (of3 t :: ts)
theorem tokensG_lex (nl : Str → Nat) (s : Str) {u : Str} {ts : List T3} (h : LexTo u ts) : ∀ (f at_ : Nat) (l : List Tkn), s.drop at_ = u → s.length - at_ < f →
 ∃ (l1 : List Tkn) (p : Int), tokensG nl s f at_ l = .ok (l ++ l1 ++ [⟨0, p, [], 0⟩]) ∧ l1.map of3 = ts := by
 induction h with
 | nil =>
   intro f at_ l hu hf
   have hn : ¬ at_ < s.length := by
    intro hlt
    have := congrArg List.length hu
    simp at this
    omega
   cases f with
   | zero => omega
   | succ f =>
     refine ⟨[], (at_ : Int), ?_, rfl⟩
     simp only [tokensG, if_neg hn, List.append_nil]
 | @sp c r ts hc h ih =>
   intro f at_ l hu hf
   have hlt : at_ < s.length := by
    have := congrArg List.length hu
    simp at this
    omega
   cases f with
   | zero => omega
   | succ f =>
     have hd : s.drop (at_ + 1) = r := by rw [← List.drop_drop, hu]; rfl
     obtain ⟨l1, p, g1, g2⟩ := ih f (at_ + 1) l hd (by omega)
     refine ⟨l1, p, ?_, g2⟩
     simp only [tokensG]
     rw [if_pos hlt, hu]
     simp only [List.getD_cons_zero]
     rw [if_pos hc]
     exact g1
 | @tok u t ts hs h1 h2 hr h ih =>
   intro f at_ l hu hf
   have hlt : at_ < s.length := by
    have := congrArg List.length hu
    have h0 : 0 < u.length := List.length_pos_iff.2 hs
    simp at this
    omega
   have hok := readL_ok hs (by rintro h32; rw [h32] at h1; exact absurd h1 (by decide)) hr
   have hpos : 0 < t.text.length := List.length_pos_iff.2 hok.1.text
   cases f with
   | zero => omega
   | succ f =>
     have hd : s.drop (at_ + t.text.length) = u.drop t.text.length := by rw [← List.drop_drop, hu]
     obtain ⟨l1, p, g1, g2⟩ := ih f (at_ + t.text.length) (l ++ [{ t with pos := at_ }]) hd (by omega)
     refine ⟨{ t with pos := (at_ : Int) } :: l1, p, ?_, by simp [g2, of3]⟩
     simp only [tokensG]
     rw [if_pos hlt, hu, if_neg (by rw [h1]; decide), if_neg h2, hr]
     simp only
     rw [g1]
     simp
theorem At_of_map {l1 : List Tkn} : ∀ (l0 l2 : List Tkn), At (l0 ++ l1 ++ l2) l0.length (l1.map of3) := by
 induction l1 with
 | nil => intro l0 l2; trivial
 | cons t r ih =>
   intro l0 l2
   refine ⟨?_, ?_⟩
   · have : cur (l0 ++ t :: r ++ l2) l0.length = t := by unfold cur; simp
     rw [this]
   · have := ih (l0 ++ [t]) l2
     simp only [List.append_assoc, List.singleton_append, List.length_append, List.length_cons, List.length_nil] at this ⊢
     exact this
theorem tokensM_lex {s : Str} {ts : List T3} (hl : s.length ≤ 4000) (h : LexTo s ts) : ∃ (l1 : List Tkn) (p : Int), tokensM s = .ok (l1 ++ [⟨0, p, [], 0⟩]) ∧ l1.map of3 = ts ∧ At (l1 ++ [⟨0, p, [], 0⟩]) 0 ts := by
 obtain ⟨l1, p, g1, g2⟩ := tokensG_lex nlM s h (s.length + 1) 0 [] (by simp) (by omega)
 refine ⟨l1, p, ?_, g2, ?_⟩
 · unfold tokensM
   rw [if_neg (by omega), g1]
   simp
 · have := At_of_map (l1 := l1) [] [⟨0, p, [], 0⟩]
   rw [g2] at this
   exact this
def safe (r : Str) : Prop := r = [] ∨ (ldB (r.getD 0 0) = false ∧ r.getD 0 0 ≠ 61)
theorem takeWhile_app {p : UInt8 → Bool} : ∀ {w r : Str}, (∀ c ∈ w, p c = true) → (r = [] ∨ p (r.getD 0 0) = false) → (w ++ r).takeWhile p = w
 | [], r, h, hr => by
   rcases hr with rfl | hr
   · rfl
   · cases r with
     | nil => rfl
     | cons a r =>
       simp only [List.getD_cons_zero] at hr
       simp [hr]
 | a :: w, r, h, hr => by
   simp only [List.cons_append, List.takeWhile_cons]
   rw [if_pos (h a (by simp)), takeWhile_app (fun c hc => h c (by simp [hc])) hr]
theorem ld_of_let {c : UInt8} (h : letB c = true) : ldB c = true := by simp [ldB, h]
theorem ld_of_dig {c : UInt8} (h : digB c = true) : ldB c = true := by simp [ldB, h]
theorem dig_not_let {c : UInt8} (h : digB c = true) : letB c = false := by
 unfold digB at h
 unfold letB
 simp at h ⊢
 omega
theorem ld_no_sp {c : UInt8} (h : ldB c = true) : spaceL c = false ∧ c ≠ 35 ∧ c ≠ 64 := by
 refine ⟨?_, ?_, ?_⟩
 · cases hs : spaceL c with
   | false => rfl
   | true =>
     unfold spaceL at hs
     simp only [Bool.or_eq_true, decide_eq_true_eq] at hs
     rcases hs with ((rfl | rfl) | rfl) | rfl <;> (revert h; decide)
 · rintro rfl; revert h; decide
 · rintro rfl; revert h; decide
theorem safe.ld {r : Str} (h : safe r) : r = [] ∨ ldB (r.getD 0 0) = false := h.imp id (·.1)
theorem safe.dig {r : Str} (h : safe r) : r = [] ∨ digB (r.getD 0 0) = false := h.imp id (fun h => by
 have := h.1
 unfold ldB at this
 simp only [Bool.or_eq_false_iff] at this
 exact this.2)
structure WordOk (w : Str) : Prop where
 ne : w ≠ []
 len : w.length ≤ 12
 first : letB (w.getD 0 0) = true
 all : ∀ c ∈ w, ldB c = true
section
variable {r : Str} {ts : List T3}
theorem LexTo.word {w : Str} (hw : WordOk w) (hr : safe r) (h : LexTo r ts) : LexTo (w ++ r) ((1, w, 0) :: ts) := by
 obtain ⟨a, q, rfl⟩ : ∃ a q, w = a :: q := by cases w with | nil => exact absurd rfl hw.ne | cons a q => exact ⟨a, q, rfl⟩
 have hf : letB a = true := by simpa using hw.first
 have hn := ld_no_sp (ld_of_let hf)
 have htw := takeWhile_app hw.all hr.ld
 have hread : readL (a :: q ++ r) = .ok ⟨1, 0, a :: q, 0⟩ := by
  unfold readL
  simp only [List.cons_append, List.getD_cons_zero, hf, if_true]
  unfold wordL
  simp only
  rw [← List.cons_append, htw, if_neg (by have := hw.len; omega)]
  simp
 refine LexTo.tok (t := ⟨1, 0, a :: q, 0⟩) (by simp) (by simpa using hn.1) (by simpa using hn.2.1) hread ?_
 simpa using h
theorem decN_app (a : Str) (c : UInt8) : decN (a ++ [c]) = 10 * decN a + (c.toNat - 48) := by simp [decN, List.foldl_append]
theorem decN_dec (u : Nat) : decN (Lib.decDigits u) = u := by
 induction u using Nat.strongRecOn with
 | _ u ih =>
   have h1 : ∀ k, k < 10 → (UInt8.ofNat (48 + k)).toNat - 48 = k := by decide
   by_cases h : u < 10
   · rw [Lib.decDigits, dif_pos h]
     have := h1 u h
     simp only [decN, List.foldl_cons, List.foldl_nil, Nat.mul_zero, Nat.zero_add]
     exact this
   · rw [Lib.decDigits, dif_neg h, decN_app, ih _ (by omega), h1 _ (by omega)]
     omega
theorem decDigits_ne (u : Nat) : Lib.decDigits u ≠ [] := by
 rw [Lib.decDigits]
 split
 · simp
 · simp
theorem decDigits_first (u : Nat) : 1 < (Lib.decDigits u).length → (Lib.decDigits u).getD 0 0 ≠ 48 := by
 induction u using Nat.strongRecOn with
 | _ u ih =>
   have h1 : ∀ k, k < 10 → 1 ≤ k → UInt8.ofNat (48 + k) ≠ 48 := by decide
   intro hl
   by_cases h : u < 10
   · rw [Lib.decDigits, dif_pos h] at hl
     simp at hl
   · rw [Lib.decDigits, dif_neg h]
     have hne := decDigits_ne (u / 10)
     have hg : (Lib.decDigits (u / 10) ++ [UInt8.ofNat (48 + u % 10)]).getD 0 0 = (Lib.decDigits (u / 10)).getD 0 0 := by
      cases hd : Lib.decDigits (u / 10) with
      | nil => exact absurd hd hne
      | cons a q => simp
     rw [hg]
     by_cases h10 : u / 10 < 10
     · rw [Lib.decDigits, dif_pos h10]
       simp only [List.getD_cons_zero]
       exact h1 _ h10 (by omega)
     · exact ih _ (by omega) (by
        rw [Lib.decDigits, dif_neg h10]
        have := List.length_pos_iff.2 (decDigits_ne (u / 10 / 10))
        simp
        omega)
theorem digB_of {c : UInt8} (h : 48 ≤ c.toNat ∧ c.toNat ≤ 57) : digB c = true := by unfold digB; simp; exact h
theorem LexTo.num {n : Int} (h0 : 0 ≤ n) (h1 : n ≤ 2147483647) (hr : safe r) (h : LexTo r ts) : LexTo (Lib.itoa n ++ r) ((2, Lib.itoa n, n) :: ts) := by
 have hi : Lib.itoa n = Lib.decDigits n.toNat := by unfold Lib.itoa; rw [if_neg (by omega)]
 rw [hi]
 have hall : ∀ c ∈ Lib.decDigits n.toNat, digB c = true := fun c hc => digB_of (decDigits_dig _ c hc)
 have hne := decDigits_ne n.toNat
 have hfst := decDigits_first n.toNat
 have hdec := decN_dec n.toNat
 have htw := takeWhile_app hall hr.dig
 generalize Lib.decDigits n.toNat = w at *
 obtain ⟨a, q, rfl⟩ : ∃ a q, w = a :: q := by cases w with | nil => exact absurd rfl hne | cons a q => exact ⟨a, q, rfl⟩
 have ha := hall a (by simp)
 have hn := ld_no_sp (ld_of_dig ha)
 have hread : readL (a :: q ++ r) = .ok ⟨2, 0, a :: q, n⟩ := by
  unfold readL
  simp only [List.cons_append, List.getD_cons_zero, dig_not_let ha, ha, if_true, Bool.false_eq_true, if_false]
  unfold numberL
  simp only
  rw [← List.cons_append, htw, if_neg (by rintro ⟨g1, g2⟩; exact hfst g1 (by simpa using g2)), hdec, if_neg (by omega), Int.toNat_of_nonneg h0]
 refine LexTo.tok (t := ⟨2, 0, a :: q, n⟩) (by simp) (by simpa using hn.1) (by simpa using hn.2.1) hread ?_
 simpa using h
theorem LexTo.sym {c : UInt8} (hc : c ∈ symsL) (hr : r.getD 0 0 ≠ 61 ∨ (c ≠ 60 ∧ c ≠ 62)) (h : LexTo r ts) : LexTo (c :: r) ((4, [c], 0) :: ts) := by
 have hp : ∀ c ∈ symsL, letB c = false ∧ digB c = false ∧ c ≠ 64 ∧ spaceL c = false ∧ c ≠ 35 ∧ c ≠ 33 := by decide
 obtain ⟨h1, h2, h3, h4, h5, h6⟩ := hp c hc
 have hread : readL (c :: r) = .ok ⟨4, 0, [c], 0⟩ := by
  unfold readL
  simp only [List.getD_cons_zero, h1, h2, if_neg h3, Bool.false_eq_true, if_false]
  unfold symbolL
  have hno : ¬ ((c :: r).take 2 = [60, 61] ∨ (c :: r).take 2 = [33, 61] ∨ (c :: r).take 2 = [62, 61]) := by
   cases r with
   | nil => simp
   | cons d q =>
     simp only [List.take_succ_cons, List.take_zero, List.cons.injEq, and_true]
     simp only [List.getD_cons_zero] at hr
     rintro (⟨rfl, rfl⟩ | ⟨rfl, rfl⟩ | ⟨rfl, rfl⟩)
     · rcases hr with h | h; exact h rfl; exact h.1 rfl
     · exact h6 rfl
     · rcases hr with h | h; exact h rfl; exact h.2 rfl
  rw [if_neg hno]
  simp [hc]
 refine LexTo.tok (t := ⟨4, 0, [c], 0⟩) (by simp) (by simpa using h4) (by simpa using h5) hread ?_
 simpa using h
theorem LexTo.sym2 {c : UInt8} (hc : c = 60 ∨ c = 33 ∨ c = 62) (h : LexTo r ts) : LexTo (c :: 61 :: r) ((4, [c, 61], 0) :: ts) := by
 have hp : ∀ c : UInt8, c = 60 ∨ c = 33 ∨ c = 62 → letB c = false ∧ digB c = false ∧ c ≠ 64 ∧ spaceL c = false ∧ c ≠ 35 := by
  rintro c (rfl | rfl | rfl) <;> decide
 obtain ⟨h1, h2, h3, h4, h5⟩ := hp c hc
 have hread : readL (c :: 61 :: r) = .ok ⟨4, 0, [c, 61], 0⟩ := by
  unfold readL
  simp only [List.getD_cons_zero, h1, h2, if_neg h3, Bool.false_eq_true, if_false]
  unfold symbolL
  rw [if_pos (by simpa using hc)]
  simp
 refine LexTo.tok (t := ⟨4, 0, [c, 61], 0⟩) (by simp) (by simpa using h4) (by simpa using h5) hread ?_
 simpa using h
theorem LexTo.spc (h : LexTo r ts) : LexTo (32 :: r) ts := .sp (by decide) h
theorem LexTo.nl (h : LexTo r ts) : LexTo (10 :: r) ts := .sp (by decide) h
end
theorem safe_cons {c : UInt8} {r : Str} (h : ldB c = false) (h2 : c ≠ 61) : safe (c :: r) := .inr (by simpa using ⟨h, h2⟩)
theorem safe_sp {r : Str} : safe (32 :: r) := safe_cons (by decide) (by decide)
theorem safe_par {r : Str} : safe (41 :: r) := safe_cons (by decide) (by decide)
theorem safe_com {r : Str} : safe (44 :: r) := safe_cons (by decide) (by decide)
theorem safe_semi {r : Str} : safe (59 :: r) := safe_cons (by decide) (by decide)
section
variable (ds : DayS)
def showK (k n : Int) (s : Str) (ks : List (Nat × Str)) : Str :=
 if k = 1 then Lib.itoa n else if k = 2 then (if n = 1 then [116, 114, 117, 101] else [102, 97, 108, 115, 101]) else if k = 3 then 64 :: ds n else if k = 4 then s
 else if k = 5 then (if s = [110, 111, 116] then [110, 111, 116, 32] ++ parS 3 (ks.getD 0 (0, [])) else [45] ++ parS 7 (ks.getD 0 (0, [])))
 else if k = 9 then [105, 102, 32] ++ (ks.getD 0 (0, [])).2 ++ [32, 116, 104, 101, 110, 32] ++ (ks.getD 1 (0, [])).2 ++ [32, 101, 108, 115, 101, 32] ++ (ks.getD 2 (0, [])).2 ++ [32, 101, 110, 100]
 else if k = 10 then s ++ [40] ++ ([44, 32] : Str).intercalate (ks.map (·.2)) ++ [41]
 else if k = 7 then parS 5 (ks.getD 0 (0, [])) ++ [32, 43, 32] ++ parS 6 (ks.getD 1 (0, [])) ++ [32] ++ s
 else if k = 8 then parS 5 (ks.getD 0 (0, [])) ++ [32, 45, 32] ++ parS 6 (ks.getD 1 (0, [])) ++ [32] ++ s
 else parS (leftL (levelO s)) (ks.getD 0 (0, [])) ++ [32] ++ s ++ [32] ++ parS (levelO s + 1) (ks.getD 1 (0, []))
def showN : Nd → Str
 | .mk k n s l => showK ds k n s (l.map fun y => (lvl y, showN y))
theorem showN_mk (k n : Int) (s : Str) (l : List Nd) : showN ds (.mk k n s l) = showK ds k n s (l.map fun y => (lvl y, showN ds y)) := by rw [showN]
end
def DayOk (ds : DayS) : Prop := ∀ n : Int, 0 ≤ n → n ≤ 3652058 → (ds n).length = 10 ∧ ∀ r : Str, readL (64 :: ds n ++ r) = .ok ⟨3, 0, 64 :: ds n, n⟩
theorem wordOk_of {w : Str} (h : (decide (w ≠ []) && decide (w.length ≤ 12) && letB (w.getD 0 0) && w.all ldB) = true) : WordOk w := by
 simp only [Bool.and_eq_true, decide_eq_true_eq, List.all_eq_true] at h
 exact ⟨h.1.1.1, h.1.1.2, h.1.2, h.2⟩
theorem field_word : ∀ s ∈ fieldW, (decide (s ≠ []) && decide (s.length ≤ 12) && letB (s.getD 0 0) && s.all ldB) = true := by decide
theorem unit_word : ∀ s ∈ unitW, (decide (s ≠ []) && decide (s.length ≤ 12) && letB (s.getD 0 0) && s.all ldB) = true := by decide
theorem func_word : ∀ s ∈ funcW, (decide (s ≠ []) && decide (s.length ≤ 12) && letB (s.getD 0 0) && s.all ldB) = true := by decide
def opsAll : List Str := [[111, 114], [97, 110, 100], [60], [60, 61], [61], [33, 61], [62], [62, 61], [43], [45], [42]]
theorem levelO_mem {s : Str} (h : 1 ≤ levelO s) : s ∈ opsAll := by
 unfold levelO at h
 simp only [opsAll, List.mem_cons, List.not_mem_nil, or_false]
 repeat' split at h
 all_goals first
  | omega
  | (rename_i h1; subst h1; simp; done)
  | (rename_i h1; rcases h1 with rfl | rfl | rfl | rfl | rfl | rfl <;> simp; done)
  | (rename_i h1; rcases h1 with rfl | rfl <;> simp; done)
section
variable {ds : DayS} {r : Str} {ts : List T3}
theorem LexTo.op {s : Str} (hs : 1 ≤ levelO s) (h : LexTo r ts) : LexTo (s ++ 32 :: r) ((opKind s, s, 0) :: ts) := by
 have hm := levelO_mem hs
 have h' := h.spc
 simp only [opsAll, List.mem_cons, List.not_mem_nil, or_false] at hm
 rcases hm with rfl | rfl | rfl | rfl | rfl | rfl | rfl | rfl | rfl | rfl | rfl
 · exact LexTo.word (wordOk_of (by decide)) safe_sp h'
 · exact LexTo.word (wordOk_of (by decide)) safe_sp h'
 · exact LexTo.sym (by decide) (.inl (by show (32 : UInt8) ≠ 61; decide)) h'
 · exact LexTo.sym2 (by decide) h'
 · exact LexTo.sym (by decide) (.inr (by decide)) h'
 · exact LexTo.sym2 (by decide) h'
 · exact LexTo.sym (by decide) (.inl (by show (32 : UInt8) ≠ 61; decide)) h'
 · exact LexTo.sym2 (by decide) h'
 · exact LexTo.sym (by decide) (.inr (by decide)) h'
 · exact LexTo.sym (by decide) (.inr (by decide)) h'
 · exact LexTo.sym (by decide) (.inr (by decide)) h'
theorem LexTo.par {x : Nd} (least : Nat) (ih : ∀ (r : Str) (ts : List T3), safe r → LexTo r ts → LexTo (showN ds x ++ r) (tokN ds x ++ ts)) (hr : safe r) (h : LexTo r ts) :
 LexTo (parS least (lvl x, showN ds x) ++ r) (parT least (lvl x, tokN ds x) ++ ts) := by
 unfold parS parT
 simp only
 split
 · have h1 : LexTo (41 :: r) ((4, [41], 0) :: ts) := LexTo.sym (by decide) (.inr (by decide)) h
   have h2 := ih _ _ safe_par h1
   have h3 : LexTo (40 :: (showN ds x ++ 41 :: r)) ((4, [40], 0) :: (tokN ds x ++ (4, [41], 0) :: ts)) := LexTo.sym (by decide) (.inr (by decide)) h2
   simpa using h3
 · exact ih r ts hr h
theorem LexTo.day {n : Int} (hd : DayOk ds) (h0 : 0 ≤ n) (h1 : n ≤ 3652058) (h : LexTo r ts) : LexTo (64 :: ds n ++ r) ((3, 64 :: ds n, n) :: ts) := by
 obtain ⟨hl, hr⟩ := hd n h0 h1
 refine LexTo.tok (t := ⟨3, 0, 64 :: ds n, n⟩) (by simp) (by simp; decide) (by simp) (hr r) ?_
 simpa using h
end
theorem lex_tree {ds : DayS} (hd : DayOk ds) {x : Nd} (hx : Wf x) : ∀ (r : Str) (ts : List T3), safe r → LexTo r ts → LexTo (showN ds x ++ r) (tokN ds x ++ ts) := by
 induction hx with
 | num n h =>
   intro r ts hr hl
   have e : showN ds (.mk 1 n [] []) = Lib.itoa n := by rw [showN_mk]; rfl
   have e2 : tokN ds (.mk 1 n [] []) = [(2, Lib.itoa n, n)] := by rw [tokN_mk]; rfl
   rw [e, e2]
   exact LexTo.num h.1 h.2 hr hl
 | bool n h =>
   intro r ts hr hl
   have e : showN ds (.mk 2 n [] []) = if n = 1 then [116, 114, 117, 101] else [102, 97, 108, 115, 101] := by rw [showN_mk]; rfl
   have e2 : tokN ds (.mk 2 n [] []) = [(1, if n = 1 then [116, 114, 117, 101] else [102, 97, 108, 115, 101], 0)] := by rw [tokN_mk]; rfl
   rw [e, e2]
   rcases h with rfl | rfl
   · exact LexTo.word (wordOk_of (by decide)) hr hl
   · exact LexTo.word (wordOk_of (by decide)) hr hl
 | day n h =>
   intro r ts hr hl
   have e : showN ds (.mk 3 n [] []) = 64 :: ds n := by rw [showN_mk]; rfl
   have e2 : tokN ds (.mk 3 n [] []) = [(3, 64 :: ds n, n)] := by rw [tokN_mk]; rfl
   rw [e, e2]
   exact LexTo.day hd h.1 h.2 hl
 | field s h =>
   intro r ts hr hl
   have e : showN ds (.mk 4 0 s []) = s := by rw [showN_mk]; rfl
   have e2 : tokN ds (.mk 4 0 s []) = [(1, s, 0)] := by rw [tokN_mk]; rfl
   rw [e, e2]
   exact LexTo.word (wordOk_of (field_word s h)) hr hl
 | neg a ha iha =>
   intro r ts hr hl
   have e : showN ds (.mk 5 0 [45] [a]) = [45] ++ parS 7 (lvl a, showN ds a) := by rw [showN_mk]; rfl
   have e2 : tokN ds (.mk 5 0 [45] [a]) = (4, [45], 0) :: parT 7 (lvl a, tokN ds a) := by rw [tokN_mk]; rfl
   rw [e, e2]
   have h1 := LexTo.par 7 iha hr hl
   have h2 := LexTo.sym (c := 45) (by decide) (.inr (by decide)) h1
   simpa using h2
 | not a ha iha =>
   intro r ts hr hl
   have e : showN ds (.mk 5 0 [110, 111, 116] [a]) = [110, 111, 116, 32] ++ parS 3 (lvl a, showN ds a) := by rw [showN_mk]; rfl
   have e2 : tokN ds (.mk 5 0 [110, 111, 116] [a]) = (1, [110, 111, 116], 0) :: parT 3 (lvl a, tokN ds a) := by rw [tokN_mk]; rfl
   rw [e, e2]
   have h1 := LexTo.par 3 iha hr hl
   have h2 := LexTo.word (w := [110, 111, 116]) (wordOk_of (by decide)) safe_sp h1.spc
   simpa using h2
 | bin s a b hs ha hb iha ihb =>
   intro r ts hr hl
   have e : showN ds (.mk 6 0 s [a, b]) = parS (leftL (levelO s)) (lvl a, showN ds a) ++ [32] ++ s ++ [32] ++ parS (levelO s + 1) (lvl b, showN ds b) := by rw [showN_mk]; rfl
   have e2 : tokN ds (.mk 6 0 s [a, b]) = parT (leftL (levelO s)) (lvl a, tokN ds a) ++ (opKind s, s, 0) :: parT (levelO s + 1) (lvl b, tokN ds b) := by rw [tokN_mk]; rfl
   rw [e, e2]
   have h1 := LexTo.par (levelO s + 1) ihb hr hl
   have h2 := (LexTo.op hs h1).spc
   have h3 := LexTo.par (leftL (levelO s)) iha safe_sp h2
   simpa using h3
 | after s a b hs ha hb iha ihb =>
   intro r ts hr hl
   have e : showN ds (.mk 7 0 s [a, b]) = parS 5 (lvl a, showN ds a) ++ [32, 43, 32] ++ parS 6 (lvl b, showN ds b) ++ [32] ++ s := by rw [showN_mk]; rfl
   have e2 : tokN ds (.mk 7 0 s [a, b]) = parT 5 (lvl a, tokN ds a) ++ (4, [43], 0) :: (parT 6 (lvl b, tokN ds b) ++ [(1, s, 0)]) := by rw [tokN_mk]; rfl
   rw [e, e2]
   have h0 := LexTo.word (wordOk_of (unit_word s hs)) hr hl
   have h1 := LexTo.par 6 ihb safe_sp h0.spc
   have h2 := (LexTo.sym (c := 43) (by decide) (.inr (by decide)) h1.spc).spc
   have h3 := LexTo.par 5 iha safe_sp h2
   simpa using h3
 | before s a b hs ha hb iha ihb =>
   intro r ts hr hl
   have e : showN ds (.mk 8 0 s [a, b]) = parS 5 (lvl a, showN ds a) ++ [32, 45, 32] ++ parS 6 (lvl b, showN ds b) ++ [32] ++ s := by rw [showN_mk]; rfl
   have e2 : tokN ds (.mk 8 0 s [a, b]) = parT 5 (lvl a, tokN ds a) ++ (4, [45], 0) :: (parT 6 (lvl b, tokN ds b) ++ [(1, s, 0)]) := by rw [tokN_mk]; rfl
   rw [e, e2]
   have h0 := LexTo.word (wordOk_of (unit_word s hs)) hr hl
   have h1 := LexTo.par 6 ihb safe_sp h0.spc
   have h2 := (LexTo.sym (c := 45) (by decide) (.inr (by decide)) h1.spc).spc
   have h3 := LexTo.par 5 iha safe_sp h2
   simpa using h3
 | cond a b c ha hb hc iha ihb ihc =>
   intro r ts hr hl
   have e : showN ds (.mk 9 0 [] [a, b, c]) = [105, 102, 32] ++ showN ds a ++ [32, 116, 104, 101, 110, 32] ++ showN ds b ++ [32, 101, 108, 115, 101, 32] ++ showN ds c ++ [32, 101, 110, 100] := by rw [showN_mk]; rfl
   have e2 : tokN ds (.mk 9 0 [] [a, b, c]) = (1, [105, 102], 0) :: (tokN ds a ++ (1, [116, 104, 101, 110], 0) :: (tokN ds b ++ (1, [101, 108, 115, 101], 0) :: (tokN ds c ++ [(1, [101, 110, 100], 0)]))) := by rw [tokN_mk]; rfl
   rw [e, e2]
   have h0 := (LexTo.word (w := [101, 110, 100]) (wordOk_of (by decide)) hr hl).spc
   have h1 := (ihc _ _ safe_sp h0).spc
   have h2 := (LexTo.word (w := [101, 108, 115, 101]) (wordOk_of (by decide)) safe_sp h1).spc
   have h3 := (ihb _ _ safe_sp h2).spc
   have h4 := (LexTo.word (w := [116, 104, 101, 110]) (wordOk_of (by decide)) safe_sp h3).spc
   have h5 := (iha _ _ safe_sp h4).spc
   have h6 := LexTo.word (w := [105, 102]) (wordOk_of (by decide)) safe_sp h5
   simpa using h6
 | call1 s a hs h1 ha iha =>
   intro r ts hr hl
   have e : showN ds (.mk 10 0 s [a]) = s ++ [40] ++ showN ds a ++ [41] := by rw [showN_mk]; simp [showK, List.intercalate]
   have e2 : tokN ds (.mk 10 0 s [a]) = (1, s, 0) :: (4, [40], 0) :: ((tokN ds a ++ []) ++ [(4, [41], 0)]) := by rw [tokN_mk]; rfl
   rw [e, e2]
   have h0 := LexTo.sym (c := 41) (by decide) (.inr (by decide)) hl
   have h1 := iha _ _ safe_par h0
   have h2 := LexTo.sym (c := 40) (by decide) (.inr (by decide)) h1
   have h3 := LexTo.word (wordOk_of (func_word s hs)) (safe_cons (by decide) (by decide)) h2
   simpa using h3
 | call2 s a b hs h2 ha hb iha ihb =>
   intro r ts hr hl
   have e : showN ds (.mk 10 0 s [a, b]) = s ++ [40] ++ (showN ds a ++ [44, 32] ++ showN ds b) ++ [41] := by rw [showN_mk]; simp [showK, List.intercalate]
   have e2 : tokN ds (.mk 10 0 s [a, b]) = (1, s, 0) :: (4, [40], 0) :: ((tokN ds a ++ ((4, [44], 0) :: tokN ds b ++ [])) ++ [(4, [41], 0)]) := by rw [tokN_mk]; rfl
   rw [e, e2]
   have h0 := LexTo.sym (c := 41) (by decide) (.inr (by decide)) hl
   have h1 := (ihb _ _ safe_par h0).spc
   have h2 := LexTo.sym (c := 44) (by decide) (.inr (by decide)) h1
   have h3 := iha _ _ safe_com h2
   have h4 := LexTo.sym (c := 40) (by decide) (.inr (by decide)) h3
   have h5 := LexTo.word (wordOk_of (func_word s hs)) (safe_cons (by decide) (by decide)) h4
   simpa using h5
end Go.Eng
