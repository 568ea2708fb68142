/-
Merged by program out of own texts: Cmp3, Cmp4, Cmp5, Cmp6, Cmp7, Cmp8, Cmp9, Eng11, Prn1, Gen1, Gen2, Gen3, Gen4, Gen5, Gen6, Gen7, Ver1, Eng12, Ver2, Ver3, Ver4, Liv1, Ver5, Eng13, Eng14, Ver6, Ver7a.
-/
import Derived.Test.YtgpibcgebpgmiaaDoorM2
import Derived.Lib.AppendZeros
import Derived.Laws.OwnMore

namespace Go.Proofs.YtgpibcgebpgmiaaDoor
open Go Go.Eng Go.RowKit
set_option linter.unusedVariables false

/-- a map from strings to slices of numbers -/
def MapS (X : List Nat) (w : World) (r : Nat) (es : List (Str × List Int)) : Prop :=
  ∃ l : List (Str × Value), MapAt str w r l ∧ l.length = es.length ∧ ∀ i (h : i < l.length) (h' : i < es.length), l[i].1 = es[i].1 ∧ SlV (r :: X) w l[i].2 es[i].2
theorem MapS.up {X : List Nat} {w w' : World} {r : Nat} {es : List (Str × List Int)} (h : MapS X w r es) (hS : Stp [] w w') : MapS X w' r es := by
  obtain ⟨l, h1, h2, h3⟩ := h
  exact ⟨l, h1.up hS, h2, fun i h h' => ⟨(h3 i h h').1, (h3 i h h').2.up hS⟩⟩
theorem OE_insertS {P : Program} {n : Nat} {e : Env} {w : World} {d : Option Nat} {ty : TypeId} {pos : String} {af : Array Edge} {g : Option (Nat × Bool)} {mt kt et r : Nat} {x y z : Operand} [hm : Und P mt (.map kt et)] [hk : Und P kt .string] {X : List Nat} {es : List (Str × List Int)} {a : Str} {v : Value} {xs : List Int} (hx : ev e x = some (.map (some r))) (hy : ev e y = some (str a)) (hz : ev e z = some v)
    (hr : MapS X w r es) (hv : SlV (r :: X) w v xs) (hn : ∀ p ∈ es, ¬ p.1 = a) : OE P n ⟨d, .insert mt x y z, ty, pos, af, g⟩ e w (fun _ w' => MapS X w' r (es ++ [(a, xs)]) ∧ Stp [r] w w') := by
  obtain ⟨l, h1, h2, h3⟩ := hr
  have hfr : ∀ p ∈ l, ¬ p.1 = a := by
    intro p hp
    obtain ⟨i, hi, rfl⟩ := List.getElem_of_mem hp
    rw [(h3 i hi (by omega)).1]
    exact hn _ (List.getElem_mem _)
  refine (OE_insert (K := inferInstance) hx hy hz h1 hfr).mono ?_
  rintro _ w' ⟨g1, g2⟩
  refine ⟨⟨_, g1, by simp [h2], fun i h h' => ?_⟩, g2⟩
  by_cases hi : i < l.length
  · have hi' : i < es.length := by omega
    rw [List.getElem_append_left hi, List.getElem_append_left hi']
    exact ⟨(h3 i hi hi').1, (h3 i hi hi').2.on g2 (by simp)⟩
  · have hil : i = l.length := by simp at h; omega
    subst hil
    rw [List.getElem_append_right (Nat.le_refl _), List.getElem_append_right (by omega)]
    simp only [Nat.sub_self, h2, List.getElem_cons_zero]
    exact ⟨trivial, hv.on g2 (by simp)⟩
def opEs : List (Str × List Int) := [([43], [5]), ([42], [7]), ([110, 111, 116], [12]), ([60], [9]), ([60, 61], [10]), ([61], [11]), ([62], [10, 12]), ([62, 61], [9, 12]), ([33, 61], [11, 12]), ([100, 97, 121, 115], [15]), ([119, 101, 101, 107, 115], [16]), ([109, 111, 110, 116, 104, 115], [17]), ([99, 111, 117, 114, 116, 100, 97, 121, 115], [18]), ([110, 101, 120, 116], [19]), ([112, 114, 101, 118], [20]), ([108, 97, 116, 101, 114], [21]), ([101, 97, 114, 108, 105, 101, 114], [22]), ([98, 101, 116, 119, 101, 101, 110], [23])]
theorem operators_any (X : List Nat) (w : World) (hX : ∀ b ∈ X, b < w.heap.size) : Calls Tryd.prog 122 #[] w (Ret fun r w' => ∃ m, r = .map (some m) ∧ MapS X w' m opEs ∧ Stp [] w w') := by
  refine calls_of_WC0 (n := 21) Tryd.func122 rfl rfl ?_
  refine W ?_
  refine WL_eff (OE_makeMap str) rfl ?_
  rintro _ w1 ⟨m, rfl, hm, hmap, hS⟩
  have hmp : MapS X w1 m [] := ⟨[], hmap, rfl, fun i h => absurd h (Nat.not_lt_zero _)⟩
  have hml := hmap.lt
  clear hmap
  have hXw : ∀ b ∈ m :: X, b ≤ m := fun b hb => (List.mem_cons.1 hb).elim (fun h => by omega) (fun h => by have := hX b h; omega)
  refine WL_eff (OE_buildSlice (vs := [(0, .int .i64 5)]) rfl (buildSI1 _)) rfl ?_
  rintro bv w2 hN
  have hbv : SlV (m :: X) w2 bv [(5 : Int)] := hN.slv (fun b hb => by have := hXw b hb; omega) rfl rfl (by simp [maxLen])
  have hS2 := NewSl.stp hN
  clear hN
  replace hmp := hmp.up hS2
  have hml2 := hS2.size
  refine WL_eff0 (OE_insertS (a := [43]) rfl rfl rfl hmp hbv (by decide)) ?_
  clear hmp
  rintro _ w3 ⟨hmp, hS3⟩
  have hml3 := hS3.size
  replace hml := Nat.lt_of_lt_of_le (Nat.lt_of_lt_of_le hml hml2) hml3
  replace hS := (hS.trans hS2).own hS3 (fun b hb => .inr (by simp at hb; omega))
  clear hS2 hS3 hbv hml2 hml3
  refine WL_eff (OE_buildSlice (vs := [(0, .int .i64 7)]) rfl (buildSI1 _)) rfl ?_
  rintro bv w2 hN
  have hbv : SlV (m :: X) w2 bv [(7 : Int)] := hN.slv (fun b hb => by have := hXw b hb; omega) rfl rfl (by simp [maxLen])
  have hS2 := NewSl.stp hN
  clear hN
  replace hmp := hmp.up hS2
  have hml2 := hS2.size
  refine WL_eff0 (OE_insertS (a := [42]) rfl rfl rfl hmp hbv (by decide)) ?_
  clear hmp
  rintro _ w3 ⟨hmp, hS3⟩
  have hml3 := hS3.size
  replace hml := Nat.lt_of_lt_of_le (Nat.lt_of_lt_of_le hml hml2) hml3
  replace hS := (hS.trans hS2).own hS3 (fun b hb => .inr (by simp at hb; omega))
  clear hS2 hS3 hbv hml2 hml3
  refine WL_eff (OE_buildSlice (vs := [(0, .int .i64 12)]) rfl (buildSI1 _)) rfl ?_
  rintro bv w2 hN
  have hbv : SlV (m :: X) w2 bv [(12 : Int)] := hN.slv (fun b hb => by have := hXw b hb; omega) rfl rfl (by simp [maxLen])
  have hS2 := NewSl.stp hN
  clear hN
  replace hmp := hmp.up hS2
  have hml2 := hS2.size
  refine WL_eff0 (OE_insertS (a := [110, 111, 116]) rfl rfl rfl hmp hbv (by decide)) ?_
  clear hmp
  rintro _ w3 ⟨hmp, hS3⟩
  have hml3 := hS3.size
  replace hml := Nat.lt_of_lt_of_le (Nat.lt_of_lt_of_le hml hml2) hml3
  replace hS := (hS.trans hS2).own hS3 (fun b hb => .inr (by simp at hb; omega))
  clear hS2 hS3 hbv hml2 hml3
  refine WL_eff (OE_buildSlice (vs := [(0, .int .i64 9)]) rfl (buildSI1 _)) rfl ?_
  rintro bv w2 hN
  have hbv : SlV (m :: X) w2 bv [(9 : Int)] := hN.slv (fun b hb => by have := hXw b hb; omega) rfl rfl (by simp [maxLen])
  have hS2 := NewSl.stp hN
  clear hN
  replace hmp := hmp.up hS2
  have hml2 := hS2.size
  refine WL_eff0 (OE_insertS (a := [60]) rfl rfl rfl hmp hbv (by decide)) ?_
  clear hmp
  rintro _ w3 ⟨hmp, hS3⟩
  have hml3 := hS3.size
  replace hml := Nat.lt_of_lt_of_le (Nat.lt_of_lt_of_le hml hml2) hml3
  replace hS := (hS.trans hS2).own hS3 (fun b hb => .inr (by simp at hb; omega))
  clear hS2 hS3 hbv hml2 hml3
  refine WL_eff (OE_buildSlice (vs := [(0, .int .i64 10)]) rfl (buildSI1 _)) rfl ?_
  rintro bv w2 hN
  have hbv : SlV (m :: X) w2 bv [(10 : Int)] := hN.slv (fun b hb => by have := hXw b hb; omega) rfl rfl (by simp [maxLen])
  have hS2 := NewSl.stp hN
  clear hN
  replace hmp := hmp.up hS2
  have hml2 := hS2.size
  refine WL_eff0 (OE_insertS (a := [60, 61]) rfl rfl rfl hmp hbv (by decide)) ?_
  clear hmp
  rintro _ w3 ⟨hmp, hS3⟩
  have hml3 := hS3.size
  replace hml := Nat.lt_of_lt_of_le (Nat.lt_of_lt_of_le hml hml2) hml3
  replace hS := (hS.trans hS2).own hS3 (fun b hb => .inr (by simp at hb; omega))
  clear hS2 hS3 hbv hml2 hml3
  refine WL_eff (OE_buildSlice (vs := [(0, .int .i64 11)]) rfl (buildSI1 _)) rfl ?_
  rintro bv w2 hN
  have hbv : SlV (m :: X) w2 bv [(11 : Int)] := hN.slv (fun b hb => by have := hXw b hb; omega) rfl rfl (by simp [maxLen])
  have hS2 := NewSl.stp hN
  clear hN
  replace hmp := hmp.up hS2
  have hml2 := hS2.size
  refine WL_eff0 (OE_insertS (a := [61]) rfl rfl rfl hmp hbv (by decide)) ?_
  clear hmp
  rintro _ w3 ⟨hmp, hS3⟩
  have hml3 := hS3.size
  replace hml := Nat.lt_of_lt_of_le (Nat.lt_of_lt_of_le hml hml2) hml3
  replace hS := (hS.trans hS2).own hS3 (fun b hb => .inr (by simp at hb; omega))
  clear hS2 hS3 hbv hml2 hml3
  refine WL_eff (OE_buildSlice (vs := [(0, .int .i64 10), (1, .int .i64 12)]) rfl (buildSI2 _ _)) rfl ?_
  rintro bv w2 hN
  have hbv : SlV (m :: X) w2 bv [(10 : Int), (12 : Int)] := hN.slv (fun b hb => by have := hXw b hb; omega) rfl rfl (by simp [maxLen])
  have hS2 := NewSl.stp hN
  clear hN
  replace hmp := hmp.up hS2
  have hml2 := hS2.size
  refine WL_eff0 (OE_insertS (a := [62]) rfl rfl rfl hmp hbv (by decide)) ?_
  clear hmp
  rintro _ w3 ⟨hmp, hS3⟩
  have hml3 := hS3.size
  replace hml := Nat.lt_of_lt_of_le (Nat.lt_of_lt_of_le hml hml2) hml3
  replace hS := (hS.trans hS2).own hS3 (fun b hb => .inr (by simp at hb; omega))
  clear hS2 hS3 hbv hml2 hml3
  refine WL_eff (OE_buildSlice (vs := [(0, .int .i64 9), (1, .int .i64 12)]) rfl (buildSI2 _ _)) rfl ?_
  rintro bv w2 hN
  have hbv : SlV (m :: X) w2 bv [(9 : Int), (12 : Int)] := hN.slv (fun b hb => by have := hXw b hb; omega) rfl rfl (by simp [maxLen])
  have hS2 := NewSl.stp hN
  clear hN
  replace hmp := hmp.up hS2
  have hml2 := hS2.size
  refine WL_eff0 (OE_insertS (a := [62, 61]) rfl rfl rfl hmp hbv (by decide)) ?_
  clear hmp
  rintro _ w3 ⟨hmp, hS3⟩
  have hml3 := hS3.size
  replace hml := Nat.lt_of_lt_of_le (Nat.lt_of_lt_of_le hml hml2) hml3
  replace hS := (hS.trans hS2).own hS3 (fun b hb => .inr (by simp at hb; omega))
  clear hS2 hS3 hbv hml2 hml3
  refine WL_eff (OE_buildSlice (vs := [(0, .int .i64 11), (1, .int .i64 12)]) rfl (buildSI2 _ _)) rfl ?_
  rintro bv w2 hN
  have hbv : SlV (m :: X) w2 bv [(11 : Int), (12 : Int)] := hN.slv (fun b hb => by have := hXw b hb; omega) rfl rfl (by simp [maxLen])
  have hS2 := NewSl.stp hN
  clear hN
  replace hmp := hmp.up hS2
  have hml2 := hS2.size
  refine WL_eff0 (OE_insertS (a := [33, 61]) rfl rfl rfl hmp hbv (by decide)) ?_
  clear hmp
  rintro _ w3 ⟨hmp, hS3⟩
  have hml3 := hS3.size
  replace hml := Nat.lt_of_lt_of_le (Nat.lt_of_lt_of_le hml hml2) hml3
  replace hS := (hS.trans hS2).own hS3 (fun b hb => .inr (by simp at hb; omega))
  clear hS2 hS3 hbv hml2 hml3
  refine WL_eff (OE_buildSlice (vs := [(0, .int .i64 15)]) rfl (buildSI1 _)) rfl ?_
  rintro bv w2 hN
  have hbv : SlV (m :: X) w2 bv [(15 : Int)] := hN.slv (fun b hb => by have := hXw b hb; omega) rfl rfl (by simp [maxLen])
  have hS2 := NewSl.stp hN
  clear hN
  replace hmp := hmp.up hS2
  have hml2 := hS2.size
  refine WL_eff0 (OE_insertS (a := [100, 97, 121, 115]) rfl rfl rfl hmp hbv (by decide)) ?_
  clear hmp
  rintro _ w3 ⟨hmp, hS3⟩
  have hml3 := hS3.size
  replace hml := Nat.lt_of_lt_of_le (Nat.lt_of_lt_of_le hml hml2) hml3
  replace hS := (hS.trans hS2).own hS3 (fun b hb => .inr (by simp at hb; omega))
  clear hS2 hS3 hbv hml2 hml3
  refine WL_eff (OE_buildSlice (vs := [(0, .int .i64 16)]) rfl (buildSI1 _)) rfl ?_
  rintro bv w2 hN
  have hbv : SlV (m :: X) w2 bv [(16 : Int)] := hN.slv (fun b hb => by have := hXw b hb; omega) rfl rfl (by simp [maxLen])
  have hS2 := NewSl.stp hN
  clear hN
  replace hmp := hmp.up hS2
  have hml2 := hS2.size
  refine WL_eff0 (OE_insertS (a := [119, 101, 101, 107, 115]) rfl rfl rfl hmp hbv (by decide)) ?_
  clear hmp
  rintro _ w3 ⟨hmp, hS3⟩
  have hml3 := hS3.size
  replace hml := Nat.lt_of_lt_of_le (Nat.lt_of_lt_of_le hml hml2) hml3
  replace hS := (hS.trans hS2).own hS3 (fun b hb => .inr (by simp at hb; omega))
  clear hS2 hS3 hbv hml2 hml3
  refine WL_eff (OE_buildSlice (vs := [(0, .int .i64 17)]) rfl (buildSI1 _)) rfl ?_
  rintro bv w2 hN
  have hbv : SlV (m :: X) w2 bv [(17 : Int)] := hN.slv (fun b hb => by have := hXw b hb; omega) rfl rfl (by simp [maxLen])
  have hS2 := NewSl.stp hN
  clear hN
  replace hmp := hmp.up hS2
  have hml2 := hS2.size
  refine WL_eff0 (OE_insertS (a := [109, 111, 110, 116, 104, 115]) rfl rfl rfl hmp hbv (by decide)) ?_
  clear hmp
  rintro _ w3 ⟨hmp, hS3⟩
  have hml3 := hS3.size
  replace hml := Nat.lt_of_lt_of_le (Nat.lt_of_lt_of_le hml hml2) hml3
  replace hS := (hS.trans hS2).own hS3 (fun b hb => .inr (by simp at hb; omega))
  clear hS2 hS3 hbv hml2 hml3
  refine WL_eff (OE_buildSlice (vs := [(0, .int .i64 18)]) rfl (buildSI1 _)) rfl ?_
  rintro bv w2 hN
  have hbv : SlV (m :: X) w2 bv [(18 : Int)] := hN.slv (fun b hb => by have := hXw b hb; omega) rfl rfl (by simp [maxLen])
  have hS2 := NewSl.stp hN
  clear hN
  replace hmp := hmp.up hS2
  have hml2 := hS2.size
  refine WL_eff0 (OE_insertS (a := [99, 111, 117, 114, 116, 100, 97, 121, 115]) rfl rfl rfl hmp hbv (by decide)) ?_
  clear hmp
  rintro _ w3 ⟨hmp, hS3⟩
  have hml3 := hS3.size
  replace hml := Nat.lt_of_lt_of_le (Nat.lt_of_lt_of_le hml hml2) hml3
  replace hS := (hS.trans hS2).own hS3 (fun b hb => .inr (by simp at hb; omega))
  clear hS2 hS3 hbv hml2 hml3
  refine WL_eff (OE_buildSlice (vs := [(0, .int .i64 19)]) rfl (buildSI1 _)) rfl ?_
  rintro bv w2 hN
  have hbv : SlV (m :: X) w2 bv [(19 : Int)] := hN.slv (fun b hb => by have := hXw b hb; omega) rfl rfl (by simp [maxLen])
  have hS2 := NewSl.stp hN
  clear hN
  replace hmp := hmp.up hS2
  have hml2 := hS2.size
  refine WL_eff0 (OE_insertS (a := [110, 101, 120, 116]) rfl rfl rfl hmp hbv (by decide)) ?_
  clear hmp
  rintro _ w3 ⟨hmp, hS3⟩
  have hml3 := hS3.size
  replace hml := Nat.lt_of_lt_of_le (Nat.lt_of_lt_of_le hml hml2) hml3
  replace hS := (hS.trans hS2).own hS3 (fun b hb => .inr (by simp at hb; omega))
  clear hS2 hS3 hbv hml2 hml3
  refine WL_eff (OE_buildSlice (vs := [(0, .int .i64 20)]) rfl (buildSI1 _)) rfl ?_
  rintro bv w2 hN
  have hbv : SlV (m :: X) w2 bv [(20 : Int)] := hN.slv (fun b hb => by have := hXw b hb; omega) rfl rfl (by simp [maxLen])
  have hS2 := NewSl.stp hN
  clear hN
  replace hmp := hmp.up hS2
  have hml2 := hS2.size
  refine WL_eff0 (OE_insertS (a := [112, 114, 101, 118]) rfl rfl rfl hmp hbv (by decide)) ?_
  clear hmp
  rintro _ w3 ⟨hmp, hS3⟩
  have hml3 := hS3.size
  replace hml := Nat.lt_of_lt_of_le (Nat.lt_of_lt_of_le hml hml2) hml3
  replace hS := (hS.trans hS2).own hS3 (fun b hb => .inr (by simp at hb; omega))
  clear hS2 hS3 hbv hml2 hml3
  refine WL_eff (OE_buildSlice (vs := [(0, .int .i64 21)]) rfl (buildSI1 _)) rfl ?_
  rintro bv w2 hN
  have hbv : SlV (m :: X) w2 bv [(21 : Int)] := hN.slv (fun b hb => by have := hXw b hb; omega) rfl rfl (by simp [maxLen])
  have hS2 := NewSl.stp hN
  clear hN
  replace hmp := hmp.up hS2
  have hml2 := hS2.size
  refine WL_eff0 (OE_insertS (a := [108, 97, 116, 101, 114]) rfl rfl rfl hmp hbv (by decide)) ?_
  clear hmp
  rintro _ w3 ⟨hmp, hS3⟩
  have hml3 := hS3.size
  replace hml := Nat.lt_of_lt_of_le (Nat.lt_of_lt_of_le hml hml2) hml3
  replace hS := (hS.trans hS2).own hS3 (fun b hb => .inr (by simp at hb; omega))
  clear hS2 hS3 hbv hml2 hml3
  refine WL_eff (OE_buildSlice (vs := [(0, .int .i64 22)]) rfl (buildSI1 _)) rfl ?_
  rintro bv w2 hN
  have hbv : SlV (m :: X) w2 bv [(22 : Int)] := hN.slv (fun b hb => by have := hXw b hb; omega) rfl rfl (by simp [maxLen])
  have hS2 := NewSl.stp hN
  clear hN
  replace hmp := hmp.up hS2
  have hml2 := hS2.size
  refine WL_eff0 (OE_insertS (a := [101, 97, 114, 108, 105, 101, 114]) rfl rfl rfl hmp hbv (by decide)) ?_
  clear hmp
  rintro _ w3 ⟨hmp, hS3⟩
  have hml3 := hS3.size
  replace hml := Nat.lt_of_lt_of_le (Nat.lt_of_lt_of_le hml hml2) hml3
  replace hS := (hS.trans hS2).own hS3 (fun b hb => .inr (by simp at hb; omega))
  clear hS2 hS3 hbv hml2 hml3
  refine WL_eff (OE_buildSlice (vs := [(0, .int .i64 23)]) rfl (buildSI1 _)) rfl ?_
  rintro bv w2 hN
  have hbv : SlV (m :: X) w2 bv [(23 : Int)] := hN.slv (fun b hb => by have := hXw b hb; omega) rfl rfl (by simp [maxLen])
  have hS2 := NewSl.stp hN
  clear hN
  replace hmp := hmp.up hS2
  have hml2 := hS2.size
  refine WL_eff0 (OE_insertS (a := [98, 101, 116, 119, 101, 101, 110]) rfl rfl rfl hmp hbv (by decide)) ?_
  clear hmp
  rintro _ w3 ⟨hmp, hS3⟩
  have hml3 := hS3.size
  replace hml := Nat.lt_of_lt_of_le (Nat.lt_of_lt_of_le hml hml2) hml3
  replace hS := (hS.trans hS2).own hS3 (fun b hb => .inr (by simp at hb; omega))
  clear hS2 hS3 hbv hml2 hml3
  refine W ?_
  first | refine WQ_ret1 rfl rfl ?_ | refine WQ_ret2 rfl rfl rfl ?_ | refine WQ_ret3 rfl rfl rfl rfl ?_ | refine WQ_ret0 rfl ?_ | refine WQ_end0 rfl ?_
  exact .mk ⟨m, rfl, hmp, hS⟩
/-- the instructions of a word -/
def opF (s : Str) : List Int := match opEs.find? (fun p => decide (p.1 = s)) with | some p => p.2 | none => []
theorem opF_len (s : Str) : (opF s).length ≤ 2 := by
  unfold opF
  cases h : opEs.find? (fun p => decide (p.1 = s)) with
  | none => simp
  | some p =>
    have hp := List.mem_of_find?_eq_some h
    have : ∀ p ∈ opEs, p.2.length ≤ 2 := by decide
    exact this p hp
theorem MapS.get {X : List Nat} {w : World} {m : Nat} (h : MapS X w m opEs) (s : Str) : ∃ l : List (Str × Value), MapAt str w m l ∧ SlV X w (mget l s (.slice none 0 0)) (opF s) := by
  obtain ⟨l, h1, h2, h3⟩ := h
  refine ⟨l, h1, ?_⟩
  unfold mget opF
  have hf : (l.find? (fun p => decide (p.1 = s)) = none ∧ opEs.find? (fun p => decide (p.1 = s)) = none) ∨ ∃ i, ∃ (h : i < l.length) (h' : i < opEs.length), l.find? (fun p => decide (p.1 = s)) = some l[i] ∧ opEs.find? (fun p => decide (p.1 = s)) = some opEs[i] := by
    cases hq : l.find? (fun p => decide (p.1 = s)) with
    | none =>
      left
      refine ⟨rfl, ?_⟩
      rw [List.find?_eq_none]
      intro p hp
      obtain ⟨i, hi, rfl⟩ := List.getElem_of_mem hp
      have := List.find?_eq_none.1 hq l[i] (List.getElem_mem (by omega))
      rwa [(h3 i (by omega) hi).1] at this
    | some p =>
      right
      obtain ⟨hp, i, hi, rfl, hb⟩ := List.find?_eq_some_iff_getElem.1 hq
      refine ⟨i, hi, by omega, rfl, ?_⟩
      rw [List.find?_eq_some_iff_getElem]
      refine ⟨by rw [← (h3 i hi (by omega)).1]; exact hp, i, by omega, rfl, fun j hj => ?_⟩
      rw [← (h3 j (by omega) (by omega)).1]
      exact hb j hj
  rcases hf with ⟨e1, e2⟩ | ⟨i, h, h', e1, e2⟩
  · rw [e1, e2]
    exact ⟨none, 0, rfl, Nat.le_refl _, by simp [maxLen], fun _ => rfl, fun i h => absurd h (Nat.not_lt_zero _)⟩
  · rw [e1, e2]
    exact (h3 i h h').2.ext (Stp.refl [] w) (by simp) (fun b hb => .inl (List.mem_cons_of_mem _ hb))
end Go.Proofs.YtgpibcgebpgmiaaDoor

namespace Go.Proofs.YtgpibcgebpgmiaaDoor
open Go Go.Eng Go.RowKit
set_option linter.unusedVariables false

/-- codes one after another -/
def seqC : List Cf → Nat → List Ins
  | [], _ => []
  | c :: r, p => c p ++ seqC r (p + (c p).length)
theorem seqC_append (a b : List Cf) (p : Nat) : seqC (a ++ b) p = seqC a p ++ seqC b (p + (seqC a p).length) := by
  induction a generalizing p with
  | nil => simp [seqC]
  | cons c r ih =>
    simp only [List.cons_append, seqC, ih, List.length_append, List.append_assoc]
    rw [Nat.add_assoc]
theorem seqC_step (cs : List Cf) (p i : Nat) (h : i < cs.length) : seqC (cs.take (i + 1)) p = seqC (cs.take i) p ++ cs[i] (p + (seqC (cs.take i) p).length) := by
  rw [List.take_succ_eq_append_getElem h, seqC_append]
  simp [seqC]
theorem seqC_le (cs : List Cf) (p i : Nat) : (seqC (cs.take i) p).length ≤ (seqC cs p).length := by
  have : seqC cs p = seqC (cs.take i) p ++ seqC (cs.drop i) (p + (seqC (cs.take i) p).length) := by rw [← seqC_append, List.take_append_drop]
  rw [this, List.length_append]
  omega
def insO (l : List Int) : List Ins := l.map (fun o => ⟨o, 0⟩)
def plainC (k : Int) (s : Str) (cs : List Cf) (p : Nat) : List Ins := seqC cs p ++ (if k = 8 ∨ k = 5 ∧ s = [45] then [⟨8, 0⟩] else []) ++ insO (opF s)
theorem plain_any (x : Nd) (cs : List Cf) (hcl : cs.length = x.kids.length) (hcs : ∀ i (h : i < x.kids.length) (h' : i < cs.length), ExprOk x.kids[i] cs[i]) (w : World) (bc base : Nat) (v nv : Value) (xs : List Ins) (hc : Cod w bc base v xs)
    (hx : NdV (bc :: ob v) w nv x) (hF : SlV (bc :: ob v) w flds fieldNames) (hl : xs.length + (plainC x.kind x.word cs xs.length).length ≤ 100000) :
    Calls Tryd.prog 95 #[.pointer (some ⟨bc, 0, none⟩), nv] w (Ret fun r w' => Cods w bc base v (xs ++ plainC x.kind x.word cs xs.length) w') := by
  have hl' := hl
  unfold plainC at hl'
  simp only [List.length_append] at hl'
  obtain ⟨kv, rfl, hs⟩ := hx
  have hmax := hs.max
  refine calls_of_WC2 (n := 47) Tryd.func95 rfl rfl rfl ?_
  refine W ?_
  refine WL_eff (OE_box rfl) rfl ?_
  rintro _ wA ⟨b, rfl, hb, hblk, hS⟩
  replace hblk : Blk wA b _ (ndC x kv) := hblk
  have hobv : ∀ b ∈ bc :: ob v, b < w.heap.size := fun b hb => by
    rcases List.mem_cons.1 hb with rfl | h
    · exact hc.blk.lt
    · exact (hc.row.ob_le b h).2
  have nb : b ∉ bc :: ob v := fun h => by have := hobv _ h; omega
  replace hc := hc.up hS
  replace hs := hs.up hS
  replace hF := hF.up hS
  have main : ∀ ys w', Cods wA bc base v ys w' → Cods w bc base v ys w' := fun ys w' h => h.pre hS
  refine W ?_
  refine WC_cutB (σ := Value) (fun u => [(0, .pointer (some ⟨bc, 0, none⟩)), (3, .pointer (some ⟨b, 0, none⟩))]) (fun u w' => Fr wA w' bc base v u (xs ++ seqC cs xs.length)) ?_ ?_
  · refine WC_loop (σ := Nat × Value) (fun q => [(0, .pointer (some ⟨bc, 0, none⟩)), (3, .pointer (some ⟨b, 0, none⟩)), (9, kv), (10, .int .i64 (x.kids.length : Int)), (11, .int .i64 (q.1 : Int))]) (fun q w' => q.1 ≤ x.kids.length ∧ Fr wA w' bc base v q.2 (xs ++ seqC (cs.take q.1) xs.length)) (fun q => x.kids.length - q.1) (0, v) ⟨rfl, rfl, rfl, rfl, rfl, trivial⟩ ⟨Nat.zero_le _, by simpa [seqC] using Fr.start hc⟩ ?_
    rintro ⟨j, u⟩ w2 ⟨hj, fr⟩
    dsimp only at hj fr ⊢
    by_cases hlt : j < x.kids.length
    · have hs2 := fr.sl hs
      obtain ⟨kv2, hk2, hc2⟩ := hs2.nd hlt
      have hst := seqC_step cs xs.length j (by omega)
      have hle := seqC_le cs xs.length (j + 1)
      have hle0 := seqC_le cs xs.length j
      rw [hst, List.length_append] at hle
      repeat' (first | refine W1 ?_ | (exfalso; omega) | refine WL_split rfl rfl (fun hg => ?_) (fun hg => ?_) | refine WL_splitB rfl rfl (fun hg => ?_) (fun hg => ?_) | refine WC_cond rfl (fun hc => ?_) (fun hc => ?_) | refine WC_condB rfl (fun hc => ?_) (fun hc => ?_))
      apply WL_pure (PR_loadNd rfl rfl hs2 hlt hc2) rfl
      refine WL_eff OE_alloc rfl ?_
      rintro _ w3 ⟨b3, rfl, hb3, hblk3, hS3⟩
      refine WL_eff0 (OE_storeA (us := ndC x.kids[j] kv2) rfl rfl rfl rfl (ndC_one hk2) hblk3 rfl) ?_
      rintro _ w4 ⟨hS4, hblk4⟩
      have hS34 := hS3.own hS4 (fun c hc => .inr (by simp at hc; omega))
      replace fr := fr.up hS34
      replace hk2 := hk2.up hS34
      refine W ?_
      have hlen : (xs ++ seqC (cs.take j) xs.length).length = xs.length + (seqC (cs.take j) xs.length).length := List.length_append
      refine WL_eff (OE_call rfl (evs2 rfl rfl) (hcs j hlt (by omega) _ bc base _ _ _ fr.cod ⟨kv2, rfl, hk2⟩ (fr.sl hF) (by rw [hlen]; omega))) rfl ?_
      rintro _ w5 hq
      obtain ⟨u5, fr⟩ := fr.step hq
      rw [hlen, List.append_assoc, ← hst] at fr
      refine W ?_
      exact WQ_loop (j + 1, u5) ⟨rfl, rfl, rfl, rfl, rfl, trivial⟩ ⟨by dsimp only; omega, fr⟩ (by dsimp only; omega)
    · have hje : j = x.kids.length := by omega
      subst hje
      rw [← hcl, List.take_length] at fr
      repeat' (first | refine W1 ?_ | (exfalso; omega) | refine WL_split rfl rfl (fun hg => ?_) (fun hg => ?_) | refine WL_splitB rfl rfl (fun hg => ?_) (fun hg => ?_) | refine WC_cond rfl (fun hc => ?_) (fun hc => ?_) | refine WC_condB rfl (fun hc => ?_) (fun hc => ?_))
      exact WQ_cut u ⟨rfl, rfl, trivial⟩ fr
  rintro u w2 fr
  have hbk := fr.bk hblk nb
  unfold plainC
  generalize seqC cs xs.length = A at *
  rw [← List.append_assoc, ← List.append_assoc]
  refine WC_cut (σ := Value) (fun u => [(0, .pointer (some ⟨bc, 0, none⟩)), (3, .pointer (some ⟨b, 0, none⟩))]) (fun u w' => Fr wA w' bc base v u (xs ++ A ++ if x.kind = 8 ∨ x.kind = 5 ∧ x.word = [45] then [⟨8, 0⟩] else [])) ?_ ?_
  · by_cases hneg : x.kind = 8 ∨ x.kind = 5 ∧ x.word = [45]
    · have hln : (xs ++ A).length ≤ 1000000 := by simp only [List.length_append]; omega
      rw [if_pos hneg]
      repeat' (first | refine W1 ?_ | (exfalso; omega) | refine WL_split rfl rfl (fun hg => ?_) (fun hg => ?_) | refine WL_splitB rfl rfl (fun hg => ?_) (fun hg => ?_) | refine WC_cond rfl (fun hc => ?_) (fun hc => ?_) | refine WC_condB rfl (fun hc => ?_) (fun hc => ?_))
      all_goals first
        | (refine WL_eff (OE_call rfl (evs3 rfl rfl rfl) (put_any bc base _ _ 8 0 _ fr.cod hln)) rfl ?_
           rintro _ w3 ⟨rfl, hq⟩
           obtain ⟨u3, fr⟩ := fr.step hq
           refine W ?_
           exact WQ_cut u3 ⟨rfl, rfl, trivial⟩ fr)
        | (exfalso; rcases hneg with h | ⟨h1, h2⟩ <;> first | omega | contradiction)
    · rw [if_neg hneg, List.append_nil]
      have hn8 : ¬ x.kind = 8 := fun h => hneg (.inl h)
      repeat' (first | refine W1 ?_ | (exfalso; omega) | refine WL_split rfl rfl (fun hg => ?_) (fun hg => ?_) | refine WL_splitB rfl rfl (fun hg => ?_) (fun hg => ?_) | refine WC_cond rfl (fun hc => ?_) (fun hc => ?_) | refine WC_condB rfl (fun hc => ?_) (fun hc => ?_))
      all_goals first
        | exact WQ_cut u ⟨rfl, rfl, trivial⟩ fr
        | (exfalso; exact hneg (.inr ⟨by assumption, by assumption⟩))
  rintro u3 w3 fr
  have hbk := fr.bk hblk nb
  have hol := opF_len x.word
  generalize hB : xs ++ A ++ (if x.kind = 8 ∨ x.kind = 5 ∧ x.word = [45] then [(⟨8, 0⟩ : Ins)] else []) = B at *
  have hBl : B.length ≤ 200000 := by
    rw [← hB]
    simp only [List.length_append]
    have : (if x.kind = 8 ∨ x.kind = 5 ∧ x.word = [45] then [(⟨8, 0⟩ : Ins)] else []).length ≤ 1 := by split <;> simp
    omega
  refine W ?_
  refine WC_drawn 6 [] [] [(1, 0), (2, 1), (5, 0), (0, 2), (3, 2), (4, 0)] rfl mixed (by kernel_rfl) (by kernel_rfl) (by kernel_rfl) (fun w1 hS1 => ?_)
  replace fr := fr.up hS1
  replace hbk := hbk.up hS1
  have hou : ∀ b ∈ bc :: ob u3, b < w1.heap.size := fun b hb => (List.mem_cons.1 hb).elim (fun h => h ▸ fr.cod.blk.lt) (fun h => (fr.cod.row.ob_le b h).2)
  refine D ?_
  refine WD_eff rfl trivial (OE_call rfl evs0 (operators_any (bc :: ob u3) _ hou)) (fun _ _ h => h.choose_spec.2.2) rfl ?_
  rintro _ w5 ⟨m, rfl, hm, hS5⟩
  replace fr := fr.up hS5
  obtain ⟨l, hml, hsl⟩ := hm.get x.word
  refine WD_eff rfl trivial (OE_pr (PR_lookup (K := inferInstance) (a := x.word) rfl rfl hml)) (fun _ _ h => h.2 ▸ Stp.refl _ _) rfl ?_
  rintro _ _ ⟨rfl, rfl⟩
  generalize mget l x.word (.slice none 0 0) = ov at *
  generalize opF x.word = O at *
  refine D ?_
  refine W ?_
  refine WC_loop (σ := Nat × Value) (fun q => [(0, .pointer (some ⟨bc, 0, none⟩)), (37, ov), (38, .int .i64 (O.length : Int)), (39, .int .i64 (q.1 : Int))]) (fun q w' => q.1 ≤ O.length ∧ SlV (bc :: ob q.2) w' ov O ∧ Fr wA w' bc base v q.2 (B ++ insO (O.take q.1))) (fun q => O.length - q.1) (0, u3) ⟨rfl, rfl, rfl, rfl, trivial⟩ ⟨Nat.zero_le _, hsl, by simpa [insO] using fr⟩ ?_
  clear fr hsl hou
  rintro ⟨j, u⟩ w6 ⟨hj, hsl, fr⟩
  dsimp only at hj fr ⊢
  by_cases hlt : j < O.length
  · have hln : (B ++ insO (O.take j)).length ≤ 1000000 := by simp only [List.length_append, insO, List.length_map, List.length_take]; omega
    repeat' (first | refine W1 ?_ | (exfalso; omega) | refine WL_split rfl rfl (fun hg => ?_) (fun hg => ?_) | refine WL_splitB rfl rfl (fun hg => ?_) (fun hg => ?_) | refine WC_cond rfl (fun hc => ?_) (fun hc => ?_) | refine WC_condB rfl (fun hc => ?_) (fun hc => ?_))
    refine WL_eff (OE_call rfl (evs3 rfl rfl rfl) (put_any bc base _ _ O[j] 0 _ fr.cod hln)) rfl ?_
    rintro _ w7 ⟨rfl, hq⟩
    obtain ⟨u7, hc7, hS7, hb7⟩ := id hq
    have hsl7 : SlV (bc :: ob u7) w7 ov O := keepX hsl hS7 hb7
    have fr7 : Fr wA w7 bc base v u7 (B ++ insO (O.take j) ++ [⟨O[j], 0⟩]) := by
      refine ⟨hc7, ?_, fun b hb => ?_⟩
      · exact fr.stp.own hS7 (fun b hb => by
          rcases List.mem_cons.1 hb with rfl | h
          · exact .inl (by simp)
          · exact (fr.sub b h).imp (fun h => List.mem_cons_of_mem _ h) id)
      · rcases hb7 b hb with h | h
        · exact fr.sub b h
        · exact .inr (Nat.le_trans fr.stp.size h)
    refine W ?_
    refine WQ_loop (j + 1, u7) ⟨rfl, rfl, rfl, rfl, trivial⟩ ⟨by dsimp only; omega, hsl7, ?_⟩ (by dsimp only; omega)
    dsimp only
    rw [List.take_succ_eq_append_getElem hlt]
    unfold insO at fr7 ⊢
    rw [List.map_append, ← List.append_assoc]
    exact fr7
  · have hje : j = O.length := by omega
    subst hje
    rw [List.take_length] at fr
    repeat' (first | refine W1 ?_ | (exfalso; omega) | refine WL_split rfl rfl (fun hg => ?_) (fun hg => ?_) | refine WL_splitB rfl rfl (fun hg => ?_) (fun hg => ?_) | refine WC_cond rfl (fun hc => ?_) (fun hc => ?_) | refine WC_condB rfl (fun hc => ?_) (fun hc => ?_))
    first | refine WQ_ret1 rfl rfl ?_ | refine WQ_ret2 rfl rfl rfl ?_ | refine WQ_ret3 rfl rfl rfl rfl ?_ | refine WQ_ret0 rfl ?_ | refine WQ_end0 rfl ?_
    exact .mk (main _ _ fr.fin)
end Go.Proofs.YtgpibcgebpgmiaaDoor

namespace Go.Proofs.YtgpibcgebpgmiaaDoor
open Go Go.Eng Go.RowKit
set_option linter.unusedVariables false

/-- the instruction of a node without kids -/
def leafI (k n : Int) (s : Str) : Ins := if k = 1 then ⟨1, n⟩ else if k = 2 then ⟨2, n⟩ else if k = 3 then ⟨3, n⟩ else ⟨4, (fieldF s).1⟩
def nilC : Cf := fun _ => []
/-- the code of a node for those of its kids -/
def combC (k n : Int) (s : Str) (cs : List Cf) (p : Nat) : List Ins :=
  if cs.length = 0 then [leafI k n s]
  else if k = 9 then chC (cs.getD 0 nilC) (cs.getD 1 nilC) (cs.getD 2 nilC) p
  else if k = 6 ∧ s = [97, 110, 100] then chC (cs.getD 0 nilC) (cs.getD 1 nilC) (fun _ => [⟨2, 0⟩]) p
  else if k = 6 ∧ s = [111, 114] then chC (cs.getD 0 nilC) (fun _ => [⟨2, 1⟩]) (cs.getD 1 nilC) p
  else if k = 6 ∧ s = [45] then plainC k s cs p ++ [⟨6, 0⟩]
  else plainC k s cs p
def codeN : Nd → Nat → List Ins
  | .mk k n s l => combC k n s (l.map codeN)
theorem codeN_eq (x : Nd) : codeN x = combC x.kind x.num x.word (x.kids.map codeN) := by
  cases x
  rw [codeN]
  rfl
theorem buildNb0 (w : World) : (Instr.build 25 #[(0, .int .i64 2)]).run Tryd.prog w = .ok (.agg #[.int .i64 2, .int .i64 0, str [], .slice none 0 0]) w := by kernel_rfl
theorem buildNb1 (w : World) : (Instr.build 25 #[(0, .int .i64 2), (1, .int .i64 1)]).run Tryd.prog w = .ok (.agg #[.int .i64 2, .int .i64 1, str [], .slice none 0 0]) w := by kernel_rfl
theorem nilSlv {α : Type} [GoRep α] (X : List Nat) (w : World) : SlV (α := α) X w (.slice none 0 0) [] := ⟨none, 0, rfl, Nat.le_refl _, by simp [maxLen], fun _ => rfl, fun i h => absurd h (Nat.not_lt_zero _)⟩
/-- a constant -/
theorem exprBool (z : Int) : ExprOk (.mk 2 z [] []) (fun _ => [⟨2, z⟩]) := by
  intro w bc base v nv xs hc hx hF hl
  obtain ⟨kv, rfl, hs⟩ := hx
  refine calls_of_WC2 (n := 63) Tryd.func68 rfl rfl rfl ?_
  refine W ?_
  refine WL_eff (OE_box rfl) rfl ?_
  rintro _ w1 ⟨b, rfl, hb, hblk, hS⟩
  replace hblk : Blk w1 b _ [.int .i64 2, .int .i64 z, str [], kv] := hblk
  refine W ?_
  refine WL_eff (OE_call rfl (evs3 rfl rfl rfl) (put_any bc base _ _ 2 z _ (hc.up hS) (by omega))) rfl ?_
  rintro _ w2 ⟨rfl, hq⟩
  refine W ?_
  first | refine WQ_ret1 rfl rfl ?_ | refine WQ_ret2 rfl rfl rfl ?_ | refine WQ_ret3 rfl rfl rfl rfl ?_ | refine WQ_ret0 rfl ?_ | refine WQ_end0 rfl ?_
  exact .mk (hq.pre hS)
theorem minus_any (x : Nd) (cs : List Cf) (hcl : cs.length = x.kids.length) (hcs : ∀ i (h : i < x.kids.length) (h' : i < cs.length), ExprOk x.kids[i] cs[i]) (w : World) (bc base : Nat) (v nv : Value) (xs : List Ins) (hc : Cod w bc base v xs)
    (hx : NdV (bc :: ob v) w nv x) (hF : SlV (bc :: ob v) w flds fieldNames) (hl : xs.length + (plainC x.kind x.word cs xs.length).length ≤ 100000) :
    Calls Tryd.prog 120 #[.pointer (some ⟨bc, 0, none⟩), nv] w (Ret fun r w' => Cods w bc base v (xs ++ (plainC x.kind x.word cs xs.length ++ [⟨6, 0⟩])) w') := by
  obtain ⟨kv, rfl, hs⟩ := hx
  refine calls_of_WC2 (n := 9) Tryd.func120 rfl rfl rfl ?_
  refine W ?_
  refine WL_eff (OE_box rfl) rfl ?_
  rintro _ w1 ⟨b, rfl, hb, hblk, hS⟩
  replace hblk : Blk w1 b _ (ndC x kv) := hblk
  have fr := Fr.start (hc.up hS)
  refine W ?_
  refine WL_eff (OE_call rfl (evs2 rfl rfl) (plain_any x cs hcl hcs _ bc base _ _ _ fr.cod ⟨kv, rfl, hs.up hS⟩ (hF.up hS) hl)) rfl ?_
  rintro _ w2 hq
  obtain ⟨v2, fr⟩ := fr.step hq
  refine W ?_
  refine WL_eff (OE_call rfl (evs3 rfl rfl rfl) (put_any bc base _ _ 6 0 _ fr.cod (by simp only [List.length_append]; omega))) rfl ?_
  rintro _ w3 ⟨rfl, hq⟩
  obtain ⟨v3, fr⟩ := fr.step hq
  rw [List.append_assoc] at fr
  refine W ?_
  first | refine WQ_ret1 rfl rfl ?_ | refine WQ_ret2 rfl rfl rfl ?_ | refine WQ_ret3 rfl rfl rfl rfl ?_ | refine WQ_ret0 rfl ?_ | refine WQ_end0 rfl ?_
  exact .mk (fr.fin.pre hS)
end Go.Proofs.YtgpibcgebpgmiaaDoor

namespace Go.Proofs.YtgpibcgebpgmiaaDoor
open Go Go.Eng Go.RowKit
set_option linter.unusedVariables false

theorem cell_on {α : Type} [GoRep α] {X : List Nat} {w w' : World} {v u : Value} {l : List α} {i k j : Nat} (hs : SlV X w v l) (hi : i < l.length) (hS : Stp X w w') (h : w.cell? (elAddr v i k j) = some u) : w'.cell? (elAddr v i k j) = some u := by
  obtain ⟨p, c, rfl, _, _, _, hc⟩ := hs
  obtain ⟨b, o, cs, rfl, _, hx, _⟩ := hc i hi
  exact hS.cell hx h
theorem and_any (x : Nd) (cs : List Cf) (hk2 : x.kids.length = 2) (hcl : cs.length = x.kids.length) (hcs : ∀ i (h : i < x.kids.length) (h' : i < cs.length), ExprOk x.kids[i] cs[i]) (w : World) (bc base : Nat) (v nv : Value) (xs : List Ins) (hc : Cod w bc base v xs)
    (hx : NdV (bc :: ob v) w nv x) (hF : SlV (bc :: ob v) w flds fieldNames) (hl : xs.length + (chC (cs.getD 0 nilC) (cs.getD 1 nilC) (fun _ => [⟨2, 0⟩]) xs.length).length ≤ 100000) :
    Calls Tryd.prog 118 #[.pointer (some ⟨bc, 0, none⟩), nv] w (Ret fun r w' => Cods w bc base v (xs ++ chC (cs.getD 0 nilC) (cs.getD 1 nilC) (fun _ => [⟨2, 0⟩]) xs.length) w') := by
  obtain ⟨kv, rfl, hs⟩ := hx
  have h0 : 0 < x.kids.length := by omega
  have h1 : 1 < x.kids.length := by omega
  have g0 : cs.getD 0 nilC = cs[0]'(by omega) := by simp [List.getD, hcl, h0]
  have g1 : cs.getD 1 nilC = cs[1]'(by omega) := by simp [List.getD, hcl, h1]
  rw [g0, g1] at hl ⊢
  refine calls_of_WC2 (n := 15) Tryd.func118 rfl rfl rfl ?_
  refine W ?_
  refine WL_eff (OE_box rfl) rfl ?_
  rintro _ wA ⟨b, rfl, hb, hblk, hS⟩
  replace hblk : Blk wA b _ (ndC x kv) := hblk
  replace hs := hs.up hS
  have nb : b ∉ bc :: ob v := fun h => by
    rcases List.mem_cons.1 h with rfl | h
    · have := hc.blk.lt; omega
    · have := (hc.row.ob_le b h).2; omega
  refine W ?_
  refine WC_drawn 11 (bc :: ob v) [] [(0, 0), (1, 0), (2, 1), (3, 0), (4, 1), (5, 0), (6, 1), (7, 0), (8, 1), (9, 0), (10, 2)] rfl mixed (by kernel_rfl) (by kernel_rfl) (by kernel_rfl) (fun w1 hS1 => ?_)
  replace hs := hs.up hS1
  replace hblk := hblk.up hS1
  replace hS := hS.trans hS1
  obtain ⟨u0, s0, c0⟩ := hs.nd h0
  obtain ⟨u1, s1, c1⟩ := hs.nd h1
  refine D ?_
  try (refine WD_read rfl trivial (fun w' hS' => PR_load_blk rfl rfl (hblk.ext hS' nb) rfl) rfl ?_)
  refine D ?_
  refine WD_read rfl trivial (fun w' hS' => PR_loadNd rfl rfl (hs.on hS' (fun _ h => h)) h0 (fun j u hj => cell_on hs h0 hS' (c0 j u hj))) rfl ?_
  refine D ?_
  try (refine WD_read rfl trivial (fun w' hS' => PR_load_blk rfl rfl (hblk.ext hS' nb) rfl) rfl ?_)
  refine D ?_
  refine WD_read rfl trivial (fun w' hS' => PR_loadNd rfl rfl (hs.on hS' (fun _ h => h)) h1 (fun j u hj => cell_on hs h1 hS' (c1 j u hj))) rfl ?_
  refine D ?_
  apply WD_op
  exact rfl
  apply WO_build (vs := [(0, .int .i64 2)])
  exact trivial
  exact rfl
  exact buildNb0
  exact rfl
  refine WD_eff rfl trivial (OE_call rfl (evs4 rfl rfl rfl rfl) (choice_any (x := x.kids[0]) (y := x.kids[1]) (n := .mk 2 0 [] []) (hcs 0 h0 (by omega)) (hcs 1 h1 (by omega)) (exprBool 0) _ bc base v _ _ _ xs (hc.up hS) ⟨u0, rfl, s0⟩ ⟨u1, rfl, s1⟩ ⟨_, rfl, nilSlv _ _⟩ (hF.up hS) hl)) (fun _ _ h => by obtain ⟨_, _, h2, _⟩ := h; exact h2) rfl ?_
  rintro _ w5 hq
  refine D ?_
  refine W ?_
  first | refine WQ_ret1 rfl rfl ?_ | refine WQ_ret2 rfl rfl rfl ?_ | refine WQ_ret3 rfl rfl rfl rfl ?_ | refine WQ_ret0 rfl ?_ | refine WQ_end0 rfl ?_
  exact .mk (hq.pre hS)
theorem or_any (x : Nd) (cs : List Cf) (hk2 : x.kids.length = 2) (hcl : cs.length = x.kids.length) (hcs : ∀ i (h : i < x.kids.length) (h' : i < cs.length), ExprOk x.kids[i] cs[i]) (w : World) (bc base : Nat) (v nv : Value) (xs : List Ins) (hc : Cod w bc base v xs)
    (hx : NdV (bc :: ob v) w nv x) (hF : SlV (bc :: ob v) w flds fieldNames) (hl : xs.length + (chC (cs.getD 0 nilC) (fun _ => [⟨2, 1⟩]) (cs.getD 1 nilC) xs.length).length ≤ 100000) :
    Calls Tryd.prog 119 #[.pointer (some ⟨bc, 0, none⟩), nv] w (Ret fun r w' => Cods w bc base v (xs ++ chC (cs.getD 0 nilC) (fun _ => [⟨2, 1⟩]) (cs.getD 1 nilC) xs.length) w') := by
  obtain ⟨kv, rfl, hs⟩ := hx
  have h0 : 0 < x.kids.length := by omega
  have h1 : 1 < x.kids.length := by omega
  have g0 : cs.getD 0 nilC = cs[0]'(by omega) := by simp [List.getD, hcl, h0]
  have g1 : cs.getD 1 nilC = cs[1]'(by omega) := by simp [List.getD, hcl, h1]
  rw [g0, g1] at hl ⊢
  refine calls_of_WC2 (n := 15) Tryd.func119 rfl rfl rfl ?_
  refine W ?_
  refine WL_eff (OE_box rfl) rfl ?_
  rintro _ wA ⟨b, rfl, hb, hblk, hS⟩
  replace hblk : Blk wA b _ (ndC x kv) := hblk
  replace hs := hs.up hS
  have nb : b ∉ bc :: ob v := fun h => by
    rcases List.mem_cons.1 h with rfl | h
    · have := hc.blk.lt; omega
    · have := (hc.row.ob_le b h).2; omega
  refine W ?_
  refine WC_drawn 11 (bc :: ob v) [] [(0, 0), (1, 0), (2, 1), (3, 0), (4, 1), (5, 0), (6, 0), (7, 1), (8, 0), (9, 1), (10, 2)] rfl mixed (by kernel_rfl) (by kernel_rfl) (by kernel_rfl) (fun w1 hS1 => ?_)
  replace hs := hs.up hS1
  replace hblk := hblk.up hS1
  replace hS := hS.trans hS1
  obtain ⟨u0, s0, c0⟩ := hs.nd h0
  obtain ⟨u1, s1, c1⟩ := hs.nd h1
  refine D ?_
  try (refine WD_read rfl trivial (fun w' hS' => PR_load_blk rfl rfl (hblk.ext hS' nb) rfl) rfl ?_)
  refine D ?_
  refine WD_read rfl trivial (fun w' hS' => PR_loadNd rfl rfl (hs.on hS' (fun _ h => h)) h0 (fun j u hj => cell_on hs h0 hS' (c0 j u hj))) rfl ?_
  refine D ?_
  apply WD_op
  exact rfl
  apply WO_build (vs := [(0, .int .i64 2), (1, .int .i64 1)])
  exact trivial
  exact rfl
  exact buildNb1
  exact rfl
  refine D ?_
  try (refine WD_read rfl trivial (fun w' hS' => PR_load_blk rfl rfl (hblk.ext hS' nb) rfl) rfl ?_)
  refine D ?_
  refine WD_read rfl trivial (fun w' hS' => PR_loadNd rfl rfl (hs.on hS' (fun _ h => h)) h1 (fun j u hj => cell_on hs h1 hS' (c1 j u hj))) rfl ?_
  refine WD_eff rfl trivial (OE_call rfl (evs4 rfl rfl rfl rfl) (choice_any (x := x.kids[0]) (y := .mk 2 1 [] []) (n := x.kids[1]) (hcs 0 h0 (by omega)) (exprBool 1) (hcs 1 h1 (by omega)) _ bc base v _ _ _ xs (hc.up hS) ⟨u0, rfl, s0⟩ ⟨_, rfl, nilSlv _ _⟩ ⟨u1, rfl, s1⟩ (hF.up hS) hl)) (fun _ _ h => by obtain ⟨_, _, h2, _⟩ := h; exact h2) rfl ?_
  rintro _ w5 hq
  refine D ?_
  refine W ?_
  first | refine WQ_ret1 rfl rfl ?_ | refine WQ_ret2 rfl rfl rfl ?_ | refine WQ_ret3 rfl rfl rfl rfl ?_ | refine WQ_ret0 rfl ?_ | refine WQ_end0 rfl ?_
  exact .mk (hq.pre hS)
end Go.Proofs.YtgpibcgebpgmiaaDoor

namespace Go.Proofs.YtgpibcgebpgmiaaDoor
open Go Go.Eng Go.RowKit
set_option linter.unusedVariables false

theorem SlV.nil {α : Type} [GoRep α] {X : List Nat} {w : World} {v : Value} {l : List α} (h : SlV X w v l) : SlV [] w v l := h.ext (Stp.refl [] w) (by simp) (by simp)
theorem binaryC_any (x : Nd) (hk6 : x.kind = 6) (cs : List Cf) (hk2 : x.kids.length = 2) (hcl : cs.length = x.kids.length) (hcs : ∀ i (h : i < x.kids.length) (h' : i < cs.length), ExprOk x.kids[i] cs[i]) (w : World) (bc base : Nat) (v nv : Value) (xs : List Ins) (hcd : Cod w bc base v xs)
    (hx : NdV (bc :: ob v) w nv x) (hF : SlV (bc :: ob v) w flds fieldNames) (hl : xs.length + (combC x.kind x.num x.word cs xs.length).length ≤ 100000) :
    Calls Tryd.prog 93 #[.pointer (some ⟨bc, 0, none⟩), nv] w (Ret fun r w' => Cods w bc base v (xs ++ combC x.kind x.num x.word cs xs.length) w') := by
  have hne : ¬ cs.length = 0 := by omega
  have hn9 : ¬ x.kind = 9 := by omega
  unfold combC at hl ⊢
  rw [if_neg hne, if_neg hn9] at hl ⊢
  obtain ⟨kv, rfl, hs⟩ := hx
  refine calls_of_WC2 (n := 17) Tryd.func93 rfl rfl rfl ?_
  refine W ?_
  refine WL_eff (OE_box rfl) rfl ?_
  rintro _ wA ⟨b, rfl, hb, hblk, hS⟩
  replace hblk : Blk wA b _ (ndC x kv) := hblk
  have main : ∀ ys w', Cods wA bc base v ys w' → Cods w bc base v ys w' := fun ys w' h => h.pre hS
  replace hcd := hcd.up hS
  replace hs := hs.up hS
  replace hF := hF.up hS
  repeat' (first | refine W1 ?_ | (exfalso; omega) | refine WL_split rfl rfl (fun hg => ?_) (fun hg => ?_) | refine WL_splitB rfl rfl (fun hg => ?_) (fun hg => ?_) | refine WC_cond rfl (fun hc => ?_) (fun hc => ?_) | refine WC_condB rfl (fun hc => ?_) (fun hc => ?_))
  · rw [if_pos ⟨hk6, by assumption⟩] at hl ⊢
    refine WL_eff (OE_call rfl (evs2 rfl rfl) (and_any x cs hk2 hcl hcs _ bc base _ _ _ hcd ⟨kv, rfl, hs⟩ hF hl)) rfl ?_
    rintro _ w2 hq
    refine W ?_
    first | refine WQ_ret1 rfl rfl ?_ | refine WQ_ret2 rfl rfl rfl ?_ | refine WQ_ret3 rfl rfl rfl rfl ?_ | refine WQ_ret0 rfl ?_ | refine WQ_end0 rfl ?_
    exact .mk (main _ _ hq)
  · rw [if_neg (fun h => absurd h.2 (by assumption)), if_pos ⟨hk6, by assumption⟩] at hl ⊢
    refine WL_eff (OE_call rfl (evs2 rfl rfl) (or_any x cs hk2 hcl hcs _ bc base _ _ _ hcd ⟨kv, rfl, hs⟩ hF hl)) rfl ?_
    rintro _ w2 hq
    refine W ?_
    first | refine WQ_ret1 rfl rfl ?_ | refine WQ_ret2 rfl rfl rfl ?_ | refine WQ_ret3 rfl rfl rfl rfl ?_ | refine WQ_ret0 rfl ?_ | refine WQ_end0 rfl ?_
    exact .mk (main _ _ hq)
  · rw [if_neg (fun h => absurd h.2 (by assumption)), if_neg (fun h => absurd h.2 (by assumption)), if_pos ⟨hk6, by assumption⟩] at hl ⊢
    rw [List.length_append] at hl
    refine WL_eff (OE_call rfl (evs2 rfl rfl) (minus_any x cs hcl hcs _ bc base _ _ _ hcd ⟨kv, rfl, hs⟩ hF (by omega))) rfl ?_
    rintro _ w2 hq
    refine W ?_
    first | refine WQ_ret1 rfl rfl ?_ | refine WQ_ret2 rfl rfl rfl ?_ | refine WQ_ret3 rfl rfl rfl rfl ?_ | refine WQ_ret0 rfl ?_ | refine WQ_end0 rfl ?_
    exact .mk (main _ _ hq)
  · rw [if_neg (fun h => absurd h.2 (by assumption)), if_neg (fun h => absurd h.2 (by assumption)), if_neg (fun h => absurd h.2 (by assumption))] at hl ⊢
    refine WL_eff (OE_call rfl (evs2 rfl rfl) (plain_any x cs hcl hcs _ bc base _ _ _ hcd ⟨kv, rfl, hs⟩ hF hl)) rfl ?_
    rintro _ w2 hq
    refine W ?_
    first | refine WQ_ret1 rfl rfl ?_ | refine WQ_ret2 rfl rfl rfl ?_ | refine WQ_ret3 rfl rfl rfl rfl ?_ | refine WQ_ret0 rfl ?_ | refine WQ_end0 rfl ?_
    exact .mk (main _ _ hq)
theorem codeN_leaf {x : Nd} (h : x.kids = []) (p : Nat) : codeN x p = [leafI x.kind x.num x.word] := by
  rw [codeN_eq, h]
  simp [combC]
theorem codeN_kids {x : Nd} (h : x.kids ≠ []) : (x.kids.map codeN).length ≠ 0 := by simpa using h
theorem codeN_getD {x : Nd} {i : Nat} (h : i < x.kids.length) : (x.kids.map codeN).getD i nilC = codeN x.kids[i] := by simp [List.getD, h]
theorem expr_ok (x : Nd) : typeT x ≠ 0 → ExprOk x (codeN x) := by
  induction x using Nd.ind with
  | h k n s l ih =>
  intro hty
  have hkt := (typed_kids hty).2
  have hcs : ∀ i (h : i < (Nd.mk k n s l).kids.length) (h' : i < ((Nd.mk k n s l).kids.map codeN).length), ExprOk (Nd.mk k n s l).kids[i] ((Nd.mk k n s l).kids.map codeN)[i] := by
    intro i h h'
    rw [List.getElem_map]
    exact ih _ (List.getElem_mem h) (hkt _ (List.getElem_mem h))
  have hcl : ((Nd.mk k n s l).kids.map codeN).length = (Nd.mk k n s l).kids.length := by simp
  have hsh := typed_shape hty
  have hlf := typed_leaf hty
  have hcN := codeN_eq (.mk k n s l)
  have hcL := codeN_leaf (x := .mk k n s l)
  have hkl : (Nd.mk k n s l).kids ≠ [] → 5 ≤ (Nd.mk k n s l).kind := by
    intro h
    rcases (hsh h).2 with ⟨h, _, _⟩ | ⟨h, _, _⟩ | ⟨h, _, _⟩ | ⟨h, _⟩ | ⟨h, _, _⟩ <;> omega
  have hk6 : (Nd.mk k n s l).kind = 6 → (Nd.mk k n s l).kids.length = 2 := by
    intro h6
    by_cases h0 : (Nd.mk k n s l).kids = []
    · have := hlf h0; omega
    rcases (hsh h0).2 with ⟨h, _, _⟩ | ⟨h, _, hm⟩ | ⟨h, _, _⟩ | ⟨h, _⟩ | ⟨h, _, _⟩ <;> omega
  have hk9 : (Nd.mk k n s l).kind = 9 → (Nd.mk k n s l).kids.length = 3 := by
    intro h6
    by_cases h0 : (Nd.mk k n s l).kids = []
    · have := hlf h0; omega
    rcases (hsh h0).2 with ⟨h, _, _⟩ | ⟨h, _, hm⟩ | ⟨h, _, _⟩ | ⟨h, hm⟩ | ⟨h, _, _⟩ <;> omega
  have hgD := fun i => codeN_getD (x := .mk k n s l) (i := i)
  generalize (Nd.mk k n s l) = x at *
  clear ih
  intro w bc base v nv xs hcd hx hF hl
  obtain ⟨kv, rfl, hs⟩ := hx
  refine calls_of_WC2 (n := 63) Tryd.func68 rfl rfl rfl ?_
  refine W ?_
  refine WL_eff (OE_box rfl) rfl ?_
  rintro _ wA ⟨b, rfl, hb, hblk, hS⟩
  replace hblk : Blk wA b _ (ndC x kv) := hblk
  have main : ∀ ys w', Cods wA bc base v ys w' → Cods w bc base v ys w' := fun ys w' h => h.pre hS
  have hobv : ∀ b ∈ bc :: ob v, b < w.heap.size := fun b hb => by
    rcases List.mem_cons.1 hb with rfl | h
    · exact hcd.blk.lt
    · exact (hcd.row.ob_le b h).2
  have nb : b ∉ bc :: ob v := fun h => by have := hobv _ h; omega
  replace hcd := hcd.up hS
  replace hs := hs.up hS
  replace hF := hF.up hS
  have leaf : ∀ op n, [(⟨op, n⟩ : Ins)] = codeN x xs.length → ∀ w', Cods wA bc base v (xs ++ [⟨op, n⟩]) w' → Cods w bc base v (xs ++ codeN x xs.length) w' := fun op n h w' h' => h ▸ main _ _ h'
  repeat' (first | refine W1 ?_ | (exfalso; omega) | refine WL_split rfl rfl (fun hg => ?_) (fun hg => ?_) | refine WL_splitB rfl rfl (fun hg => ?_) (fun hg => ?_) | refine WC_cond rfl (fun hc => ?_) (fun hc => ?_) | refine WC_condB rfl (fun hc => ?_) (fun hc => ?_))
  · have h0 : x.kids = [] := Decidable.byContradiction (fun h => by have := hkl h; omega)
    refine WL_eff (OE_call rfl (evs3 rfl rfl rfl) (put_any bc base _ _ 1 x.num _ hcd (by omega))) rfl ?_
    rintro _ w2 ⟨rfl, hq⟩
    refine W ?_
    first | refine WQ_ret1 rfl rfl ?_ | refine WQ_ret2 rfl rfl rfl ?_ | refine WQ_ret3 rfl rfl rfl rfl ?_ | refine WQ_ret0 rfl ?_ | refine WQ_end0 rfl ?_
    exact .mk (leaf _ _ (by rw [hcL h0, leafI, if_pos (by assumption)]) _ hq)
  · have h0 : x.kids = [] := Decidable.byContradiction (fun h => by have := hkl h; omega)
    refine WL_eff (OE_call rfl (evs3 rfl rfl rfl) (put_any bc base _ _ 2 x.num _ hcd (by omega))) rfl ?_
    rintro _ w2 ⟨rfl, hq⟩
    refine W ?_
    first | refine WQ_ret1 rfl rfl ?_ | refine WQ_ret2 rfl rfl rfl ?_ | refine WQ_ret3 rfl rfl rfl rfl ?_ | refine WQ_ret0 rfl ?_ | refine WQ_end0 rfl ?_
    exact .mk (leaf _ _ (by rw [hcL h0, leafI, if_neg (by assumption), if_pos (by assumption)]) _ hq)
  · have h0 : x.kids = [] := Decidable.byContradiction (fun h => by have := hkl h; omega)
    refine WL_eff (OE_call rfl (evs3 rfl rfl rfl) (put_any bc base _ _ 3 x.num _ hcd (by omega))) rfl ?_
    rintro _ w2 ⟨rfl, hq⟩
    refine W ?_
    first | refine WQ_ret1 rfl rfl ?_ | refine WQ_ret2 rfl rfl rfl ?_ | refine WQ_ret3 rfl rfl rfl rfl ?_ | refine WQ_ret0 rfl ?_ | refine WQ_end0 rfl ?_
    exact .mk (leaf _ _ (by rw [hcL h0, leafI, if_neg (by assumption), if_neg (by assumption), if_pos (by assumption)]) _ hq)
  · have h0 : x.kids = [] := Decidable.byContradiction (fun h => by have := hkl h; omega)
    refine WL_eff (OE_call rfl (evs1 rfl) (Field_any x.word _ (SlV.nil hF))) rfl ?_
    rintro _ w2 ⟨rfl, hS2⟩
    refine W ?_
    refine WL_eff (OE_call rfl (evs3 rfl rfl rfl) (put_any bc base _ _ 4 (fieldF x.word).1 _ (hcd.up hS2) (by omega))) rfl ?_
    rintro _ w3 ⟨rfl, hq⟩
    refine W ?_
    first | refine WQ_ret1 rfl rfl ?_ | refine WQ_ret2 rfl rfl rfl ?_ | refine WQ_ret3 rfl rfl rfl rfl ?_ | refine WQ_ret0 rfl ?_ | refine WQ_end0 rfl ?_
    exact .mk (leaf _ _ (by rw [hcL h0, leafI, if_neg (by assumption), if_neg (by assumption), if_neg (by assumption)]) _ (hq.pre hS2))
  · have h6 : x.kind = 6 := by assumption
    rw [hcN] at hl ⊢
    refine WL_eff (OE_call rfl (evs2 rfl rfl) (binaryC_any x h6 _ (hk6 h6) hcl hcs _ bc base _ _ _ hcd ⟨kv, rfl, hs⟩ hF hl)) rfl ?_
    rintro _ w2 hq
    refine W ?_
    first | refine WQ_ret1 rfl rfl ?_ | refine WQ_ret2 rfl rfl rfl ?_ | refine WQ_ret3 rfl rfl rfl rfl ?_ | refine WQ_ret0 rfl ?_ | refine WQ_end0 rfl ?_
    exact .mk (main _ _ hq)
  · have h9 : x.kind = 9 := by assumption
    have h3 := hk9 h9
    have e9 : codeN x = chC (codeN (x.kids[0]'(by omega))) (codeN (x.kids[1]'(by omega))) (codeN (x.kids[2]'(by omega))) := by
      funext p
      rw [hcN, combC, if_neg (by omega), if_pos h9, hgD 0 (by omega), hgD 1 (by omega), hgD 2 (by omega)]
    have c0 := hcs 0 (by omega) (by omega)
    have c1 := hcs 1 (by omega) (by omega)
    have c2 := hcs 2 (by omega) (by omega)
    rw [List.getElem_map] at c0 c1 c2
    rw [e9] at hl ⊢
    have h0 : 0 < x.kids.length := by omega
    have h1 : 1 < x.kids.length := by omega
    have h2 : 2 < x.kids.length := by omega
    refine WC_drawn 14 (bc :: ob v) [] [(0, 0), (1, 0), (2, 1), (3, 0), (4, 1), (5, 0), (6, 1), (7, 0), (8, 1), (9, 0), (10, 1), (11, 0), (12, 1), (13, 2)] rfl mixed (by kernel_rfl) (by kernel_rfl) (by kernel_rfl) (fun w1 hS1 => ?_)
    replace hs := hs.up hS1
    replace hblk := hblk.up hS1
    replace hS := hS.trans hS1
    obtain ⟨u0, s0, d0⟩ := hs.nd h0
    obtain ⟨u1, s1, d1⟩ := hs.nd h1
    obtain ⟨u2, s2, d2⟩ := hs.nd h2
    refine D ?_
    try (refine WD_read rfl trivial (fun w' hS' => PR_load_blk rfl rfl (hblk.ext hS' nb) rfl) rfl ?_)
    refine D ?_
    refine WD_read rfl trivial (fun w' hS' => PR_loadNd rfl rfl (hs.on hS' (fun _ h => h)) h0 (fun j u hj => cell_on hs h0 hS' (d0 j u hj))) rfl ?_
    refine D ?_
    try (refine WD_read rfl trivial (fun w' hS' => PR_load_blk rfl rfl (hblk.ext hS' nb) rfl) rfl ?_)
    refine D ?_
    refine WD_read rfl trivial (fun w' hS' => PR_loadNd rfl rfl (hs.on hS' (fun _ h => h)) h1 (fun j u hj => cell_on hs h1 hS' (d1 j u hj))) rfl ?_
    refine D ?_
    try (refine WD_read rfl trivial (fun w' hS' => PR_load_blk rfl rfl (hblk.ext hS' nb) rfl) rfl ?_)
    refine D ?_
    refine WD_read rfl trivial (fun w' hS' => PR_loadNd rfl rfl (hs.on hS' (fun _ h => h)) h2 (fun j u hj => cell_on hs h2 hS' (d2 j u hj))) rfl ?_
    refine D ?_
    refine WD_eff rfl trivial (OE_call rfl (evs4 rfl rfl rfl rfl) (choice_any c0 c1 c2 _ bc base v _ _ _ xs (hcd.up hS1) ⟨u0, rfl, s0⟩ ⟨u1, rfl, s1⟩ ⟨u2, rfl, s2⟩ (hF.up hS1) hl)) (fun _ _ h => by obtain ⟨_, _, h2, _⟩ := h; exact h2) rfl ?_
    rintro _ w5 hq
    refine D ?_
    refine W ?_
    first | refine WQ_ret1 rfl rfl ?_ | refine WQ_ret2 rfl rfl rfl ?_ | refine WQ_ret3 rfl rfl rfl rfl ?_ | refine WQ_ret0 rfl ?_ | refine WQ_end0 rfl ?_
    exact .mk (hq.pre hS)
  · have h0 : x.kids ≠ [] := fun h => by have := hlf h; omega
    have e0 : combC x.kind x.num x.word (x.kids.map codeN) xs.length = plainC x.kind x.word (x.kids.map codeN) xs.length := by
      rw [combC, if_neg (codeN_kids h0), if_neg (by assumption), if_neg (fun h => absurd h.1 (by assumption)), if_neg (fun h => absurd h.1 (by assumption)), if_neg (fun h => absurd h.1 (by assumption))]
    rw [hcN, e0] at hl ⊢
    refine WL_eff (OE_call rfl (evs2 rfl rfl) (plain_any x _ hcl hcs _ bc base _ _ _ hcd ⟨kv, rfl, hs⟩ hF hl)) rfl ?_
    rintro _ w2 hq
    refine W ?_
    first | refine WQ_ret1 rfl rfl ?_ | refine WQ_ret2 rfl rfl rfl ?_ | refine WQ_ret3 rfl rfl rfl rfl ?_ | refine WQ_ret0 rfl ?_ | refine WQ_end0 rfl ?_
    exact .mk (main _ _ hq)
end Go.Proofs.YtgpibcgebpgmiaaDoor

namespace Go.Proofs.YtgpibcgebpgmiaaDoor
open Go Go.Eng Go.RowKit
set_option linter.unusedVariables false

theorem seqC_len (l : List Nd) (h : ∀ y ∈ l, ∀ p, (codeN y p).length ≤ 8 * sizeN y) (p : Nat) : (seqC (l.map codeN) p).length ≤ 8 * (l.map sizeN).sum := by
  induction l generalizing p with
  | nil => simp [seqC]
  | cons x r ih =>
    simp only [List.map_cons, seqC, List.length_append, List.sum_cons]
    have h1 := h x (by simp) p
    have h2 := ih (fun y hy => h y (by simp [hy])) (p + (codeN x p).length)
    omega
theorem insO_len (l : List Int) : (insO l).length = l.length := by simp [insO]
theorem getD_len {l : List Nd} (h : ∀ y ∈ l, ∀ p, (codeN y p).length ≤ 8 * sizeN y) (i p : Nat) : ((l.map codeN).getD i nilC p).length ≤ 8 * (l.map sizeN).getD i 0 := by
  by_cases hi : i < l.length
  · simp [List.getD, hi]
    exact h _ (List.getElem_mem hi) p
  · simp [List.getD, hi, nilC]
theorem getD_sum (l : List Nat) : l.getD 0 0 + l.getD 1 0 + l.getD 2 0 ≤ l.sum := by
  rcases l with _ | ⟨a, _ | ⟨b, _ | ⟨c, r⟩⟩⟩ <;> simp <;> omega
theorem chC_len (c y n : Cf) (A B C : Nat) (hc : ∀ p, (c p).length ≤ A) (hy : ∀ p, (y p).length ≤ B) (hn : ∀ p, (n p).length ≤ C) (p : Nat) : (chC c y n p).length ≤ A + B + C + 2 := by
  unfold chC
  simp only [List.length_append, List.length_cons, List.length_nil]
  have h1 := hc p
  have h2 := hy (p + (c p).length + 1)
  have h3 := hn (p + (c p).length + 1 + (y (p + (c p).length + 1)).length + 1)
  omega
theorem codeN_len (x : Nd) : ∀ p, (codeN x p).length ≤ 8 * sizeN x := by
  induction x using Nd.ind with
  | h k n s l ih =>
  intro p
  rw [codeN_eq, sizeN_eq]
  show (combC k n s (l.map codeN) p).length ≤ 8 * (1 + (l.map sizeN).sum)
  have hs := getD_sum (l.map sizeN)
  have g := getD_len ih
  have hp : (plainC k s (l.map codeN) p).length ≤ 8 * (l.map sizeN).sum + 3 := by
    unfold plainC
    simp only [List.length_append, insO_len]
    have h1 := seqC_len l ih p
    have h2 := opF_len s
    have h3 : (if k = 8 ∨ k = 5 ∧ s = [45] then [(⟨8, 0⟩ : Ins)] else []).length ≤ 1 := by split <;> simp
    omega
  unfold combC
  split
  · simp; omega
  split
  · refine Nat.le_trans (chC_len _ _ _ _ _ _ (g 0) (g 1) (g 2) p) (by omega)
  split
  · refine Nat.le_trans (chC_len _ _ _ _ _ 1 (g 0) (g 1) (fun _ => by simp) p) (by omega)
  split
  · refine Nat.le_trans (chC_len _ _ _ _ 1 _ (g 0) (fun _ => by simp) (g 1) p) (by omega)
  split
  · simp only [List.length_append, List.length_cons, List.length_nil]; omega
  · omega
def exprF (x : Nd) : List Ins := codeN x 0 ++ [⟨24, 0⟩]
def errX (x : Nd) : Int := if nestN x ≤ 12 then (if typeT x = 0 then 21 else if (exprF x).length > 200 then 2 else 0) else 2
/-- what 'compile.Expression' gives -/
def ExprR (w : World) (x : Nd) (r : Value) (w' : World) : Prop := ∃ cv, r = .tuple #[cv, .int .i64 (errX x)] ∧ (∀ X : List Nat, (∀ b ∈ X, b < w.heap.size) → SlV X w' cv (if errX x = 0 then exprF x else [])) ∧ Stp [] w w'
theorem Expression_any (v : Value) (x : Nd) (w : World) (hsz : sizeN x ≤ 1000) (hx : NdV [] w v x) (hF : SlV [] w flds fieldNames) :
    Calls Tryd.prog 26 #[v] w (Ret (ExprR w x)) := by
  have hN := hx
  obtain ⟨kv, rfl, hs⟩ := hx
  refine calls_of_WC1 (n := 24) Tryd.func26 rfl rfl rfl ?_
  refine W ?_
  refine WL_eff (OE_box rfl) rfl ?_
  rintro _ w1 ⟨b, rfl, hb, hblk, hS⟩
  replace hblk : Blk w1 b _ (ndC x kv) := hblk
  replace hs := hs.up hS; replace hN := hN.up hS; replace hF := hF.up hS
  refine W ?_
  refine WL_eff (OE_call rfl (evs1 rfl) (Of_any [] [] _ x _ hN hF)) rfl ?_
  rintro _ w2 ⟨rfl, hS2⟩
  replace hs := hs.up hS2; replace hN := hN.up hS2; replace hF := hF.up hS2; replace hblk := hblk.up hS2
  replace hS := hS.trans hS2
  by_cases hn : nestN x ≤ 12
  case neg =>
    rw [if_neg hn, if_neg hn]
    have he : errX x = 2 := by rw [errX, if_neg hn]
    repeat' (first | refine W1 ?_ | (exfalso; omega) | refine WL_split rfl rfl (fun hg => ?_) (fun hg => ?_) | refine WL_splitB rfl rfl (fun hg => ?_) (fun hg => ?_) | refine WC_cond rfl (fun hc => ?_) (fun hc => ?_) | refine WC_condB rfl (fun hc => ?_) (fun hc => ?_))
    first | refine WQ_ret1 rfl rfl ?_ | refine WQ_ret2 rfl rfl rfl ?_ | refine WQ_ret3 rfl rfl rfl rfl ?_ | refine WQ_ret0 rfl ?_ | refine WQ_end0 rfl ?_
    refine .mk ⟨_, by rw [he]; rfl, fun X hX => ?_, hS⟩
    rw [he, if_neg (by decide)]
    exact nilSlv _ _
  by_cases ht : typeT x = 0
  · rw [if_pos hn, if_pos hn, if_pos ht]
    have he : errX x = 21 := by rw [errX, if_pos hn, if_pos ht]
    repeat' (first | refine W1 ?_ | (exfalso; omega) | refine WL_split rfl rfl (fun hg => ?_) (fun hg => ?_) | refine WL_splitB rfl rfl (fun hg => ?_) (fun hg => ?_) | refine WC_cond rfl (fun hc => ?_) (fun hc => ?_) | refine WC_condB rfl (fun hc => ?_) (fun hc => ?_))
    first | refine WQ_ret1 rfl rfl ?_ | refine WQ_ret2 rfl rfl rfl ?_ | refine WQ_ret3 rfl rfl rfl rfl ?_ | refine WQ_ret0 rfl ?_ | refine WQ_end0 rfl ?_
    refine .mk ⟨_, by rw [he]; rfl, fun X hX => ?_, hS⟩
    rw [he, if_neg (by decide)]
    exact nilSlv _ _
  rw [if_pos hn, if_pos hn, if_neg ht]
  repeat' (first | refine W1 ?_ | (exfalso; omega) | refine WL_split rfl rfl (fun hg => ?_) (fun hg => ?_) | refine WL_splitB rfl rfl (fun hg => ?_) (fun hg => ?_) | refine WC_cond rfl (fun hc => ?_) (fun hc => ?_) | refine WC_condB rfl (fun hc => ?_) (fun hc => ?_))
  refine WL_eff OE_alloc rfl ?_
  rintro _ w3 ⟨bc, rfl, hbc, hblkc, hS3⟩
  replace hblk := hblk.up hS3
  replace hblkc : Blk w3 bc 106 [.slice none 0 0] := hblkc
  refine W ?_
  have hcod : Cod w3 bc w3.heap.size (.slice none 0 0) [] := ⟨hblkc, Row.nil, by simp [ob], hblkc.lt, Nat.le_refl _⟩
  have fr := Fr.start hcod
  have hlen := codeN_len x 0
  refine WL_eff (OE_call rfl (evs2 rfl rfl) (expr_ok x ht _ bc _ _ _ [] hcod ⟨kv, rfl, ?_⟩ ?_ ?_)) rfl ?_
  · refine hs.ext hS3 (by simp) (fun c hc => .inr ?_)
    simp [ob] at hc; omega
  · refine hF.ext hS3 (by simp) (fun c hc => .inr ?_)
    simp [ob] at hc; omega
  · simp only [List.length_nil]; omega
  rintro _ w4 hq
  obtain ⟨v4, fr⟩ := fr.step hq
  rw [List.nil_append, List.length_nil] at fr
  refine W ?_
  refine WL_eff (OE_call rfl (evs3 rfl rfl rfl) (put_any bc _ _ _ 24 0 _ fr.cod (by omega))) rfl ?_
  rintro _ w5 ⟨rfl, hq⟩
  obtain ⟨v5, fr⟩ := fr.step hq
  have hfin : Stp [] w w5 := hS.trans (hS3.own fr.stp (fun c hc => .inr (by simp [ob] at hc; omega)))
  have hrow := fr.cod.row
  have hblk5 := fr.cod.blk
  have hslv := hrow.slv0
  have hel : ((codeN x 0 ++ [(⟨24, 0⟩ : Ins)]).length : Int) = (exprF x).length := rfl
  by_cases hg : (exprF x).length > 200
  · have he : errX x = 2 := by rw [errX, if_pos hn, if_neg ht, if_pos hg]
    repeat' (first | refine W1 ?_ | (exfalso; omega) | refine WL_split rfl rfl (fun hg => ?_) (fun hg => ?_) | refine WL_splitB rfl rfl (fun hg => ?_) (fun hg => ?_) | refine WC_cond rfl (fun hc => ?_) (fun hc => ?_) | refine WC_condB rfl (fun hc => ?_) (fun hc => ?_))
    first | refine WQ_ret1 rfl rfl ?_ | refine WQ_ret2 rfl rfl rfl ?_ | refine WQ_ret3 rfl rfl rfl rfl ?_ | refine WQ_ret0 rfl ?_ | refine WQ_end0 rfl ?_
    refine .mk ⟨_, by rw [he], fun X hX => ?_, hfin⟩
    rw [he, if_neg (by decide)]
    exact nilSlv _ _
  · have he : errX x = 0 := by rw [errX, if_pos hn, if_neg ht, if_neg hg]
    repeat' (first | refine W1 ?_ | (exfalso; omega) | refine WL_split rfl rfl (fun hg => ?_) (fun hg => ?_) | refine WL_splitB rfl rfl (fun hg => ?_) (fun hg => ?_) | refine WC_cond rfl (fun hc => ?_) (fun hc => ?_) | refine WC_condB rfl (fun hc => ?_) (fun hc => ?_))
    first | refine WQ_ret1 rfl rfl ?_ | refine WQ_ret2 rfl rfl rfl ?_ | refine WQ_ret3 rfl rfl rfl rfl ?_ | refine WQ_ret0 rfl ?_ | refine WQ_end0 rfl ?_
    refine .mk ⟨_, by rw [he], fun X hX => ?_, hfin⟩
    rw [he, if_pos rfl]
    exact Row.slv (X := X) hrow (fun b hb => by have := hX b hb; have := hS.size; have := hS3.size; omega)
end Go.Proofs.YtgpibcgebpgmiaaDoor

namespace Go.Proofs.YtgpibcgebpgmiaaDoor
open Go Go.Eng Go.RowKit
set_option linter.unusedVariables false

theorem guardI (op : BinOp) (x y : Operand) (a b : Ins) (w : World) : (eqGuard op 59 x y (agg a) (agg b)).run Tryd.prog w = .ok () w := by
  cases op <;> kernel_rfl
theorem neqI (a b : Ins) (w : World) : (binOp .neq 59 (agg a) (agg b)).run Tryd.prog w = .ok (.bool (decide (¬ a = b))) w := by
  have h1 : Program.stoodInHeld Tryd.prog 59 = false := by kernel_rfl
  obtain ⟨a1, a2⟩ := a
  obtain ⟨b1, b2⟩ := b
  simp [agg, Flat.enc, run_neq_struct, run_equalIn_struct, h1, Program.fieldsOf, Tryd.underlying59, Op.eqFields, part, Und.isAgg, aggB, run_equalIn_int w _ _ .i64 .i64 _ _ Tryd.underlying3]
  repeat' split
  all_goals simp_all
theorem SameCode_any (va vb : Value) (xs ys : List Ins) (w : World) (ha : SlV [] w va xs) (hb : SlV [] w vb ys) :
    Calls Tryd.prog 54 #[va, vb] w (Ret fun r w' => r = .bool (decide (xs = ys)) ∧ Stp [] w w') := by
  have hma := ha.max
  have hmb := hb.max
  refine calls_of_WC2 (n := 26) Tryd.func54 rfl rfl rfl ?_
  refine W ?_
  by_cases hl : xs.length = ys.length
  case neg =>
    repeat' (first | refine W1 ?_ | (exfalso; omega) | refine WL_split rfl rfl (fun hg => ?_) (fun hg => ?_) | refine WL_splitB rfl rfl (fun hg => ?_) (fun hg => ?_) | refine WC_cond rfl (fun hc => ?_) (fun hc => ?_) | refine WC_condB rfl (fun hc => ?_) (fun hc => ?_))
    first | refine WQ_ret1 rfl rfl ?_ | refine WQ_ret2 rfl rfl rfl ?_ | refine WQ_ret3 rfl rfl rfl rfl ?_ | refine WQ_ret0 rfl ?_ | refine WQ_end0 rfl ?_
    exact .mk ⟨by congr 1; rw [eq_comm, decide_eq_false_iff_not]; exact fun h => hl (by rw [h]), Stp.refl _ _⟩
  repeat' (first | refine W1 ?_ | (exfalso; omega) | refine WL_split rfl rfl (fun hg => ?_) (fun hg => ?_) | refine WL_splitB rfl rfl (fun hg => ?_) (fun hg => ?_) | refine WC_cond rfl (fun hc => ?_) (fun hc => ?_) | refine WC_condB rfl (fun hc => ?_) (fun hc => ?_))
  refine WC_loop (σ := Nat) (fun j => [(0, va), (1, vb), (4, .bool false), (5, .int .i64 (j : Int))]) (fun j w' => j ≤ xs.length ∧ Stp [] w w' ∧ ∀ i (h : i < xs.length), i < j → xs[i] = ys[i]'(by omega)) (fun j => xs.length - j) 0 ⟨rfl, rfl, rfl, rfl, trivial⟩ ⟨Nat.zero_le _, Stp.refl _ _, fun i _ h => absurd h (Nat.not_lt_zero _)⟩ ?_
  rintro j w2 ⟨hj, hS, heq⟩
  try dsimp only at hj heq ⊢
  replace ha := ha.up hS
  replace hb := hb.up hS
  by_cases hlt : j < xs.length
  · have hlt' : j < ys.length := by omega
    repeat' (first | refine W1 ?_ | (exfalso; omega) | refine WL_split rfl rfl (fun hg => ?_) (fun hg => ?_) | refine WL_splitB rfl rfl (fun hg => ?_) (fun hg => ?_) | refine WC_cond rfl (fun hc => ?_) (fun hc => ?_) | refine WC_condB rfl (fun hc => ?_) (fun hc => ?_))
    refine WC_drawn 9 [] [] [(0, 0), (1, 0), (2, 0), (3, 1), (4, 0), (5, 0), (6, 0), (7, 1), (8, 0)] rfl mixed (by kernel_rfl) (by kernel_rfl) (by kernel_rfl) (fun w1 hS1 => ?_)
    replace ha := ha.up hS1
    replace hb := hb.up hS1
    replace hS := hS.trans hS1
    refine D ?_
    apply WD_op
    exact rfl
    refine WO_neqS (c := xs[j] = ys[j]) trivial rfl rfl (fun w => guardI _ _ _ xs[j] ys[j] w) (by intro w; exact neqI xs[j] ys[j] w) rfl ?_
    refine D ?_
    repeat' (first | refine W1 ?_ | (exfalso; omega) | refine WL_split rfl rfl (fun hg => ?_) (fun hg => ?_) | refine WL_splitB rfl rfl (fun hg => ?_) (fun hg => ?_) | refine WC_cond rfl (fun hc => ?_) (fun hc => ?_) | refine WC_condB rfl (fun hc => ?_) (fun hc => ?_))
    · first | refine WQ_ret1 rfl rfl ?_ | refine WQ_ret2 rfl rfl rfl ?_ | refine WQ_ret3 rfl rfl rfl rfl ?_ | refine WQ_ret0 rfl ?_ | refine WQ_end0 rfl ?_
      exact .mk ⟨by congr 1; rw [eq_comm, decide_eq_false_iff_not]; exact fun h => hc (by simp [h]), hS⟩
    · have he : xs[j] = ys[j] := Decidable.byContradiction hc
      have hk : ∀ i (h : i < xs.length), i < j + 1 → xs[i] = ys[i]'(by omega) := fun i h hi => by
        by_cases hij : i = j
        · subst hij; exact he
        · exact heq i h (by omega)
      exact WQ_loop (j + 1) ⟨rfl, rfl, rfl, rfl, trivial⟩ ⟨hlt, hS, hk⟩ (Nat.sub_lt_sub_left hlt (Nat.lt_succ_self j))
  · have hje : j = xs.length := by omega
    subst hje
    repeat' (first | refine W1 ?_ | (exfalso; omega) | refine WL_split rfl rfl (fun hg => ?_) (fun hg => ?_) | refine WL_splitB rfl rfl (fun hg => ?_) (fun hg => ?_) | refine WC_cond rfl (fun hc => ?_) (fun hc => ?_) | refine WC_condB rfl (fun hc => ?_) (fun hc => ?_))
    first | refine WQ_ret1 rfl rfl ?_ | refine WQ_ret2 rfl rfl rfl ?_ | refine WQ_ret3 rfl rfl rfl rfl ?_ | refine WQ_ret0 rfl ?_ | refine WQ_end0 rfl ?_
    exact .mk ⟨by congr 1; rw [eq_comm, decide_eq_true_eq]; exact List.ext_getElem hl (fun i h h' => heq i h h), hS⟩
end Go.Proofs.YtgpibcgebpgmiaaDoor
/-
Rows that a pure function makes; slices of slices.
-/
namespace Go.Eng
open Go Go.RowKit Go.Proofs
set_option linter.unusedVariables false

/-- a row made since w: nothing else has changed -/
def RowF {β : Type} [Flat β] (T : Nat) (w w' : World) (v : Value) (xs : List β) : Prop := Row [] w' w.heap.size T v xs ∧ Stp [] w w'
section
variable {β : Type} [Flat β] {T : Nat} {w w' w'' : World} {v : Value} {xs ys : List β}
theorem Row.lower {α : Type} [GoRep α] {X : List Nat} {a b : Nat} {xs : List α} (h : Row X w b T v xs) (hab : a ≤ b) : Row X w a T v xs := by
  obtain ⟨css, h1, h2, h3, h4⟩ := h
  refine ⟨css, h1, h2, h3, h4.imp id ?_⟩
  rintro ⟨g, cap, cur, e1, e2, rest⟩
  exact ⟨g, cap, cur, e1, Nat.le_trans hab e2, rest⟩
theorem RowF.nil : RowF (β := β) T w w (.slice none 0 0) [] := ⟨Row.nil, Stp.refl _ _⟩
theorem RowF.up (h : RowF T w w' v xs) (hS : Stp [] w' w'') : RowF T w w'' v xs := ⟨h.1.up hS, h.2.trans hS⟩
theorem RowF.pre (hS : Stp [] w w') (h : RowF T w' w'' v xs) : RowF T w w'' v xs := ⟨h.1.lower hS.size, hS.trans h.2⟩
theorem RowF.one {cs : List Value} {len : Nat} (h : NewSl w T len cs v w') (hl : len = xs.length) (hc : cs = xs.flatMap Flat.enc) (hm : xs.length ≤ maxLen) : RowF T w w' v xs := ⟨h.row (Nat.le_refl _) hl hc hm, h.choose_spec.2.2.2⟩
theorem RowF.slv (h : RowF T w w' v xs) {X : List Nat} (hX : ∀ b ∈ X, b < w.heap.size) : SlV X w' v xs := Row.slv (X := X) h.1 hX
theorem RowF.ob_le (h : RowF T w w' v xs) : ∀ b ∈ ob v, w.heap.size ≤ b ∧ b < w'.heap.size := h.1.ob_le
/-- a step that may write only the row's own block, or newer ones -/
theorem RowF.step {S : List Nat} (h : RowF T w w' v xs) (hS : Stp S w' w'') (ho : ∀ b ∈ S, b ∈ ob v) : Stp [] w w'' := h.2.own hS (fun b hb => .inr (h.ob_le b (ho b hb)).1)
section
variable {P : Program} {n : Nat} {e : Env} {d : Option Nat} {ty : TypeId} {pos : String} {af : Array Edge} {g : Option (Nat × Bool)}
theorem OE_appF {x y : Operand} {t bytes : Nat} {u : Value} {z : Value} [ht : Und P t (.slice T)] [hk : Siz P T (GoRep.k β)] [hb : Byt P T bytes] [hz : Zer P T z] (hzs : z.cells.size = GoRep.k β) (hpos : 0 < GoRep.k β)
    (hx : ev e x = some v) (hy : ev e y = some u) (h : RowF T w w' v xs) (hys : SlV (ob v) w' u ys) (hbytes : (xs.length + ys.length) * bytes ≤ 140737488355328) (hlen : xs.length + ys.length ≤ maxLen) :
    OE P n ⟨d, .call { callee := .builtin .append, args := #[x, y], argTypes := #[t, t] }, ty, pos, af, g⟩ e w' (fun v' w'' => RowF T w w'' v' (xs ++ ys) ∧ Stp (ob v) w' w'' ∧ ∀ b ∈ ob v', b ∈ ob v ∨ w'.heap.size ≤ b) := by
  refine (OE_append (X := []) (base := w.heap.size) hzs hpos hx hy h.1 (by rw [List.append_nil]; exact hys) hbytes hlen h.2.size).mono ?_
  rintro v' w2 ⟨h1, h2, h3⟩
  exact ⟨⟨h1, h.step h2 (fun _ hb => hb)⟩, h2, h3⟩
theorem OE_setF {i j k : Nat} {t : TypeId} {x y : Operand} {u : Value} {y' : β} [hsz : Siz P t 1] (hx : ev e x = some (.pointer (some (elAddr v i k j)))) (hy : ev e y = some u) (hk : k = Flat.k β)
    (hu : u.cells.toList = [u]) (h1 : u.oneCell' = true) (h : RowF T w w' v xs) (hi : i < xs.length) (hj : j < Flat.k β) (hr' : Flat.enc y' = (Flat.enc xs[i]).set j u) :
    OE P n ⟨d, .store t x y, ty, pos, af, g⟩ e w' (fun _ w'' => RowF T w w'' v (xs.set i y') ∧ Stp (ob v) w' w'') := by
  refine (OE_storeF (β := β) hx hy hk hu h1 h.1 hi hj hr').mono ?_
  rintro _ w2 ⟨h2, h3⟩
  exact ⟨⟨h2, h.step h3 (fun _ hb => hb)⟩, h3⟩
end
end

/-- a slice as an element -/
structure Sl (α : Type) where
  l : List α
instance {α : Type} [GoRep α] : GoRep (Sl α) where
  k := 1
  rep := fun X w x cs => ∃ v, cs = [v] ∧ SlV X w v x.l
  len := by rintro X w x cs ⟨v, rfl, _⟩; rfl
  one := by
    rintro X w x cs ⟨v, rfl, p, c, rfl, _⟩ u hu
    simp at hu
    subst hu
    rfl
  ext := by
    rintro X S X' w w' x cs ⟨v, rfl, h⟩ hS h1 h2
    exact ⟨v, rfl, h.ext hS h1 h2⟩
theorem NewSl.slvS {α : Type} [GoRep α] {w w' : World} {X : List Nat} {T len : Nat} {vs : List Value} {v : Value} {xss : List (Sl α)} (h : NewSl w T len vs v w') (hX : ∀ b ∈ X, b < w.heap.size) (hl : len = xss.length) (hvl : vs.length = xss.length)
    (hr : ∀ i (hi : i < xss.length) (hi' : i < vs.length), SlV X w vs[i] xss[i].l) (hm : xss.length ≤ maxLen) : SlV X w' v xss := by
  obtain ⟨b, rfl, hb, hblk, hS⟩ := h
  subst hl
  refine ⟨some ⟨b, 0, none⟩, xss.length, rfl, Nat.le_refl _, hm, fun h => by simp at h, fun i hi => ⟨b, 0, [vs[i]'(by omega)], rfl, hblk.lt, fun hx => by have := hX b hx; omega, ⟨_, rfl, (hr i hi (by omega)).up hS⟩, fun j u hu => ?_⟩⟩
  refine hblk.cell ?_
  have : j = 0 := by
    have := (List.getElem?_eq_some_iff.1 hu).1
    simp at this
    exact this
  subst this
  simp at hu
  subst hu
  simp [GoRep.k]
theorem SlV.sub {α : Type} [GoRep α] {w : World} {X : List Nat} {v : Value} {xss : List (Sl α)} {i : Nat} (h : SlV X w v xss) (hi : i < xss.length) : ∃ u, w.cell? (elAddr v i 1 0) = some u ∧ SlV X w u xss[i].l := by
  obtain ⟨cs, ⟨u, rfl, hu⟩, hc⟩ := h.cell hi
  exact ⟨u, hc 0 u rfl, hu⟩
end Go.Eng

namespace Go.Eng
open Go Go.RowKit Go.Proofs
set_option linter.unusedVariables false
theorem NewSl.slvG {α : Type} [GoRep α] {w w' : World} {X : List Nat} {T len : Nat} {cs : List Value} {v : Value} {ys : List α} {css : List (List Value)} (h : NewSl w T len cs v w') (hX : ∀ b ∈ X, b < w.heap.size) (hl : len = ys.length) (hcl : css.length = ys.length)
    (hc : cs = css.flatten) (hr : ∀ i (hi : i < ys.length) (hi' : i < css.length), GoRep.rep X w ys[i] css[i]) (hm : ys.length ≤ maxLen) : SlV X w' v ys := by
  obtain ⟨b, rfl, hb, hblk, hS⟩ := h
  subst hl
  subst hc
  have hk : ∀ c ∈ css, c.length = GoRep.k α := by
    intro c hc
    obtain ⟨i, hi, rfl⟩ := List.getElem_of_mem hc
    exact GoRep.len (hr i (by omega) hi)
  refine ⟨some ⟨b, 0, none⟩, ys.length, rfl, Nat.le_refl _, hm, fun h => by simp at h, fun i hi => ⟨b, 0, css[i]'(by omega), rfl, hblk.lt, fun hx => by have := hX b hx; omega, GoRep.ext (hr i hi (by omega)) hS (by simp) (fun b hb => .inl hb), fun j u hu => ?_⟩⟩
  refine hblk.cell ?_
  have := flatten_at css hk i (by omega) j u hu
  rw [Nat.zero_add]
  exact this
theorem SlV.wk {α : Type} [GoRep α] {X X' : List Nat} {w : World} {v : Value} {l : List α} (h : SlV X w v l) (hs : ∀ b ∈ X', b ∈ X) : SlV X' w v l := h.ext (Stp.refl [] w) (by simp) (fun b hb => .inl (hs b hb))
end Go.Eng
namespace Go.Proofs.YtgpibcgebpgmiaaDoor
open Go Go.Eng Go.RowKit
set_option linter.unusedVariables false

theorem nest_le_size (x : Nd) : nestN x ≤ sizeN x := by
  induction x using Nd.ind with
  | h k n s l ih =>
  rw [nestN_eq, sizeN_eq]
  show 1 + (l.map nestN).foldl max 0 ≤ 1 + (l.map sizeN).sum
  have : ∀ (l : List Nd) (a : Nat), (∀ x ∈ l, nestN x ≤ sizeN x) → (l.map nestN).foldl max a ≤ a + (l.map sizeN).sum := by
    intro l
    induction l with
    | nil => intro a _; simp
    | cons y r ihr =>
      intro a h
      simp only [List.map_cons, List.foldl_cons, List.sum_cons]
      have h1 := ihr (max a (nestN y)) (fun x hx => h x (by simp [hx]))
      have h2 := h y (by simp)
      omega
  have := this l 0 ih
  omega
theorem buildN3 (k n : Int) (s : Str) (w : World) : (Instr.build 25 #[(0, .int .i64 k), (1, .int .i64 n), (2, str s)]).run Tryd.prog w = .ok (.agg #[.int .i64 k, .int .i64 n, str s, .slice none 0 0]) w := by kernel_rfl
theorem buildSN1 (k n : Int) (s : Str) (p : Option Addr) (l c : Nat) (w : World) : (Instr.buildSlice 23 1 #[(0, .agg #[.int .i64 k, .int .i64 n, str s, .slice p l c])]).run Tryd.prog w = .ok (.slice (some ⟨w.heap.size, 0, none⟩) 1 1) (w.alloc (.cells #[.int .i64 k, .int .i64 n, str s, .slice p l c] 25)) := by kernel_rfl
def szs (ys : List Nd) : Nat := 1 + (ys.map sizeN).sum
theorem szs_app (ys : List Nd) (y : Nd) : szs (ys ++ [y]) = szs ys + sizeN y := by simp [szs]; omega
theorem szs_len (ys : List Nd) : ys.length < szs ys := by have := len_le_sum ys; unfold szs; omega
end Go.Proofs.YtgpibcgebpgmiaaDoor

namespace Go.Proofs.YtgpibcgebpgmiaaDoor
open Go Go.Eng Go.RowKit
set_option linter.unusedVariables false

theorem Around01_any (z : Int) (m : Int) (w : World) (hm : 0 < m) (hz : I64 z) : Calls Tryd.prog 9 #[.int .i64 z, .int .i64 m] w (Ret fun r w' => r = .int .i64 ((if z < 0 then -(z + 1) else z) % m) ∧ Stp [] w w') := by
  unfold I64 at hz
  refine calls_of_WC2 (n := 13) Tryd.func9 rfl rfl rfl ?_
  by_cases h : z < 0
  · repeat' (first | refine W1 ?_ | (exfalso; omega) | refine WL_split rfl rfl (fun hg => ?_) (fun hg => ?_) | refine WL_splitB rfl rfl (fun hg => ?_) (fun hg => ?_) | refine WC_cond rfl (fun hc => ?_) (fun hc => ?_) | refine WC_condB rfl (fun hc => ?_) (fun hc => ?_))
    first | refine WQ_ret1 rfl rfl ?_ | refine WQ_ret2 rfl rfl rfl ?_ | refine WQ_ret3 rfl rfl rfl rfl ?_ | refine WQ_ret0 rfl ?_ | refine WQ_end0 rfl ?_
    exact .mk ⟨by rw [if_pos h], Stp.refl _ _⟩
  · repeat' (first | refine W1 ?_ | (exfalso; omega) | refine WL_split rfl rfl (fun hg => ?_) (fun hg => ?_) | refine WL_splitB rfl rfl (fun hg => ?_) (fun hg => ?_) | refine WC_cond rfl (fun hc => ?_) (fun hc => ?_) | refine WC_condB rfl (fun hc => ?_) (fun hc => ?_))
    first | refine WQ_ret1 rfl rfl ?_ | refine WQ_ret2 rfl rfl rfl ?_ | refine WQ_ret3 rfl rfl rfl rfl ?_ | refine WQ_ret0 rfl ?_ | refine WQ_end0 rfl ?_
    exact .mk ⟨by rw [if_neg h], Stp.refl _ _⟩
theorem around_range (z m : Int) (hm : 0 < m) : 0 ≤ z % m ∧ z % m < m := ⟨Int.emod_nonneg _ (by omega), Int.emod_lt_of_pos _ hm⟩
/-- an int list in memory: each of its numbers fits -/
theorem Pick01_any (X : List Nat) (v : Value) (l : List Int) (i m : Int) (w : World) (hm : 0 < m) (hi : I64 i) (hs : SlV X w v l) (hl : ∀ a ∈ l, I64 a) : Calls Tryd.prog 92 #[v, .int .i64 i, .int .i64 m] w (Ret fun r w' => ∃ q : Nat, r = .int .i64 (q : Int) ∧ (q : Int) < m ∧ Stp [] w w') := by
  unfold I64 at hi
  have hmax := hs.max
  refine calls_of_WC3 (n := 21) Tryd.func92 rfl rfl rfl ?_
  refine W ?_
  by_cases hgo : 0 ≤ i ∧ i < l.length
  · obtain ⟨h0, h1⟩ := hgo
    obtain ⟨k, rfl⟩ : ∃ k : Nat, i = (k : Int) := ⟨i.toNat, by omega⟩
    have hk : k < l.length := by omega
    repeat' (first | refine W1 ?_ | (exfalso; omega) | refine WL_split rfl rfl (fun hg => ?_) (fun hg => ?_) | refine WL_splitB rfl rfl (fun hg => ?_) (fun hg => ?_) | refine WC_cond rfl (fun hc => ?_) (fun hc => ?_) | refine WC_condB rfl (fun hc => ?_) (fun hc => ?_))
    refine WL_eff (OE_call rfl (evs2 rfl rfl) (Around01_any _ m _ hm (hl _ (List.getElem_mem hk)))) rfl ?_
    rintro _ w2 ⟨rfl, hS⟩
    refine W ?_
    first | refine WQ_ret1 rfl rfl ?_ | refine WQ_ret2 rfl rfl rfl ?_ | refine WQ_ret3 rfl rfl rfl rfl ?_ | refine WQ_ret0 rfl ?_ | refine WQ_end0 rfl ?_
    have := around_range (if l[k] < 0 then -(l[k] + 1) else l[k]) m hm
    exact .mk ⟨_, by rw [Int.toNat_of_nonneg this.1], by rw [Int.toNat_of_nonneg this.1]; exact this.2, hS⟩
  · repeat' (first | refine W1 ?_ | (exfalso; omega) | refine WL_split rfl rfl (fun hg => ?_) (fun hg => ?_) | refine WL_splitB rfl rfl (fun hg => ?_) (fun hg => ?_) | refine WC_cond rfl (fun hc => ?_) (fun hc => ?_) | refine WC_condB rfl (fun hc => ?_) (fun hc => ?_))
    all_goals first
      | (first | refine WQ_ret1 rfl rfl ?_ | refine WQ_ret2 rfl rfl rfl ?_ | refine WQ_ret3 rfl rfl rfl rfl ?_ | refine WQ_ret0 rfl ?_ | refine WQ_end0 rfl ?_
         exact .mk ⟨0, rfl, by simpa using hm, Stp.refl _ _⟩)
theorem buildN023 (k : Int) (s : Str) (p : Option Addr) (l c : Nat) (w : World) : (Instr.build 25 #[(0, .int .i64 k), (2, str s), (3, .slice p l c)]).run Tryd.prog w = .ok (.agg #[.int .i64 k, .int .i64 0, str s, .slice p l c]) w := by kernel_rfl
theorem node14_any (X : List Nat) (k : Int) (s : Str) (kv : Value) (kids : List Nd) (w : World) (hX : ∀ b ∈ X, b < w.heap.size) (hs : SlV X w kv kids) : Calls Tryd.prog 72 #[.int .i64 k, str s, kv] w (Ret fun r w' => NdV X w' r (.mk k 0 s kids) ∧ Stp [] w w') := by
  obtain ⟨p, c, rfl, -⟩ := id hs
  refine calls_of_WC3 (n := 11) Tryd.func72 rfl rfl rfl ?_
  refine W ?_
  refine WL_eff OE_alloc rfl ?_
  rintro _ w1 ⟨b, rfl, hb, hblk, hS⟩
  refine W ?_
  apply WL_build (vs := [(0, .int .i64 k), (2, str s), (3, .slice p kids.length c)]) rfl (buildN023 _ _ _ _ _) rfl
  refine WL_eff0 (OE_storeA (us := ndC (.mk k 0 s kids) (.slice p kids.length c)) rfl rfl rfl rfl (ndC_one hs) hblk rfl) ?_
  rintro _ w2 ⟨hS2, hblk2⟩
  have hT := hS.own hS2 (fun c hc => .inr (by simp at hc; omega))
  refine W ?_
  refine WQ_retc rfl rfl rfl hblk2 rfl ?_
  exact .mk ⟨⟨_, rfl, hs.up hT⟩, hT⟩
end Go.Proofs.YtgpibcgebpgmiaaDoor

namespace Go.Proofs.YtgpibcgebpgmiaaDoor
open Go Go.Eng Go.RowKit
set_option linter.unusedVariables false

/-- a maker: its block holds the numbers and how many it has used -/
abbrev Mk (w : World) (bm : Nat) (lv : Value) (i : Nat) : Prop := Blk w bm 62 [lv, .int .i64 (i : Int)]
theorem Next_any (bm : Nat) (lv : Value) (l : List Int) (i : Nat) (n : Int) (w : World) (hn : 0 < n) (hi : i ≤ 1000000) (hb : Mk w bm lv i) (hs : SlV [bm] w lv l) (hl : ∀ a ∈ l, I64 a) :
    Calls Tryd.prog 66 #[.pointer (some ⟨bm, 0, none⟩), .int .i64 n] w (Ret fun r w' => ∃ q : Nat, r = .int .i64 (q : Int) ∧ (q : Int) < n ∧ Mk w' bm lv (i + 1) ∧ Stp [bm] w w') := by
  refine calls_of_WC2 (n := 23) Tryd.func66 rfl rfl rfl ?_
  refine W ?_
  refine WL_eff0 (OE_store1 (u := .int .i64 ((i : Int) + 1)) rfl rfl rfl rfl hb (by simp)) ?_
  rintro _ w1 ⟨hS1', hb1⟩
  replace hb1 : Mk w1 bm lv (i + 1) := hb1
  replace hs := hs.ext hS1' (fun _ h => h) (fun _ h => .inl h)
  replace hs : SlV [] w1 lv l := hs.wk (by simp)
  refine W ?_
  refine WC_drawn 12 [] [] [(0, 0), (1, 0), (2, 0), (3, 1), (4, 0), (5, 0), (6, 0), (7, 1), (8, 0), (9, 0), (10, 2), (11, 0)] rfl mixed (by kernel_rfl) (by kernel_rfl) (by kernel_rfl) (fun w1 hS1 => ?_)
  replace hb1 := hb1.up hS1
  replace hs := hs.up hS1
  refine D ?_
  refine WD_eff rfl trivial (OE_call rfl (evs3 rfl rfl rfl) (Pick01_any [] _ l _ n _ hn (by unfold I64; omega) hs hl)) (fun _ _ h => h.choose_spec.2.2) rfl ?_
  rintro _ w3 ⟨q, rfl, hq, hS3⟩
  replace hb1 := hb1.up hS3
  refine D ?_
  refine W ?_
  first | refine WQ_ret1 rfl rfl ?_ | refine WQ_ret2 rfl rfl rfl ?_ | refine WQ_ret3 rfl rfl rfl rfl ?_ | refine WQ_ret0 rfl ?_ | refine WQ_end0 rfl ?_
  exact .mk ⟨q, rfl, hq, hb1, (hS1'.trans (hS1.mono (by simp))).trans (hS3.mono (by simp))⟩
end Go.Proofs.YtgpibcgebpgmiaaDoor

namespace Go.Proofs.YtgpibcgebpgmiaaDoor
open Go Go.Eng Go.RowKit
set_option linter.unusedVariables false

def szD : Nat → Nat
  | 0 => 0
  | d + 1 => 1 + 3 * szD d
theorem szD_eq {d : Nat} (h : 1 ≤ d) : szD d = 1 + 3 * szD (d - 1) := by
  cases d with
  | zero => omega
  | succ d => rfl
theorem szD_mono {a b : Nat} (h : a ≤ b) : szD a ≤ szD b := by
  induction b generalizing a with
  | zero => simp at h; subst h; exact Nat.le_refl _
  | succ b ih =>
    rcases Nat.lt_or_ge a (b + 1) with h1 | h1
    · have := ih (a := a) (by omega)
      show szD a ≤ 1 + 3 * szD b
      omega
    · have : a = b + 1 := by omega
      subst this
      exact Nat.le_refl _
/-- the type of what a maker's method gives -/
def tyG (f : Nat) : Int := if f = 31 then 1 else if f = 30 then 2 else 3
/-- a maker's method gives a node -/
def GenP (f : Nat) (d : Nat) : Prop := ∀ (X : List Nat) (w : World) (bm : Nat) (lv : Value) (l : List Int) (i : Nat) (z : Int), z = (d : Int) → Mk w bm lv i → SlV [bm] w lv l → (∀ a ∈ l, I64 a) → i + 2 * szD d ≤ 100000 → (∀ b ∈ X, b < w.heap.size) →
  Calls Tryd.prog f #[.pointer (some ⟨bm, 0, none⟩), .int .i64 z] w (Ret fun r w' => ∃ y i', NdV X w' r y ∧ sizeN y ≤ szD d ∧ (typeT y = tyG f ∧ nestN y ≤ d) ∧ Mk w' bm lv i' ∧ i' ≤ i + 2 * szD d ∧ Stp [bm] w w')
/-- a maker at work, the cell of the result beside it -/
structure G (X : List Nat) (w0 w : World) (bm b4 : Nat) (lv : Value) (l : List Int) (i : Nat) : Prop where
  mkr : Mk w bm lv i
  sl : SlV [bm] w lv l
  stp : Stp [bm] w0 w
  blk : ∃ cs : List Value, cs.length = 4 ∧ Blk w b4 25 cs
  ne : b4 ≠ bm
  hX : ∀ b ∈ X, b < w.heap.size
theorem G.nxt {X : List Nat} {w0 w w' : World} {bm b4 : Nat} {lv : Value} {l : List Int} {i i' : Nat} (h : G X w0 w bm b4 lv l i) (hm : Mk w' bm lv i') (hS : Stp [bm] w w') : G X w0 w' bm b4 lv l i' :=
  ⟨hm, h.sl.ext hS (fun _ h => h) (fun _ h => .inl h), h.stp.trans hS, h.blk.imp (fun cs hc => ⟨hc.1, hc.2.ext hS (by simpa using h.ne)⟩), h.ne, fun b hb => Nat.lt_of_lt_of_le (h.hX b hb) hS.size⟩
theorem G.up {X : List Nat} {w0 w w' : World} {bm b4 : Nat} {lv : Value} {l : List Int} {i : Nat} (h : G X w0 w bm b4 lv l i) (hS : Stp [] w w') : G X w0 w' bm b4 lv l i :=
  h.nxt (h.mkr.up hS) (hS.mono (by simp))
theorem G.fin {X : List Nat} {w0 w1 w w' : World} {bm b4 : Nat} {lv : Value} {l : List Int} {i : Nat} {y : Nd} {ky : Value} (h : G (b4 :: bm :: X) w1 w bm b4 lv l i) (hw : Stp [] w0 w1) (hb : w0.heap.size ≤ b4) (hy : SlV (b4 :: bm :: X) w ky y.kids) (hS : Stp [b4] w w') :
    NdV X w' (.agg (ndC y ky).toArray) y ∧ Mk w' bm lv i ∧ Stp [bm] w0 w' :=
  ⟨⟨ky, rfl, (hy.ext (X' := b4 :: bm :: X) hS (by simp) (fun _ h => .inl h)).wk (fun c hc => by simp [hc])⟩, h.mkr.ext hS (by simpa using h.ne.symm), ((hw.mono (by simp)).trans h.stp).own hS (fun c hc => .inr (by simp at hc; omega))⟩
theorem reps1 {X : List Nat} {w : World} {y0 : Nd} {k0 : Value} (s0 : SlV X w k0 y0.kids) : ∀ i (hi : i < [y0].length) (hi' : i < [ndC y0 k0].length), GoRep.rep X w [y0][i] [ndC y0 k0][i]
  | 0, _, _ => (show NRep X w y0 (ndC y0 k0) by rw [y0.eta]; exact slv_nrep s0)
theorem reps2 {X : List Nat} {w : World} {y0 y1 : Nd} {k0 k1 : Value} (s0 : SlV X w k0 y0.kids) (s1 : SlV X w k1 y1.kids) : ∀ i (hi : i < [y0, y1].length) (hi' : i < [ndC y0 k0, ndC y1 k1].length), GoRep.rep X w [y0, y1][i] [ndC y0 k0, ndC y1 k1][i]
  | 0, _, _ => (show NRep X w y0 (ndC y0 k0) by rw [y0.eta]; exact slv_nrep s0)
  | 1, _, _ => (show NRep X w y1 (ndC y1 k1) by rw [y1.eta]; exact slv_nrep s1)
theorem reps3 {X : List Nat} {w : World} {y0 y1 y2 : Nd} {k0 k1 k2 : Value} (s0 : SlV X w k0 y0.kids) (s1 : SlV X w k1 y1.kids) (s2 : SlV X w k2 y2.kids) : ∀ i (hi : i < [y0, y1, y2].length) (hi' : i < [ndC y0 k0, ndC y1 k1, ndC y2 k2].length), GoRep.rep X w [y0, y1, y2][i] [ndC y0 k0, ndC y1 k1, ndC y2 k2][i]
  | 0, _, _ => (show NRep X w y0 (ndC y0 k0) by rw [y0.eta]; exact slv_nrep s0)
  | 1, _, _ => (show NRep X w y1 (ndC y1 k1) by rw [y1.eta]; exact slv_nrep s1)
  | 2, _, _ => (show NRep X w y2 (ndC y2 k2) by rw [y2.eta]; exact slv_nrep s2)
theorem buildN01 (k n : Int) (w : World) : (Instr.build 25 #[(0, .int .i64 k), (1, .int .i64 n)]).run Tryd.prog w = .ok (.agg #[.int .i64 k, .int .i64 n, str [], .slice none 0 0]) w := by kernel_rfl
theorem buildN02 (k : Int) (s : Str) (w : World) : (Instr.build 25 #[(0, .int .i64 k), (2, str s)]).run Tryd.prog w = .ok (.agg #[.int .i64 k, .int .i64 0, str s, .slice none 0 0]) w := by kernel_rfl
theorem buildSN2 (k n : Int) (s : Str) (p : Option Addr) (l c : Nat) (k' n' : Int) (s' : Str) (p' : Option Addr) (l' c' : Nat) (w : World) : (Instr.buildSlice 23 2 #[(0, .agg #[.int .i64 k, .int .i64 n, str s, .slice p l c]), (1, .agg #[.int .i64 k', .int .i64 n', str s', .slice p' l' c'])]).run Tryd.prog w = .ok (.slice (some ⟨w.heap.size, 0, none⟩) 2 2) (w.alloc (.cells #[.int .i64 k, .int .i64 n, str s, .slice p l c, .int .i64 k', .int .i64 n', str s', .slice p' l' c'] 25)) := by kernel_rfl
theorem buildSN3 (k n : Int) (s : Str) (p : Option Addr) (l c : Nat) (k' n' : Int) (s' : Str) (p' : Option Addr) (l' c' : Nat) (k'' n'' : Int) (s'' : Str) (p'' : Option Addr) (l'' c'' : Nat) (w : World) : (Instr.buildSlice 23 3 #[(0, .agg #[.int .i64 k, .int .i64 n, str s, .slice p l c]), (1, .agg #[.int .i64 k', .int .i64 n', str s', .slice p' l' c']), (2, .agg #[.int .i64 k'', .int .i64 n'', str s'', .slice p'' l'' c''])]).run Tryd.prog w = .ok (.slice (some ⟨w.heap.size, 0, none⟩) 3 3) (w.alloc (.cells #[.int .i64 k, .int .i64 n, str s, .slice p l c, .int .i64 k', .int .i64 n', str s', .slice p' l' c', .int .i64 k'', .int .i64 n'', str s'', .slice p'' l'' c''] 25)) := by kernel_rfl
theorem buildSI8 (a b c d e f g h : Int) (w : World) : (Instr.buildSlice 22 8 #[(0, .int .i64 a), (1, .int .i64 b), (2, .int .i64 c), (3, .int .i64 d), (4, .int .i64 e), (5, .int .i64 f), (6, .int .i64 g), (7, .int .i64 h)]).run Tryd.prog w = .ok (.slice (some ⟨w.heap.size, 0, none⟩) 8 8) (w.alloc (.cells #[.int .i64 a, .int .i64 b, .int .i64 c, .int .i64 d, .int .i64 e, .int .i64 f, .int .i64 g, .int .i64 h] 3)) := by kernel_rfl
theorem size1 (k n : Int) (s : Str) (y0 : Nd) : sizeN (.mk k n s [y0]) = 1 + sizeN y0 := by rw [sizeN_eq]; simp [Nd.kids]
theorem size2 (k n : Int) (s : Str) (y0 y1 : Nd) : sizeN (.mk k n s [y0, y1]) = 1 + sizeN y0 + sizeN y1 := by rw [sizeN_eq]; simp [Nd.kids]; omega
theorem size3 (k n : Int) (s : Str) (y0 y1 y2 : Nd) : sizeN (.mk k n s [y0, y1, y2]) = 1 + sizeN y0 + sizeN y1 + sizeN y2 := by rw [sizeN_eq]; simp [Nd.kids]; omega
theorem size0 (k n : Int) (s : Str) : sizeN (.mk k n s []) = 1 := by rw [sizeN_eq]; simp [Nd.kids]
theorem nest0 (k n : Int) (s : Str) : nestN (.mk k n s []) = 1 := by rw [nestN_eq]; simp [Nd.kids]
theorem nest1 (k n : Int) (s : Str) (y0 : Nd) : nestN (.mk k n s [y0]) = 1 + nestN y0 := by rw [nestN_eq]; simp [Nd.kids]
theorem nest2 (k n : Int) (s : Str) (y0 y1 : Nd) : nestN (.mk k n s [y0, y1]) = 1 + max (nestN y0) (nestN y1) := by rw [nestN_eq]; simp [Nd.kids]
theorem nest3 (k n : Int) (s : Str) (y0 y1 y2 : Nd) : nestN (.mk k n s [y0, y1, y2]) = 1 + max (max (nestN y0) (nestN y1)) (nestN y2) := by rw [nestN_eq]; simp [Nd.kids]
theorem ty0 {k n τ : Int} {s : Str} (h : leafN k n s = τ) : typeT (.mk k n s []) = τ := by rw [typeT_eq]; exact h
theorem ty1 {k τ a : Int} {s : Str} {y0 : Nd} (h0 : typeT y0 = a) (h : combT k 0 s [a] = τ) : typeT (.mk k 0 s [y0]) = τ := by rw [typeT_eq]; simp only [Nd.kind, Nd.num, Nd.word, Nd.kids, List.map_cons, List.map_nil, h0]; exact h
theorem ty2 {k τ a b : Int} {s : Str} {y0 y1 : Nd} (h0 : typeT y0 = a) (h1 : typeT y1 = b) (h : combT k 0 s [a, b] = τ) : typeT (.mk k 0 s [y0, y1]) = τ := by rw [typeT_eq]; simp only [Nd.kind, Nd.num, Nd.word, Nd.kids, List.map_cons, List.map_nil, h0, h1]; exact h
theorem ty3 {k τ a b c : Int} {s : Str} {y0 y1 y2 : Nd} (h0 : typeT y0 = a) (h1 : typeT y1 = b) (h2 : typeT y2 = c) (h : combT k 0 s [a, b, c] = τ) : typeT (.mk k 0 s [y0, y1, y2]) = τ := by rw [typeT_eq]; simp only [Nd.kind, Nd.num, Nd.word, Nd.kids, List.map_cons, List.map_nil, h0, h1, h2]; exact h
theorem tA : ∀ q (h : q < opsA.length), combT 6 0 opsA[q] [1, 1] = 1 := by
  intro q h
  match q, h with
  | 0, _ => rfl
  | 1, _ => rfl
  | 2, _ => rfl
theorem tL : ∀ q (h : q < opsL.length), combT 6 0 opsL[q] [2, 2] = 2 := by
  intro q h
  match q, h with
  | 0, _ => rfl
  | 1, _ => rfl
theorem tCd : ∀ q (h : q < opsC.length), combT 6 0 opsC[q] [3, 3] = 2 := by
  intro q h
  match q, h with
  | 0, _ => rfl
  | 1, _ => rfl
  | 2, _ => rfl
  | 3, _ => rfl
  | 4, _ => rfl
  | 5, _ => rfl
theorem tCn : ∀ q (h : q < opsC.length), combT 6 0 opsC[q] [1, 1] = 2 := by
  intro q h
  match q, h with
  | 0, _ => rfl
  | 1, _ => rfl
  | 2, _ => rfl
  | 3, _ => rfl
  | 4, _ => rfl
  | 5, _ => rfl
theorem tN : ∀ q (h : q < opsN.length), combT 10 0 opsN[q] [3] = 3 := by
  intro q h
  match q, h with
  | 0, _ => rfl
  | 1, _ => rfl
theorem tE : ∀ q (h : q < opsE.length), combT 10 0 opsE[q] [3, 3] = 3 := by
  intro q h
  match q, h with
  | 0, _ => rfl
  | 1, _ => rfl
theorem tU8 : ∀ q (h : q < units.length), combT 8 0 units[q] [3, 1] = 3 := by
  intro q h
  match q, h with
  | 0, _ => rfl
  | 1, _ => rfl
  | 2, _ => rfl
  | 3, _ => rfl
theorem tU7 : ∀ q (h : q < units.length), combT 7 0 units[q] [3, 1] = 3 := by
  intro q h
  match q, h with
  | 0, _ => rfl
  | 1, _ => rfl
  | 2, _ => rfl
  | 3, _ => rfl
theorem lN1 : ∀ q (h : q < [(1 : Int), 2, 7, 14, 30, 0, 60, 365].length), leafN 1 [(1 : Int), 2, 7, 14, 30, 0, 60, 365][q] [] = 1 := by
  intro q h
  match q, h with
  | 0, _ => rfl
  | 1, _ => rfl
  | 2, _ => rfl
  | 3, _ => rfl
  | 4, _ => rfl
  | 5, _ => rfl
  | 6, _ => rfl
  | 7, _ => rfl
theorem lF1 : ∀ q, q < 5 → ∀ (h : 2 + q < fieldNames.length), leafN 4 0 fieldNames[2 + q] = 1 := by
  intro q hq h
  match q, hq, h with
  | 0, _, _ => rfl
  | 1, _, _ => rfl
  | 2, _, _ => rfl
  | 3, _, _ => rfl
  | 4, _, _ => rfl
theorem lF3 : ∀ q, q < 3 → ∀ (h : q / 2 < fieldNames.length), leafN 4 0 (fieldNames[q / 2]) = 3 := by
  intro q hq h
  match q, hq, h with
  | 0, _, _ => rfl
  | 1, _, _ => rfl
  | 2, _, _ => rfl
theorem lB2 : ∀ q : Nat, q < 2 → leafN 2 (q : Int) [] = 2 := by
  intro q hq
  match q, hq with
  | 0, _ => rfl
  | 1, _ => rfl
theorem lD3 : ∀ q : Nat, q < 200 → leafN 3 (739600 + (q : Int)) [] = 3 := by
  intro q hq
  unfold leafN
  rw [if_neg (by decide), if_neg (by simp), if_neg (by decide), if_neg (by decide), if_pos rfl, if_pos (by omega)]
end Go.Proofs.YtgpibcgebpgmiaaDoor

namespace Go.Proofs.YtgpibcgebpgmiaaDoor
open Go Go.Eng Go.RowKit
set_option linter.unusedVariables false

theorem number_step (d : Nat) (hd1 : 1 ≤ d) (hd2 : d ≤ 6) (ih : 2 ≤ d → GenP 31 (d - 1) ∧ GenP 30 (d - 1) ∧ GenP 29 (d - 1)) : GenP 31 d := by
  intro X w bm lv l i z hz hmk hsl hl hi hX
  subst hz
  have hsz := szD_eq hd1
  have hsp : 2 ≤ d → 1 ≤ szD (d - 1) := fun h => by have := szD_eq (d := d - 1) (by omega); omega
  refine calls_of_WC2 (n := 82) Tryd.func31 rfl rfl rfl ?_
  refine W ?_
  refine WL_eff OE_alloc rfl ?_
  rintro _ w1 ⟨b4, rfl, hb4, hblk4, hS0⟩
  have gm : G (b4 :: bm :: X) w1 w1 bm b4 lv l i := ⟨hmk.up hS0, hsl.up hS0, Stp.refl _ _, ⟨_, rfl, hblk4⟩, fun h => by have := hmk.lt; omega, fun c hc => by
    simp only [List.mem_cons] at hc
    have h1 := hblk4.lt
    have h2 := hmk.lt
    have h3 := hS0.size
    rcases hc with rfl | rfl | hc
    · exact h1
    · omega
    · have := hX c hc; omega⟩
  clear hblk4
  refine W ?_
  refine WL_eff (OE_call rfl (evs2 rfl rfl) (Next_any bm lv l _ 8 _ (by decide) (by omega) gm.mkr gm.sl hl)) rfl ?_
  rintro _ w2 ⟨q, rfl, hq, hm, hS⟩
  replace gm := gm.nxt hm hS
  clear hm hS
  refine W ?_
  refine WC_cutQ (σ := Nat) (fun k => [(0, .pointer (some ⟨bm, 0, none⟩)), (1, .int .i64 (d : Int)), (4, .pointer (some ⟨b4, 0, none⟩)), (5, .int .i64 (k : Int))]) (fun k w' => w' = w2 ∧ k < 8 ∧ (d = 1 → k < 3)) ?_ ?_
  · by_cases h1 : d = 1
    · repeat' (first | refine W1 ?_ | (exfalso; omega) | refine WL_split rfl rfl (fun hg => ?_) (fun hg => ?_) | refine WL_splitB rfl rfl (fun hg => ?_) (fun hg => ?_) | refine WC_cond rfl (fun hc => ?_) (fun hc => ?_) | refine WC_condB rfl (fun hc => ?_) (fun hc => ?_))
      exact WQ_cut (q % 3) ⟨rfl, rfl, rfl, rfl, trivial⟩ ⟨rfl, by omega, fun _ => by omega⟩
    · repeat' (first | refine W1 ?_ | (exfalso; omega) | refine WL_split rfl rfl (fun hg => ?_) (fun hg => ?_) | refine WL_splitB rfl rfl (fun hg => ?_) (fun hg => ?_) | refine WC_cond rfl (fun hc => ?_) (fun hc => ?_) | refine WC_condB rfl (fun hc => ?_) (fun hc => ?_))
      exact WQ_cut q ⟨rfl, rfl, rfl, rfl, trivial⟩ ⟨rfl, by omega, fun h => absurd h h1⟩
  rintro k w3 ⟨rfl, hkn, hk1⟩
  clear hq
  by_cases k0 : k ≤ 1
  · repeat' (first | refine W1 ?_ | (exfalso; omega) | refine WL_split rfl rfl (fun hg => ?_) (fun hg => ?_) | refine WL_splitB rfl rfl (fun hg => ?_) (fun hg => ?_) | refine WC_cond rfl (fun hc => ?_) (fun hc => ?_) | refine WC_condB rfl (fun hc => ?_) (fun hc => ?_))
    all_goals
      refine WL_eff (OE_buildSlice (vs := [(0, .int .i64 1), (1, .int .i64 2), (2, .int .i64 7), (3, .int .i64 14), (4, .int .i64 30), (5, .int .i64 0), (6, .int .i64 60), (7, .int .i64 365)]) rfl (buildSI8 _ _ _ _ _ _ _ _)) rfl ?_
      rintro iv wq hN
      have hws : SlV [bm] wq iv [(1 : Int), 2, 7, 14, 30, 0, 60, 365] := hN.slv (fun c hc => gm.hX c (by simp at hc; subst hc; simp)) rfl rfl (by decide)
      have hT := NewSl.stp hN
      clear hN
      replace gm := gm.up hT
      clear hT
      refine W ?_
      refine WL_eff (OE_call rfl (evs2 rfl rfl) (Next_any bm lv l _ 8 _ (by decide) (by omega) gm.mkr gm.sl hl)) rfl ?_
      rintro _ wq ⟨q', rfl, hq', hm, hS⟩
      replace gm := gm.nxt hm hS
      replace hws := hws.ext hS (by simp) (fun _ h => .inl h)
      clear hm hS
      have hqn : q' < [(1 : Int), 2, 7, 14, 30, 0, 60, 365].length := by show q' < 8; omega
      refine W ?_
      apply WL_build (vs := [(0, .int .i64 1), (1, .int .i64 _)]) rfl (buildN01 _ _) rfl
      have hy : SlV (α := Nd) (b4 :: bm :: X) wq (.slice none 0 0) [] := nilSlv _ _
      obtain ⟨cs, hcl, hcb⟩ := gm.blk
      refine WL_eff0 (OE_storeA (us := ndC (.mk 1 [(1 : Int), 2, 7, 14, 30, 0, 60, 365][q'] [] []) _) rfl rfl rfl rfl (ndC_one (x := (.mk 1 [(1 : Int), 2, 7, 14, 30, 0, 60, 365][q'] [] [])) hy) hcb hcl.symm) ?_
      rintro _ wz ⟨hz, hbz⟩
      refine W ?_
      refine WQ_retc rfl rfl rfl hbz rfl ?_
      have hf := gm.fin (y := (.mk 1 [(1 : Int), 2, 7, 14, 30, 0, 60, 365][q'] [] [])) hS0 hb4 hy hz
      exact .mk ⟨_, _, hf.1, by rw [size0]; omega, ⟨ty0 (lN1 _ hqn), by rw [nest0]; omega⟩, hf.2.1, by omega, hf.2.2⟩
  by_cases k2 : k = 2
  · repeat' (first | refine W1 ?_ | (exfalso; omega) | refine WL_split rfl rfl (fun hg => ?_) (fun hg => ?_) | refine WL_splitB rfl rfl (fun hg => ?_) (fun hg => ?_) | refine WC_cond rfl (fun hc => ?_) (fun hc => ?_) | refine WC_condB rfl (fun hc => ?_) (fun hc => ?_))
    refine WL_eff (OE_call rfl evs0 (Fields_any [bm] _ (fun c hc => gm.hX c (by simp at hc; subst hc; simp)))) rfl ?_
    rintro fv wq ⟨hr, hT⟩
    have hws := hr.slv (fun c hc => gm.hX c (by simp at hc; subst hc; simp))
    replace gm := gm.up hT
    clear hr hT
    refine W ?_
    refine WL_eff (OE_call rfl (evs2 rfl rfl) (Next_any bm lv l _ 5 _ (by decide) (by omega) gm.mkr gm.sl hl)) rfl ?_
    rintro _ wq ⟨q', rfl, hq', hm, hS⟩
    replace gm := gm.nxt hm hS
    replace hws := hws.ext hS (by simp) (fun _ h => .inl h)
    clear hm hS
    have hqn : 2 + q' < fieldNames.length := by show 2 + q' < 7; omega
    refine W ?_
    apply WL_build (vs := [(0, .int .i64 4), (2, str _)]) rfl (buildN02 _ _) rfl
    have hy : SlV (α := Nd) (b4 :: bm :: X) wq (.slice none 0 0) [] := nilSlv _ _
    obtain ⟨cs, hcl, hcb⟩ := gm.blk
    refine WL_eff0 (OE_storeA (us := ndC (.mk 4 0 fieldNames[2 + q'] []) _) rfl rfl rfl rfl (ndC_one (x := (.mk 4 0 fieldNames[2 + q'] [])) hy) hcb hcl.symm) ?_
    rintro _ wz ⟨hz, hbz⟩
    refine W ?_
    refine WQ_retc rfl rfl rfl hbz rfl ?_
    have hf := gm.fin (y := (.mk 4 0 fieldNames[2 + q'] [])) hS0 hb4 hy hz
    exact .mk ⟨_, _, hf.1, by rw [size0]; omega, ⟨ty0 (lF1 _ (by omega) hqn), by rw [nest0]; omega⟩, hf.2.1, by omega, hf.2.2⟩
  by_cases k3 : k = 3
  · have h2 : 2 ≤ d := by omega
    replace ih := ih h2
    replace hsp := hsp h2
    repeat' (first | refine W1 ?_ | (exfalso; omega) | refine WL_split rfl rfl (fun hg => ?_) (fun hg => ?_) | refine WL_splitB rfl rfl (fun hg => ?_) (fun hg => ?_) | refine WC_cond rfl (fun hc => ?_) (fun hc => ?_) | refine WC_condB rfl (fun hc => ?_) (fun hc => ?_))
    refine W ?_
    refine WL_eff (OE_call rfl (evs2 rfl rfl) ((ih.1) (b4 :: bm :: X) _ bm lv l _ _ (by omega) gm.mkr gm.sl hl (by omega) gm.hX)) rfl ?_
    rintro _ wq ⟨y0, i0, ⟨k0, rfl, s0⟩, z0, ⟨ty0, ne0⟩, hm, hi0, hS⟩
    obtain ⟨p0, c0, rfl, -⟩ := id s0
    replace gm := gm.nxt hm hS
    clear hm hS
    refine W ?_
    refine WL_eff (OE_buildSlice (vs := [(0, .agg #[.int .i64 y0.kind, .int .i64 y0.num, str y0.word, .slice p0 y0.kids.length c0])]) rfl (buildSN1 _ _ _ _ _ _)) rfl ?_
    rintro bv wq hN
    have hbv : SlV (b4 :: bm :: X) wq bv [y0] := hN.slvG (css := [ndC y0 _]) gm.hX rfl rfl rfl (reps1 s0) (by simp [maxLen])
    have hT := NewSl.stp hN
    clear hN
    replace gm := gm.up hT
    clear hT
    refine W ?_
    refine WL_eff (OE_call rfl (evs3 rfl rfl rfl) (node14_any (b4 :: bm :: X) 5 [45] bv [y0] _ gm.hX hbv)) rfl ?_
    rintro _ wq ⟨⟨ky, rfl, hy⟩, hT⟩
    replace gm := gm.up hT
    clear hT hbv
    refine W ?_
    obtain ⟨cs, hcl, hcb⟩ := gm.blk
    refine WL_eff0 (OE_storeA (us := ndC (.mk 5 0 [45] [y0]) _) rfl rfl rfl rfl (ndC_one (x := (.mk 5 0 [45] [y0])) hy) hcb hcl.symm) ?_
    rintro _ wz ⟨hz, hbz⟩
    refine W ?_
    refine WQ_retc rfl rfl rfl hbz rfl ?_
    have hf := gm.fin (y := (.mk 5 0 [45] [y0])) hS0 hb4 hy hz
    exact .mk ⟨_, _, hf.1, by rw [size1]; omega, ⟨ty1 ty0 (rfl), by rw [nest1]; omega⟩, hf.2.1, by omega, hf.2.2⟩
  by_cases k4 : k = 4
  · have h2 : 2 ≤ d := by omega
    replace ih := ih h2
    replace hsp := hsp h2
    repeat' (first | refine W1 ?_ | (exfalso; omega) | refine WL_split rfl rfl (fun hg => ?_) (fun hg => ?_) | refine WL_splitB rfl rfl (fun hg => ?_) (fun hg => ?_) | refine WC_cond rfl (fun hc => ?_) (fun hc => ?_) | refine WC_condB rfl (fun hc => ?_) (fun hc => ?_))
    refine W ?_
    refine WL_eff (OE_call rfl (evs2 rfl rfl) ((ih.2.2) (b4 :: bm :: X) _ bm lv l _ _ (by omega) gm.mkr gm.sl hl (by omega) gm.hX)) rfl ?_
    rintro _ wq ⟨y0, i0, ⟨k0, rfl, s0⟩, z0, ⟨ty0, ne0⟩, hm, hi0, hS⟩
    obtain ⟨p0, c0, rfl, -⟩ := id s0
    replace gm := gm.nxt hm hS
    clear hm hS
    refine W ?_
    refine WL_eff (OE_call rfl (evs2 rfl rfl) ((ih.2.2) (b4 :: bm :: X) _ bm lv l _ _ (by omega) gm.mkr gm.sl hl (by omega) gm.hX)) rfl ?_
    rintro _ wq ⟨y1, i1, ⟨k1, rfl, s1⟩, z1, ⟨ty1, ne1⟩, hm, hi1, hS⟩
    obtain ⟨p1, c1, rfl, -⟩ := id s1
    replace gm := gm.nxt hm hS
    replace s0 := s0.ext hS (by simp) (fun _ h => .inl h)
    clear hm hS
    refine W ?_
    refine WL_eff (OE_buildSlice (vs := [(0, .agg #[.int .i64 y0.kind, .int .i64 y0.num, str y0.word, .slice p0 y0.kids.length c0]), (1, .agg #[.int .i64 y1.kind, .int .i64 y1.num, str y1.word, .slice p1 y1.kids.length c1])]) rfl (buildSN2 _ _ _ _ _ _ _ _ _ _ _ _)) rfl ?_
    rintro bv wq hN
    have hbv : SlV (b4 :: bm :: X) wq bv [y0, y1] := hN.slvG (css := [ndC y0 _, ndC y1 _]) gm.hX rfl rfl rfl (reps2 s0 s1) (by simp [maxLen])
    have hT := NewSl.stp hN
    clear hN
    replace gm := gm.up hT
    clear hT
    refine W ?_
    refine WL_eff (OE_call rfl (evs3 rfl rfl rfl) (node14_any (b4 :: bm :: X) 10 [98, 101, 116, 119, 101, 101, 110] bv [y0, y1] _ gm.hX hbv)) rfl ?_
    rintro _ wq ⟨⟨ky, rfl, hy⟩, hT⟩
    replace gm := gm.up hT
    clear hT hbv
    refine W ?_
    obtain ⟨cs, hcl, hcb⟩ := gm.blk
    refine WL_eff0 (OE_storeA (us := ndC (.mk 10 0 [98, 101, 116, 119, 101, 101, 110] [y0, y1]) _) rfl rfl rfl rfl (ndC_one (x := (.mk 10 0 [98, 101, 116, 119, 101, 101, 110] [y0, y1])) hy) hcb hcl.symm) ?_
    rintro _ wz ⟨hz, hbz⟩
    refine W ?_
    refine WQ_retc rfl rfl rfl hbz rfl ?_
    have hf := gm.fin (y := (.mk 10 0 [98, 101, 116, 119, 101, 101, 110] [y0, y1])) hS0 hb4 hy hz
    exact .mk ⟨_, _, hf.1, by rw [size2]; omega, ⟨ty2 ty0 ty1 (rfl), by rw [nest2]; omega⟩, hf.2.1, by omega, hf.2.2⟩
  by_cases k5 : k = 5
  · have h2 : 2 ≤ d := by omega
    replace ih := ih h2
    replace hsp := hsp h2
    repeat' (first | refine W1 ?_ | (exfalso; omega) | refine WL_split rfl rfl (fun hg => ?_) (fun hg => ?_) | refine WL_splitB rfl rfl (fun hg => ?_) (fun hg => ?_) | refine WC_cond rfl (fun hc => ?_) (fun hc => ?_) | refine WC_condB rfl (fun hc => ?_) (fun hc => ?_))
    refine W ?_
    refine WL_eff (OE_call rfl (evs2 rfl rfl) ((ih.2.1) (b4 :: bm :: X) _ bm lv l _ _ (by omega) gm.mkr gm.sl hl (by omega) gm.hX)) rfl ?_
    rintro _ wq ⟨y0, i0, ⟨k0, rfl, s0⟩, z0, ⟨ty0, ne0⟩, hm, hi0, hS⟩
    obtain ⟨p0, c0, rfl, -⟩ := id s0
    replace gm := gm.nxt hm hS
    clear hm hS
    refine W ?_
    refine WL_eff (OE_call rfl (evs2 rfl rfl) ((ih.1) (b4 :: bm :: X) _ bm lv l _ _ (by omega) gm.mkr gm.sl hl (by omega) gm.hX)) rfl ?_
    rintro _ wq ⟨y1, i1, ⟨k1, rfl, s1⟩, z1, ⟨ty1, ne1⟩, hm, hi1, hS⟩
    obtain ⟨p1, c1, rfl, -⟩ := id s1
    replace gm := gm.nxt hm hS
    replace s0 := s0.ext hS (by simp) (fun _ h => .inl h)
    clear hm hS
    refine W ?_
    refine WL_eff (OE_call rfl (evs2 rfl rfl) ((ih.1) (b4 :: bm :: X) _ bm lv l _ _ (by omega) gm.mkr gm.sl hl (by omega) gm.hX)) rfl ?_
    rintro _ wq ⟨y2, i2, ⟨k2, rfl, s2⟩, z2, ⟨ty2, ne2⟩, hm, hi2, hS⟩
    obtain ⟨p2, c2, rfl, -⟩ := id s2
    replace gm := gm.nxt hm hS
    replace s0 := s0.ext hS (by simp) (fun _ h => .inl h)
    replace s1 := s1.ext hS (by simp) (fun _ h => .inl h)
    clear hm hS
    refine W ?_
    refine WL_eff (OE_buildSlice (vs := [(0, .agg #[.int .i64 y0.kind, .int .i64 y0.num, str y0.word, .slice p0 y0.kids.length c0]), (1, .agg #[.int .i64 y1.kind, .int .i64 y1.num, str y1.word, .slice p1 y1.kids.length c1]), (2, .agg #[.int .i64 y2.kind, .int .i64 y2.num, str y2.word, .slice p2 y2.kids.length c2])]) rfl (buildSN3 _ _ _ _ _ _ _ _ _ _ _ _ _ _ _ _ _ _)) rfl ?_
    rintro bv wq hN
    have hbv : SlV (b4 :: bm :: X) wq bv [y0, y1, y2] := hN.slvG (css := [ndC y0 _, ndC y1 _, ndC y2 _]) gm.hX rfl rfl rfl (reps3 s0 s1 s2) (by simp [maxLen])
    have hT := NewSl.stp hN
    clear hN
    replace gm := gm.up hT
    clear hT
    refine W ?_
    refine WL_eff (OE_call rfl (evs3 rfl rfl rfl) (node14_any (b4 :: bm :: X) 9 [] bv [y0, y1, y2] _ gm.hX hbv)) rfl ?_
    rintro _ wq ⟨⟨ky, rfl, hy⟩, hT⟩
    replace gm := gm.up hT
    clear hT hbv
    refine W ?_
    obtain ⟨cs, hcl, hcb⟩ := gm.blk
    refine WL_eff0 (OE_storeA (us := ndC (.mk 9 0 [] [y0, y1, y2]) _) rfl rfl rfl rfl (ndC_one (x := (.mk 9 0 [] [y0, y1, y2])) hy) hcb hcl.symm) ?_
    rintro _ wz ⟨hz, hbz⟩
    refine W ?_
    refine WQ_retc rfl rfl rfl hbz rfl ?_
    have hf := gm.fin (y := (.mk 9 0 [] [y0, y1, y2])) hS0 hb4 hy hz
    exact .mk ⟨_, _, hf.1, by rw [size3]; omega, ⟨ty3 ty0 ty1 ty2 (rfl), by rw [nest3]; omega⟩, hf.2.1, by omega, hf.2.2⟩
  have h2 : 2 ≤ d := by omega
  replace ih := ih h2
  replace hsp := hsp h2
  repeat' (first | refine W1 ?_ | (exfalso; omega) | refine WL_split rfl rfl (fun hg => ?_) (fun hg => ?_) | refine WL_splitB rfl rfl (fun hg => ?_) (fun hg => ?_) | refine WC_cond rfl (fun hc => ?_) (fun hc => ?_) | refine WC_condB rfl (fun hc => ?_) (fun hc => ?_))
  refine WC_drawn 16 ([b4, bm]) [] [(1, 0), (5, 0), (6, 0), (7, 0), (9, 0), (10, 0), (11, 0), (0, 2), (2, 2), (3, 0), (4, 1), (8, 2), (12, 2), (13, 2), (14, 2), (15, 2)] rfl mixed (by kernel_rfl) (by kernel_rfl) (by kernel_rfl) (fun w1 hS1 => ?_)
  replace gm := gm.up hS1
  refine D ?_
  refine WD_eff rfl trivial (OE_call rfl (evs1 rfl) (words_any [b4, bm] [43, 32, 45, 32, 42] _ (fun c hc => gm.hX c (by simp at hc; rcases hc with rfl | rfl <;> simp)) (by decide))) (fun _ _ h => h.2.mono (by simp)) rfl ?_
  rintro wv wq ⟨hr, hT⟩
  rw [show wordsOf [43, 32, 45, 32, 42] = opsA by decide] at hr
  have hws := hr.slv (fun c hc => gm.hX c (by simp at hc; rcases hc with rfl | rfl <;> simp))
  replace gm := gm.up hT
  clear hr hT
  refine D ?_
  refine WD_eff rfl trivial (OE_call rfl (evs2 rfl rfl) (Next_any bm lv l _ 3 _ (by decide) (by omega) gm.mkr gm.sl hl)) (fun _ _ h => h.choose_spec.2.2.2.mono (by simp)) rfl ?_
  rintro _ wq ⟨q, rfl, hq, hm, hS⟩
  replace gm := gm.nxt hm hS
  replace hws := hws.ext hS (by simp) (fun _ h => .inl h)
  clear hm hS
  have hqn : q < opsA.length := by show q < 3; omega
  refine D ?_
  refine WD_eff rfl trivial (OE_call rfl (evs2 rfl rfl) ((ih.1) (b4 :: bm :: X) _ bm lv l _ _ (by omega) gm.mkr gm.sl hl (by omega) gm.hX)) (fun _ _ h => by obtain ⟨_, _, _, _, _, _, _, h⟩ := h; exact h.mono (by simp)) rfl ?_
  rintro _ wq ⟨y0, i0, ⟨k0, rfl, s0⟩, z0, ⟨ty0, ne0⟩, hm, hi0, hS⟩
  obtain ⟨p0, c0, rfl, -⟩ := id s0
  replace gm := gm.nxt hm hS
  replace hws := hws.ext hS (by simp) (fun _ h => .inl h)
  clear hm hS
  refine D ?_
  refine WD_eff rfl trivial (OE_call rfl (evs2 rfl rfl) ((ih.1) (b4 :: bm :: X) _ bm lv l _ _ (by omega) gm.mkr gm.sl hl (by omega) gm.hX)) (fun _ _ h => by obtain ⟨_, _, _, _, _, _, _, h⟩ := h; exact h.mono (by simp)) rfl ?_
  rintro _ wq ⟨y1, i1, ⟨k1, rfl, s1⟩, z1, ⟨ty1, ne1⟩, hm, hi1, hS⟩
  obtain ⟨p1, c1, rfl, -⟩ := id s1
  replace gm := gm.nxt hm hS
  replace hws := hws.ext hS (by simp) (fun _ h => .inl h)
  replace s0 := s0.ext hS (by simp) (fun _ h => .inl h)
  clear hm hS
  refine D ?_
  refine WD_eff rfl trivial (OE_buildSlice (vs := [(0, .agg #[.int .i64 y0.kind, .int .i64 y0.num, str y0.word, .slice p0 y0.kids.length c0]), (1, .agg #[.int .i64 y1.kind, .int .i64 y1.num, str y1.word, .slice p1 y1.kids.length c1])]) rfl (buildSN2 _ _ _ _ _ _ _ _ _ _ _ _)) (fun _ _ h => (NewSl.stp h).mono (by simp)) rfl ?_
  rintro bv wq hN
  have hbv : SlV (b4 :: bm :: X) wq bv [y0, y1] := hN.slvG (css := [ndC y0 _, ndC y1 _]) gm.hX rfl rfl rfl (reps2 s0 s1) (by simp [maxLen])
  have hT := NewSl.stp hN
  clear hN
  replace gm := gm.up hT
  replace hws := hws.up hT
  clear hT
  refine D ?_
  refine WD_eff rfl trivial (OE_call rfl (evs3 rfl rfl rfl) (node14_any (b4 :: bm :: X) 6 opsA[q] bv [y0, y1] _ gm.hX hbv)) (fun _ _ h => h.2.mono (by simp)) rfl ?_
  rintro _ wq ⟨⟨ky, rfl, hy⟩, hT⟩
  replace gm := gm.up hT
  clear hT hbv
  refine D ?_
  obtain ⟨cs, hcl, hcb⟩ := gm.blk
  refine WD_eff0 rfl trivial (OE_storeA (us := ndC (.mk 6 0 opsA[q] [y0, y1]) _) rfl rfl rfl rfl (ndC_one (x := (.mk 6 0 opsA[q] [y0, y1])) hy) hcb hcl.symm) (fun _ _ h => h.1.mono (by simp)) ?_
  rintro _ wz ⟨hz, hbz⟩
  refine D ?_
  refine W ?_
  refine WQ_retc rfl rfl rfl hbz rfl ?_
  have hf := gm.fin (y := (.mk 6 0 opsA[q] [y0, y1])) hS0 hb4 hy hz
  exact .mk ⟨_, _, hf.1, by rw [size2]; omega, ⟨ty2 ty0 ty1 (tA _ hqn), by rw [nest2]; omega⟩, hf.2.1, by omega, hf.2.2⟩
end Go.Proofs.YtgpibcgebpgmiaaDoor

namespace Go.Proofs.YtgpibcgebpgmiaaDoor
open Go Go.Eng Go.RowKit
set_option linter.unusedVariables false

theorem boolean_step (d : Nat) (hd1 : 1 ≤ d) (hd2 : d ≤ 6) (ih : 2 ≤ d → GenP 31 (d - 1) ∧ GenP 30 (d - 1) ∧ GenP 29 (d - 1)) : GenP 30 d := by
  intro X w bm lv l i z hz hmk hsl hl hi hX
  subst hz
  have hsz := szD_eq hd1
  have hsp : 2 ≤ d → 1 ≤ szD (d - 1) := fun h => by have := szD_eq (d := d - 1) (by omega); omega
  refine calls_of_WC2 (n := 89) Tryd.func30 rfl rfl rfl ?_
  refine W ?_
  refine WL_eff OE_alloc rfl ?_
  rintro _ w1 ⟨b4, rfl, hb4, hblk4, hS0⟩
  have gm : G (b4 :: bm :: X) w1 w1 bm b4 lv l i := ⟨hmk.up hS0, hsl.up hS0, Stp.refl _ _, ⟨_, rfl, hblk4⟩, fun h => by have := hmk.lt; omega, fun c hc => by
    simp only [List.mem_cons] at hc
    have h1 := hblk4.lt
    have h2 := hmk.lt
    have h3 := hS0.size
    rcases hc with rfl | rfl | hc
    · exact h1
    · omega
    · have := hX c hc; omega⟩
  clear hblk4
  refine W ?_
  refine WL_eff (OE_call rfl (evs2 rfl rfl) (Next_any bm lv l _ 7 _ (by decide) (by omega) gm.mkr gm.sl hl)) rfl ?_
  rintro _ w2 ⟨q, rfl, hq, hm, hS⟩
  replace gm := gm.nxt hm hS
  clear hm hS
  refine W ?_
  refine WC_cutQ (σ := Nat) (fun k => [(0, .pointer (some ⟨bm, 0, none⟩)), (1, .int .i64 (d : Int)), (4, .pointer (some ⟨b4, 0, none⟩)), (5, .int .i64 (k : Int))]) (fun k w' => w' = w2 ∧ k < 7 ∧ (d = 1 → k = 0)) ?_ ?_
  · by_cases h1 : d = 1
    · repeat' (first | refine W1 ?_ | (exfalso; omega) | refine WL_split rfl rfl (fun hg => ?_) (fun hg => ?_) | refine WL_splitB rfl rfl (fun hg => ?_) (fun hg => ?_) | refine WC_cond rfl (fun hc => ?_) (fun hc => ?_) | refine WC_condB rfl (fun hc => ?_) (fun hc => ?_))
      exact WQ_cut 0 ⟨rfl, rfl, rfl, rfl, trivial⟩ ⟨rfl, by omega, fun _ => by omega⟩
    · repeat' (first | refine W1 ?_ | (exfalso; omega) | refine WL_split rfl rfl (fun hg => ?_) (fun hg => ?_) | refine WL_splitB rfl rfl (fun hg => ?_) (fun hg => ?_) | refine WC_cond rfl (fun hc => ?_) (fun hc => ?_) | refine WC_condB rfl (fun hc => ?_) (fun hc => ?_))
      exact WQ_cut q ⟨rfl, rfl, rfl, rfl, trivial⟩ ⟨rfl, by omega, fun h => absurd h h1⟩
  rintro k w3 ⟨rfl, hkn, hk1⟩
  clear hq
  by_cases k0 : k = 0
  · repeat' (first | refine W1 ?_ | (exfalso; omega) | refine WL_split rfl rfl (fun hg => ?_) (fun hg => ?_) | refine WL_splitB rfl rfl (fun hg => ?_) (fun hg => ?_) | refine WC_cond rfl (fun hc => ?_) (fun hc => ?_) | refine WC_condB rfl (fun hc => ?_) (fun hc => ?_))
    refine W ?_
    refine WL_eff (OE_call rfl (evs2 rfl rfl) (Next_any bm lv l _ 2 _ (by decide) (by omega) gm.mkr gm.sl hl)) rfl ?_
    rintro _ wq ⟨q', rfl, hq', hm, hS⟩
    replace gm := gm.nxt hm hS
    clear hm hS
    refine W ?_
    apply WL_build (vs := [(0, .int .i64 2), (1, .int .i64 _)]) rfl (buildN01 _ _) rfl
    have hy : SlV (α := Nd) (b4 :: bm :: X) wq (.slice none 0 0) [] := nilSlv _ _
    obtain ⟨cs, hcl, hcb⟩ := gm.blk
    refine WL_eff0 (OE_storeA (us := ndC (.mk 2 (q' : Int) [] []) _) rfl rfl rfl rfl (ndC_one (x := (.mk 2 (q' : Int) [] [])) hy) hcb hcl.symm) ?_
    rintro _ wz ⟨hz, hbz⟩
    refine W ?_
    refine WQ_retc rfl rfl rfl hbz rfl ?_
    have hf := gm.fin (y := (.mk 2 (q' : Int) [] [])) hS0 hb4 hy hz
    exact .mk ⟨_, _, hf.1, by rw [size0]; omega, ⟨ty0 (lB2 _ (by omega)), by rw [nest0]; omega⟩, hf.2.1, by omega, hf.2.2⟩
  by_cases k1 : k = 1
  · have h2 : 2 ≤ d := by omega
    replace ih := ih h2
    replace hsp := hsp h2
    repeat' (first | refine W1 ?_ | (exfalso; omega) | refine WL_split rfl rfl (fun hg => ?_) (fun hg => ?_) | refine WL_splitB rfl rfl (fun hg => ?_) (fun hg => ?_) | refine WC_cond rfl (fun hc => ?_) (fun hc => ?_) | refine WC_condB rfl (fun hc => ?_) (fun hc => ?_))
    refine W ?_
    refine WL_eff (OE_call rfl (evs2 rfl rfl) ((ih.2.1) (b4 :: bm :: X) _ bm lv l _ _ (by omega) gm.mkr gm.sl hl (by omega) gm.hX)) rfl ?_
    rintro _ wq ⟨y0, i0, ⟨k0, rfl, s0⟩, z0, ⟨ty0, ne0⟩, hm, hi0, hS⟩
    obtain ⟨p0, c0, rfl, -⟩ := id s0
    replace gm := gm.nxt hm hS
    clear hm hS
    refine W ?_
    refine WL_eff (OE_buildSlice (vs := [(0, .agg #[.int .i64 y0.kind, .int .i64 y0.num, str y0.word, .slice p0 y0.kids.length c0])]) rfl (buildSN1 _ _ _ _ _ _)) rfl ?_
    rintro bv wq hN
    have hbv : SlV (b4 :: bm :: X) wq bv [y0] := hN.slvG (css := [ndC y0 _]) gm.hX rfl rfl rfl (reps1 s0) (by simp [maxLen])
    have hT := NewSl.stp hN
    clear hN
    replace gm := gm.up hT
    clear hT
    refine W ?_
    refine WL_eff (OE_call rfl (evs3 rfl rfl rfl) (node14_any (b4 :: bm :: X) 5 [110, 111, 116] bv [y0] _ gm.hX hbv)) rfl ?_
    rintro _ wq ⟨⟨ky, rfl, hy⟩, hT⟩
    replace gm := gm.up hT
    clear hT hbv
    refine W ?_
    obtain ⟨cs, hcl, hcb⟩ := gm.blk
    refine WL_eff0 (OE_storeA (us := ndC (.mk 5 0 [110, 111, 116] [y0]) _) rfl rfl rfl rfl (ndC_one (x := (.mk 5 0 [110, 111, 116] [y0])) hy) hcb hcl.symm) ?_
    rintro _ wz ⟨hz, hbz⟩
    refine W ?_
    refine WQ_retc rfl rfl rfl hbz rfl ?_
    have hf := gm.fin (y := (.mk 5 0 [110, 111, 116] [y0])) hS0 hb4 hy hz
    exact .mk ⟨_, _, hf.1, by rw [size1]; omega, ⟨ty1 ty0 (rfl), by rw [nest1]; omega⟩, hf.2.1, by omega, hf.2.2⟩
  by_cases k2 : k = 2
  · have h2 : 2 ≤ d := by omega
    replace ih := ih h2
    replace hsp := hsp h2
    repeat' (first | refine W1 ?_ | (exfalso; omega) | refine WL_split rfl rfl (fun hg => ?_) (fun hg => ?_) | refine WL_splitB rfl rfl (fun hg => ?_) (fun hg => ?_) | refine WC_cond rfl (fun hc => ?_) (fun hc => ?_) | refine WC_condB rfl (fun hc => ?_) (fun hc => ?_))
    refine WC_drawn 16 ([b4, bm]) [] [(1, 0), (5, 0), (6, 0), (7, 0), (9, 0), (10, 0), (11, 0), (0, 2), (2, 2), (3, 0), (4, 1), (8, 2), (12, 2), (13, 2), (14, 2), (15, 2)] rfl mixed (by kernel_rfl) (by kernel_rfl) (by kernel_rfl) (fun w1 hS1 => ?_)
    replace gm := gm.up hS1
    refine D ?_
    refine WD_eff rfl trivial (OE_call rfl (evs1 rfl) (words_any [b4, bm] [97, 110, 100, 32, 111, 114] _ (fun c hc => gm.hX c (by simp at hc; rcases hc with rfl | rfl <;> simp)) (by decide))) (fun _ _ h => h.2.mono (by simp)) rfl ?_
    rintro wv wq ⟨hr, hT⟩
    rw [show wordsOf [97, 110, 100, 32, 111, 114] = opsL by decide] at hr
    have hws := hr.slv (fun c hc => gm.hX c (by simp at hc; rcases hc with rfl | rfl <;> simp))
    replace gm := gm.up hT
    clear hr hT
    refine D ?_
    refine WD_eff rfl trivial (OE_call rfl (evs2 rfl rfl) (Next_any bm lv l _ 2 _ (by decide) (by omega) gm.mkr gm.sl hl)) (fun _ _ h => h.choose_spec.2.2.2.mono (by simp)) rfl ?_
    rintro _ wq ⟨q, rfl, hq, hm, hS⟩
    replace gm := gm.nxt hm hS
    replace hws := hws.ext hS (by simp) (fun _ h => .inl h)
    clear hm hS
    have hqn : q < opsL.length := by show q < 2; omega
    refine D ?_
    refine WD_eff rfl trivial (OE_call rfl (evs2 rfl rfl) ((ih.2.1) (b4 :: bm :: X) _ bm lv l _ _ (by omega) gm.mkr gm.sl hl (by omega) gm.hX)) (fun _ _ h => by obtain ⟨_, _, _, _, _, _, _, h⟩ := h; exact h.mono (by simp)) rfl ?_
    rintro _ wq ⟨y0, i0, ⟨k0, rfl, s0⟩, z0, ⟨ty0, ne0⟩, hm, hi0, hS⟩
    obtain ⟨p0, c0, rfl, -⟩ := id s0
    replace gm := gm.nxt hm hS
    replace hws := hws.ext hS (by simp) (fun _ h => .inl h)
    clear hm hS
    refine D ?_
    refine WD_eff rfl trivial (OE_call rfl (evs2 rfl rfl) ((ih.2.1) (b4 :: bm :: X) _ bm lv l _ _ (by omega) gm.mkr gm.sl hl (by omega) gm.hX)) (fun _ _ h => by obtain ⟨_, _, _, _, _, _, _, h⟩ := h; exact h.mono (by simp)) rfl ?_
    rintro _ wq ⟨y1, i1, ⟨k1, rfl, s1⟩, z1, ⟨ty1, ne1⟩, hm, hi1, hS⟩
    obtain ⟨p1, c1, rfl, -⟩ := id s1
    replace gm := gm.nxt hm hS
    replace hws := hws.ext hS (by simp) (fun _ h => .inl h)
    replace s0 := s0.ext hS (by simp) (fun _ h => .inl h)
    clear hm hS
    refine D ?_
    refine WD_eff rfl trivial (OE_buildSlice (vs := [(0, .agg #[.int .i64 y0.kind, .int .i64 y0.num, str y0.word, .slice p0 y0.kids.length c0]), (1, .agg #[.int .i64 y1.kind, .int .i64 y1.num, str y1.word, .slice p1 y1.kids.length c1])]) rfl (buildSN2 _ _ _ _ _ _ _ _ _ _ _ _)) (fun _ _ h => (NewSl.stp h).mono (by simp)) rfl ?_
    rintro bv wq hN
    have hbv : SlV (b4 :: bm :: X) wq bv [y0, y1] := hN.slvG (css := [ndC y0 _, ndC y1 _]) gm.hX rfl rfl rfl (reps2 s0 s1) (by simp [maxLen])
    have hT := NewSl.stp hN
    clear hN
    replace gm := gm.up hT
    replace hws := hws.up hT
    clear hT
    refine D ?_
    refine WD_eff rfl trivial (OE_call rfl (evs3 rfl rfl rfl) (node14_any (b4 :: bm :: X) 6 opsL[q] bv [y0, y1] _ gm.hX hbv)) (fun _ _ h => h.2.mono (by simp)) rfl ?_
    rintro _ wq ⟨⟨ky, rfl, hy⟩, hT⟩
    replace gm := gm.up hT
    clear hT hbv
    refine D ?_
    obtain ⟨cs, hcl, hcb⟩ := gm.blk
    refine WD_eff0 rfl trivial (OE_storeA (us := ndC (.mk 6 0 opsL[q] [y0, y1]) _) rfl rfl rfl rfl (ndC_one (x := (.mk 6 0 opsL[q] [y0, y1])) hy) hcb hcl.symm) (fun _ _ h => h.1.mono (by simp)) ?_
    rintro _ wz ⟨hz, hbz⟩
    refine D ?_
    refine W ?_
    refine WQ_retc rfl rfl rfl hbz rfl ?_
    have hf := gm.fin (y := (.mk 6 0 opsL[q] [y0, y1])) hS0 hb4 hy hz
    exact .mk ⟨_, _, hf.1, by rw [size2]; omega, ⟨ty2 ty0 ty1 (tL _ hqn), by rw [nest2]; omega⟩, hf.2.1, by omega, hf.2.2⟩
  by_cases k3 : k = 3
  · have h2 : 2 ≤ d := by omega
    replace ih := ih h2
    replace hsp := hsp h2
    repeat' (first | refine W1 ?_ | (exfalso; omega) | refine WL_split rfl rfl (fun hg => ?_) (fun hg => ?_) | refine WL_splitB rfl rfl (fun hg => ?_) (fun hg => ?_) | refine WC_cond rfl (fun hc => ?_) (fun hc => ?_) | refine WC_condB rfl (fun hc => ?_) (fun hc => ?_))
    refine W ?_
    refine WL_eff (OE_call rfl (evs2 rfl rfl) ((ih.2.1) (b4 :: bm :: X) _ bm lv l _ _ (by omega) gm.mkr gm.sl hl (by omega) gm.hX)) rfl ?_
    rintro _ wq ⟨y0, i0, ⟨k0, rfl, s0⟩, z0, ⟨ty0, ne0⟩, hm, hi0, hS⟩
    obtain ⟨p0, c0, rfl, -⟩ := id s0
    replace gm := gm.nxt hm hS
    clear hm hS
    refine W ?_
    refine WL_eff (OE_call rfl (evs2 rfl rfl) ((ih.2.1) (b4 :: bm :: X) _ bm lv l _ _ (by omega) gm.mkr gm.sl hl (by omega) gm.hX)) rfl ?_
    rintro _ wq ⟨y1, i1, ⟨k1, rfl, s1⟩, z1, ⟨ty1, ne1⟩, hm, hi1, hS⟩
    obtain ⟨p1, c1, rfl, -⟩ := id s1
    replace gm := gm.nxt hm hS
    replace s0 := s0.ext hS (by simp) (fun _ h => .inl h)
    clear hm hS
    refine W ?_
    refine WL_eff (OE_call rfl (evs2 rfl rfl) ((ih.2.1) (b4 :: bm :: X) _ bm lv l _ _ (by omega) gm.mkr gm.sl hl (by omega) gm.hX)) rfl ?_
    rintro _ wq ⟨y2, i2, ⟨k2, rfl, s2⟩, z2, ⟨ty2, ne2⟩, hm, hi2, hS⟩
    obtain ⟨p2, c2, rfl, -⟩ := id s2
    replace gm := gm.nxt hm hS
    replace s0 := s0.ext hS (by simp) (fun _ h => .inl h)
    replace s1 := s1.ext hS (by simp) (fun _ h => .inl h)
    clear hm hS
    refine W ?_
    refine WL_eff (OE_buildSlice (vs := [(0, .agg #[.int .i64 y0.kind, .int .i64 y0.num, str y0.word, .slice p0 y0.kids.length c0]), (1, .agg #[.int .i64 y1.kind, .int .i64 y1.num, str y1.word, .slice p1 y1.kids.length c1]), (2, .agg #[.int .i64 y2.kind, .int .i64 y2.num, str y2.word, .slice p2 y2.kids.length c2])]) rfl (buildSN3 _ _ _ _ _ _ _ _ _ _ _ _ _ _ _ _ _ _)) rfl ?_
    rintro bv wq hN
    have hbv : SlV (b4 :: bm :: X) wq bv [y0, y1, y2] := hN.slvG (css := [ndC y0 _, ndC y1 _, ndC y2 _]) gm.hX rfl rfl rfl (reps3 s0 s1 s2) (by simp [maxLen])
    have hT := NewSl.stp hN
    clear hN
    replace gm := gm.up hT
    clear hT
    refine W ?_
    refine WL_eff (OE_call rfl (evs3 rfl rfl rfl) (node14_any (b4 :: bm :: X) 9 [] bv [y0, y1, y2] _ gm.hX hbv)) rfl ?_
    rintro _ wq ⟨⟨ky, rfl, hy⟩, hT⟩
    replace gm := gm.up hT
    clear hT hbv
    refine W ?_
    obtain ⟨cs, hcl, hcb⟩ := gm.blk
    refine WL_eff0 (OE_storeA (us := ndC (.mk 9 0 [] [y0, y1, y2]) _) rfl rfl rfl rfl (ndC_one (x := (.mk 9 0 [] [y0, y1, y2])) hy) hcb hcl.symm) ?_
    rintro _ wz ⟨hz, hbz⟩
    refine W ?_
    refine WQ_retc rfl rfl rfl hbz rfl ?_
    have hf := gm.fin (y := (.mk 9 0 [] [y0, y1, y2])) hS0 hb4 hy hz
    exact .mk ⟨_, _, hf.1, by rw [size3]; omega, ⟨ty3 ty0 ty1 ty2 (rfl), by rw [nest3]; omega⟩, hf.2.1, by omega, hf.2.2⟩
  by_cases k4 : k = 4
  · have h2 : 2 ≤ d := by omega
    replace ih := ih h2
    replace hsp := hsp h2
    repeat' (first | refine W1 ?_ | (exfalso; omega) | refine WL_split rfl rfl (fun hg => ?_) (fun hg => ?_) | refine WL_splitB rfl rfl (fun hg => ?_) (fun hg => ?_) | refine WC_cond rfl (fun hc => ?_) (fun hc => ?_) | refine WC_condB rfl (fun hc => ?_) (fun hc => ?_))
    refine WC_drawn 16 ([b4, bm]) [] [(1, 0), (5, 0), (6, 0), (7, 0), (9, 0), (10, 0), (11, 0), (0, 2), (2, 2), (3, 0), (4, 1), (8, 2), (12, 2), (13, 2), (14, 2), (15, 2)] rfl mixed (by kernel_rfl) (by kernel_rfl) (by kernel_rfl) (fun w1 hS1 => ?_)
    replace gm := gm.up hS1
    refine D ?_
    refine WD_eff rfl trivial (OE_call rfl (evs1 rfl) (words_any [b4, bm] [60, 32, 60, 61, 32, 61, 32, 33, 61, 32, 62, 32, 62, 61] _ (fun c hc => gm.hX c (by simp at hc; rcases hc with rfl | rfl <;> simp)) (by decide))) (fun _ _ h => h.2.mono (by simp)) rfl ?_
    rintro wv wq ⟨hr, hT⟩
    rw [show wordsOf [60, 32, 60, 61, 32, 61, 32, 33, 61, 32, 62, 32, 62, 61] = opsC by decide] at hr
    have hws := hr.slv (fun c hc => gm.hX c (by simp at hc; rcases hc with rfl | rfl <;> simp))
    replace gm := gm.up hT
    clear hr hT
    refine D ?_
    refine WD_eff rfl trivial (OE_call rfl (evs2 rfl rfl) (Next_any bm lv l _ 6 _ (by decide) (by omega) gm.mkr gm.sl hl)) (fun _ _ h => h.choose_spec.2.2.2.mono (by simp)) rfl ?_
    rintro _ wq ⟨q, rfl, hq, hm, hS⟩
    replace gm := gm.nxt hm hS
    replace hws := hws.ext hS (by simp) (fun _ h => .inl h)
    clear hm hS
    have hqn : q < opsC.length := by show q < 6; omega
    refine D ?_
    refine WD_eff rfl trivial (OE_call rfl (evs2 rfl rfl) ((ih.2.2) (b4 :: bm :: X) _ bm lv l _ _ (by omega) gm.mkr gm.sl hl (by omega) gm.hX)) (fun _ _ h => by obtain ⟨_, _, _, _, _, _, _, h⟩ := h; exact h.mono (by simp)) rfl ?_
    rintro _ wq ⟨y0, i0, ⟨k0, rfl, s0⟩, z0, ⟨ty0, ne0⟩, hm, hi0, hS⟩
    obtain ⟨p0, c0, rfl, -⟩ := id s0
    replace gm := gm.nxt hm hS
    replace hws := hws.ext hS (by simp) (fun _ h => .inl h)
    clear hm hS
    refine D ?_
    refine WD_eff rfl trivial (OE_call rfl (evs2 rfl rfl) ((ih.2.2) (b4 :: bm :: X) _ bm lv l _ _ (by omega) gm.mkr gm.sl hl (by omega) gm.hX)) (fun _ _ h => by obtain ⟨_, _, _, _, _, _, _, h⟩ := h; exact h.mono (by simp)) rfl ?_
    rintro _ wq ⟨y1, i1, ⟨k1, rfl, s1⟩, z1, ⟨ty1, ne1⟩, hm, hi1, hS⟩
    obtain ⟨p1, c1, rfl, -⟩ := id s1
    replace gm := gm.nxt hm hS
    replace hws := hws.ext hS (by simp) (fun _ h => .inl h)
    replace s0 := s0.ext hS (by simp) (fun _ h => .inl h)
    clear hm hS
    refine D ?_
    refine WD_eff rfl trivial (OE_buildSlice (vs := [(0, .agg #[.int .i64 y0.kind, .int .i64 y0.num, str y0.word, .slice p0 y0.kids.length c0]), (1, .agg #[.int .i64 y1.kind, .int .i64 y1.num, str y1.word, .slice p1 y1.kids.length c1])]) rfl (buildSN2 _ _ _ _ _ _ _ _ _ _ _ _)) (fun _ _ h => (NewSl.stp h).mono (by simp)) rfl ?_
    rintro bv wq hN
    have hbv : SlV (b4 :: bm :: X) wq bv [y0, y1] := hN.slvG (css := [ndC y0 _, ndC y1 _]) gm.hX rfl rfl rfl (reps2 s0 s1) (by simp [maxLen])
    have hT := NewSl.stp hN
    clear hN
    replace gm := gm.up hT
    replace hws := hws.up hT
    clear hT
    refine D ?_
    refine WD_eff rfl trivial (OE_call rfl (evs3 rfl rfl rfl) (node14_any (b4 :: bm :: X) 6 opsC[q] bv [y0, y1] _ gm.hX hbv)) (fun _ _ h => h.2.mono (by simp)) rfl ?_
    rintro _ wq ⟨⟨ky, rfl, hy⟩, hT⟩
    replace gm := gm.up hT
    clear hT hbv
    refine D ?_
    obtain ⟨cs, hcl, hcb⟩ := gm.blk
    refine WD_eff0 rfl trivial (OE_storeA (us := ndC (.mk 6 0 opsC[q] [y0, y1]) _) rfl rfl rfl rfl (ndC_one (x := (.mk 6 0 opsC[q] [y0, y1])) hy) hcb hcl.symm) (fun _ _ h => h.1.mono (by simp)) ?_
    rintro _ wz ⟨hz, hbz⟩
    refine D ?_
    refine W ?_
    refine WQ_retc rfl rfl rfl hbz rfl ?_
    have hf := gm.fin (y := (.mk 6 0 opsC[q] [y0, y1])) hS0 hb4 hy hz
    exact .mk ⟨_, _, hf.1, by rw [size2]; omega, ⟨ty2 ty0 ty1 (tCd _ hqn), by rw [nest2]; omega⟩, hf.2.1, by omega, hf.2.2⟩
  have h2 : 2 ≤ d := by omega
  replace ih := ih h2
  replace hsp := hsp h2
  repeat' (first | refine W1 ?_ | (exfalso; omega) | refine WL_split rfl rfl (fun hg => ?_) (fun hg => ?_) | refine WL_splitB rfl rfl (fun hg => ?_) (fun hg => ?_) | refine WC_cond rfl (fun hc => ?_) (fun hc => ?_) | refine WC_condB rfl (fun hc => ?_) (fun hc => ?_))
  refine WC_drawn 16 ([b4, bm]) [] [(1, 0), (5, 0), (6, 0), (7, 0), (9, 0), (10, 0), (11, 0), (0, 2), (2, 2), (3, 0), (4, 1), (8, 2), (12, 2), (13, 2), (14, 2), (15, 2)] rfl mixed (by kernel_rfl) (by kernel_rfl) (by kernel_rfl) (fun w1 hS1 => ?_)
  replace gm := gm.up hS1
  refine D ?_
  refine WD_eff rfl trivial (OE_call rfl (evs1 rfl) (words_any [b4, bm] [60, 32, 60, 61, 32, 61, 32, 33, 61, 32, 62, 32, 62, 61] _ (fun c hc => gm.hX c (by simp at hc; rcases hc with rfl | rfl <;> simp)) (by decide))) (fun _ _ h => h.2.mono (by simp)) rfl ?_
  rintro wv wq ⟨hr, hT⟩
  rw [show wordsOf [60, 32, 60, 61, 32, 61, 32, 33, 61, 32, 62, 32, 62, 61] = opsC by decide] at hr
  have hws := hr.slv (fun c hc => gm.hX c (by simp at hc; rcases hc with rfl | rfl <;> simp))
  replace gm := gm.up hT
  clear hr hT
  refine D ?_
  refine WD_eff rfl trivial (OE_call rfl (evs2 rfl rfl) (Next_any bm lv l _ 6 _ (by decide) (by omega) gm.mkr gm.sl hl)) (fun _ _ h => h.choose_spec.2.2.2.mono (by simp)) rfl ?_
  rintro _ wq ⟨q, rfl, hq, hm, hS⟩
  replace gm := gm.nxt hm hS
  replace hws := hws.ext hS (by simp) (fun _ h => .inl h)
  clear hm hS
  have hqn : q < opsC.length := by show q < 6; omega
  refine D ?_
  refine WD_eff rfl trivial (OE_call rfl (evs2 rfl rfl) ((ih.1) (b4 :: bm :: X) _ bm lv l _ _ (by omega) gm.mkr gm.sl hl (by omega) gm.hX)) (fun _ _ h => by obtain ⟨_, _, _, _, _, _, _, h⟩ := h; exact h.mono (by simp)) rfl ?_
  rintro _ wq ⟨y0, i0, ⟨k0, rfl, s0⟩, z0, ⟨ty0, ne0⟩, hm, hi0, hS⟩
  obtain ⟨p0, c0, rfl, -⟩ := id s0
  replace gm := gm.nxt hm hS
  replace hws := hws.ext hS (by simp) (fun _ h => .inl h)
  clear hm hS
  refine D ?_
  refine WD_eff rfl trivial (OE_call rfl (evs2 rfl rfl) ((ih.1) (b4 :: bm :: X) _ bm lv l _ _ (by omega) gm.mkr gm.sl hl (by omega) gm.hX)) (fun _ _ h => by obtain ⟨_, _, _, _, _, _, _, h⟩ := h; exact h.mono (by simp)) rfl ?_
  rintro _ wq ⟨y1, i1, ⟨k1, rfl, s1⟩, z1, ⟨ty1, ne1⟩, hm, hi1, hS⟩
  obtain ⟨p1, c1, rfl, -⟩ := id s1
  replace gm := gm.nxt hm hS
  replace hws := hws.ext hS (by simp) (fun _ h => .inl h)
  replace s0 := s0.ext hS (by simp) (fun _ h => .inl h)
  clear hm hS
  refine D ?_
  refine WD_eff rfl trivial (OE_buildSlice (vs := [(0, .agg #[.int .i64 y0.kind, .int .i64 y0.num, str y0.word, .slice p0 y0.kids.length c0]), (1, .agg #[.int .i64 y1.kind, .int .i64 y1.num, str y1.word, .slice p1 y1.kids.length c1])]) rfl (buildSN2 _ _ _ _ _ _ _ _ _ _ _ _)) (fun _ _ h => (NewSl.stp h).mono (by simp)) rfl ?_
  rintro bv wq hN
  have hbv : SlV (b4 :: bm :: X) wq bv [y0, y1] := hN.slvG (css := [ndC y0 _, ndC y1 _]) gm.hX rfl rfl rfl (reps2 s0 s1) (by simp [maxLen])
  have hT := NewSl.stp hN
  clear hN
  replace gm := gm.up hT
  replace hws := hws.up hT
  clear hT
  refine D ?_
  refine WD_eff rfl trivial (OE_call rfl (evs3 rfl rfl rfl) (node14_any (b4 :: bm :: X) 6 opsC[q] bv [y0, y1] _ gm.hX hbv)) (fun _ _ h => h.2.mono (by simp)) rfl ?_
  rintro _ wq ⟨⟨ky, rfl, hy⟩, hT⟩
  replace gm := gm.up hT
  clear hT hbv
  refine D ?_
  obtain ⟨cs, hcl, hcb⟩ := gm.blk
  refine WD_eff0 rfl trivial (OE_storeA (us := ndC (.mk 6 0 opsC[q] [y0, y1]) _) rfl rfl rfl rfl (ndC_one (x := (.mk 6 0 opsC[q] [y0, y1])) hy) hcb hcl.symm) (fun _ _ h => h.1.mono (by simp)) ?_
  rintro _ wz ⟨hz, hbz⟩
  refine D ?_
  refine W ?_
  refine WQ_retc rfl rfl rfl hbz rfl ?_
  have hf := gm.fin (y := (.mk 6 0 opsC[q] [y0, y1])) hS0 hb4 hy hz
  exact .mk ⟨_, _, hf.1, by rw [size2]; omega, ⟨ty2 ty0 ty1 (tCn _ hqn), by rw [nest2]; omega⟩, hf.2.1, by omega, hf.2.2⟩
end Go.Proofs.YtgpibcgebpgmiaaDoor

namespace Go.Proofs.YtgpibcgebpgmiaaDoor
open Go Go.Eng Go.RowKit
set_option linter.unusedVariables false

theorem date_step (d : Nat) (hd1 : 1 ≤ d) (hd2 : d ≤ 6) (ih : 2 ≤ d → GenP 31 (d - 1) ∧ GenP 30 (d - 1) ∧ GenP 29 (d - 1)) : GenP 29 d := by
  intro X w bm lv l i z hz hmk hsl hl hi hX
  subst hz
  have hsz := szD_eq hd1
  have hsp : 2 ≤ d → 1 ≤ szD (d - 1) := fun h => by have := szD_eq (d := d - 1) (by omega); omega
  refine calls_of_WC2 (n := 94) Tryd.func29 rfl rfl rfl ?_
  refine W ?_
  refine WL_eff OE_alloc rfl ?_
  rintro _ w1 ⟨b4, rfl, hb4, hblk4, hS0⟩
  have gm : G (b4 :: bm :: X) w1 w1 bm b4 lv l i := ⟨hmk.up hS0, hsl.up hS0, Stp.refl _ _, ⟨_, rfl, hblk4⟩, fun h => by have := hmk.lt; omega, fun c hc => by
    simp only [List.mem_cons] at hc
    have h1 := hblk4.lt
    have h2 := hmk.lt
    have h3 := hS0.size
    rcases hc with rfl | rfl | hc
    · exact h1
    · omega
    · have := hX c hc; omega⟩
  clear hblk4
  refine W ?_
  refine WL_eff (OE_call rfl (evs2 rfl rfl) (Next_any bm lv l _ 9 _ (by decide) (by omega) gm.mkr gm.sl hl)) rfl ?_
  rintro _ w2 ⟨q, rfl, hq, hm, hS⟩
  replace gm := gm.nxt hm hS
  clear hm hS
  refine W ?_
  refine WC_cutQ (σ := Nat) (fun k => [(0, .pointer (some ⟨bm, 0, none⟩)), (1, .int .i64 (d : Int)), (4, .pointer (some ⟨b4, 0, none⟩)), (5, .int .i64 (k : Int))]) (fun k w' => w' = w2 ∧ k < 9 ∧ (d = 1 → k < 3)) ?_ ?_
  · by_cases h1 : d = 1
    · repeat' (first | refine W1 ?_ | (exfalso; omega) | refine WL_split rfl rfl (fun hg => ?_) (fun hg => ?_) | refine WL_splitB rfl rfl (fun hg => ?_) (fun hg => ?_) | refine WC_cond rfl (fun hc => ?_) (fun hc => ?_) | refine WC_condB rfl (fun hc => ?_) (fun hc => ?_))
      exact WQ_cut (q % 3) ⟨rfl, rfl, rfl, rfl, trivial⟩ ⟨rfl, by omega, fun _ => by omega⟩
    · repeat' (first | refine W1 ?_ | (exfalso; omega) | refine WL_split rfl rfl (fun hg => ?_) (fun hg => ?_) | refine WL_splitB rfl rfl (fun hg => ?_) (fun hg => ?_) | refine WC_cond rfl (fun hc => ?_) (fun hc => ?_) | refine WC_condB rfl (fun hc => ?_) (fun hc => ?_))
      exact WQ_cut q ⟨rfl, rfl, rfl, rfl, trivial⟩ ⟨rfl, by omega, fun h => absurd h h1⟩
  rintro k w3 ⟨rfl, hkn, hk1⟩
  clear hq
  by_cases k0 : k ≤ 1
  · repeat' (first | refine W1 ?_ | (exfalso; omega) | refine WL_split rfl rfl (fun hg => ?_) (fun hg => ?_) | refine WL_splitB rfl rfl (fun hg => ?_) (fun hg => ?_) | refine WC_cond rfl (fun hc => ?_) (fun hc => ?_) | refine WC_condB rfl (fun hc => ?_) (fun hc => ?_))
    all_goals
      refine WL_eff (OE_call rfl evs0 (Fields_any [bm] _ (fun c hc => gm.hX c (by simp at hc; subst hc; simp)))) rfl ?_
      rintro fv wq ⟨hr, hT⟩
      have hws := hr.slv (fun c hc => gm.hX c (by simp at hc; subst hc; simp))
      replace gm := gm.up hT
      clear hr hT
      refine W ?_
      refine WL_eff (OE_call rfl (evs2 rfl rfl) (Next_any bm lv l _ 3 _ (by decide) (by omega) gm.mkr gm.sl hl)) rfl ?_
      rintro _ wq ⟨q', rfl, hq', hm, hS⟩
      replace gm := gm.nxt hm hS
      replace hws := hws.ext hS (by simp) (fun _ h => .inl h)
      clear hm hS
      have hqn : q' / 2 < fieldNames.length := by show q' / 2 < 7; omega
      refine W ?_
      apply WL_build (vs := [(0, .int .i64 4), (2, str _)]) rfl (buildN02 _ _) rfl
      have hy : SlV (α := Nd) (b4 :: bm :: X) wq (.slice none 0 0) [] := nilSlv _ _
      obtain ⟨cs, hcl, hcb⟩ := gm.blk
      refine WL_eff0 (OE_storeA (us := ndC (.mk 4 0 fieldNames[q' / 2] []) _) rfl rfl rfl rfl (ndC_one (x := (.mk 4 0 fieldNames[q' / 2] [])) hy) hcb hcl.symm) ?_
      rintro _ wz ⟨hz, hbz⟩
      refine W ?_
      refine WQ_retc rfl rfl rfl hbz rfl ?_
      have hf := gm.fin (y := (.mk 4 0 fieldNames[q' / 2] [])) hS0 hb4 hy hz
      exact .mk ⟨_, _, hf.1, by rw [size0]; omega, ⟨ty0 (lF3 _ (by omega) hqn), by rw [nest0]; omega⟩, hf.2.1, by omega, hf.2.2⟩
  by_cases k2 : k = 2
  · repeat' (first | refine W1 ?_ | (exfalso; omega) | refine WL_split rfl rfl (fun hg => ?_) (fun hg => ?_) | refine WL_splitB rfl rfl (fun hg => ?_) (fun hg => ?_) | refine WC_cond rfl (fun hc => ?_) (fun hc => ?_) | refine WC_condB rfl (fun hc => ?_) (fun hc => ?_))
    refine W ?_
    refine WL_eff (OE_call rfl (evs2 rfl rfl) (Next_any bm lv l _ 200 _ (by decide) (by omega) gm.mkr gm.sl hl)) rfl ?_
    rintro _ wq ⟨q', rfl, hq', hm, hS⟩
    replace gm := gm.nxt hm hS
    clear hm hS
    refine W ?_
    apply WL_build (vs := [(0, .int .i64 3), (1, .int .i64 _)]) rfl (buildN01 _ _) rfl
    have hy : SlV (α := Nd) (b4 :: bm :: X) wq (.slice none 0 0) [] := nilSlv _ _
    obtain ⟨cs, hcl, hcb⟩ := gm.blk
    refine WL_eff0 (OE_storeA (us := ndC (.mk 3 (739600 + (q' : Int)) [] []) _) rfl rfl rfl rfl (ndC_one (x := (.mk 3 (739600 + (q' : Int)) [] [])) hy) hcb hcl.symm) ?_
    rintro _ wz ⟨hz, hbz⟩
    refine W ?_
    refine WQ_retc rfl rfl rfl hbz rfl ?_
    have hf := gm.fin (y := (.mk 3 (739600 + (q' : Int)) [] [])) hS0 hb4 hy hz
    exact .mk ⟨_, _, hf.1, by rw [size0]; omega, ⟨ty0 (lD3 _ (by omega)), by rw [nest0]; omega⟩, hf.2.1, by omega, hf.2.2⟩
  by_cases k3 : k = 3
  · have h2 : 2 ≤ d := by omega
    replace ih := ih h2
    replace hsp := hsp h2
    repeat' (first | refine W1 ?_ | (exfalso; omega) | refine WL_split rfl rfl (fun hg => ?_) (fun hg => ?_) | refine WL_splitB rfl rfl (fun hg => ?_) (fun hg => ?_) | refine WC_cond rfl (fun hc => ?_) (fun hc => ?_) | refine WC_condB rfl (fun hc => ?_) (fun hc => ?_))
    refine WC_drawn 12 ([b4, bm]) [] [(1, 0), (5, 0), (6, 0), (7, 0), (0, 2), (2, 2), (3, 0), (4, 1), (8, 2), (9, 2), (10, 2), (11, 2)] rfl mixed (by kernel_rfl) (by kernel_rfl) (by kernel_rfl) (fun w1 hS1 => ?_)
    replace gm := gm.up hS1
    refine D ?_
    refine WD_eff rfl trivial (OE_call rfl (evs1 rfl) (words_any [b4, bm] [110, 101, 120, 116, 32, 112, 114, 101, 118] _ (fun c hc => gm.hX c (by simp at hc; rcases hc with rfl | rfl <;> simp)) (by decide))) (fun _ _ h => h.2.mono (by simp)) rfl ?_
    rintro wv wq ⟨hr, hT⟩
    rw [show wordsOf [110, 101, 120, 116, 32, 112, 114, 101, 118] = opsN by decide] at hr
    have hws := hr.slv (fun c hc => gm.hX c (by simp at hc; rcases hc with rfl | rfl <;> simp))
    replace gm := gm.up hT
    clear hr hT
    refine D ?_
    refine WD_eff rfl trivial (OE_call rfl (evs2 rfl rfl) (Next_any bm lv l _ 2 _ (by decide) (by omega) gm.mkr gm.sl hl)) (fun _ _ h => h.choose_spec.2.2.2.mono (by simp)) rfl ?_
    rintro _ wq ⟨q, rfl, hq, hm, hS⟩
    replace gm := gm.nxt hm hS
    replace hws := hws.ext hS (by simp) (fun _ h => .inl h)
    clear hm hS
    have hqn : q < opsN.length := by show q < 2; omega
    refine D ?_
    refine WD_eff rfl trivial (OE_call rfl (evs2 rfl rfl) ((ih.2.2) (b4 :: bm :: X) _ bm lv l _ _ (by omega) gm.mkr gm.sl hl (by omega) gm.hX)) (fun _ _ h => by obtain ⟨_, _, _, _, _, _, _, h⟩ := h; exact h.mono (by simp)) rfl ?_
    rintro _ wq ⟨y0, i0, ⟨k0, rfl, s0⟩, z0, ⟨ty0, ne0⟩, hm, hi0, hS⟩
    obtain ⟨p0, c0, rfl, -⟩ := id s0
    replace gm := gm.nxt hm hS
    replace hws := hws.ext hS (by simp) (fun _ h => .inl h)
    clear hm hS
    refine D ?_
    refine WD_eff rfl trivial (OE_buildSlice (vs := [(0, .agg #[.int .i64 y0.kind, .int .i64 y0.num, str y0.word, .slice p0 y0.kids.length c0])]) rfl (buildSN1 _ _ _ _ _ _)) (fun _ _ h => (NewSl.stp h).mono (by simp)) rfl ?_
    rintro bv wq hN
    have hbv : SlV (b4 :: bm :: X) wq bv [y0] := hN.slvG (css := [ndC y0 _]) gm.hX rfl rfl rfl (reps1 s0) (by simp [maxLen])
    have hT := NewSl.stp hN
    clear hN
    replace gm := gm.up hT
    replace hws := hws.up hT
    clear hT
    refine D ?_
    refine WD_eff rfl trivial (OE_call rfl (evs3 rfl rfl rfl) (node14_any (b4 :: bm :: X) 10 opsN[q] bv [y0] _ gm.hX hbv)) (fun _ _ h => h.2.mono (by simp)) rfl ?_
    rintro _ wq ⟨⟨ky, rfl, hy⟩, hT⟩
    replace gm := gm.up hT
    clear hT hbv
    refine D ?_
    obtain ⟨cs, hcl, hcb⟩ := gm.blk
    refine WD_eff0 rfl trivial (OE_storeA (us := ndC (.mk 10 0 opsN[q] [y0]) _) rfl rfl rfl rfl (ndC_one (x := (.mk 10 0 opsN[q] [y0])) hy) hcb hcl.symm) (fun _ _ h => h.1.mono (by simp)) ?_
    rintro _ wz ⟨hz, hbz⟩
    refine D ?_
    refine W ?_
    refine WQ_retc rfl rfl rfl hbz rfl ?_
    have hf := gm.fin (y := (.mk 10 0 opsN[q] [y0])) hS0 hb4 hy hz
    exact .mk ⟨_, _, hf.1, by rw [size1]; omega, ⟨ty1 ty0 (tN _ hqn), by rw [nest1]; omega⟩, hf.2.1, by omega, hf.2.2⟩
  by_cases k4 : k = 4
  · have h2 : 2 ≤ d := by omega
    replace ih := ih h2
    replace hsp := hsp h2
    repeat' (first | refine W1 ?_ | (exfalso; omega) | refine WL_split rfl rfl (fun hg => ?_) (fun hg => ?_) | refine WL_splitB rfl rfl (fun hg => ?_) (fun hg => ?_) | refine WC_cond rfl (fun hc => ?_) (fun hc => ?_) | refine WC_condB rfl (fun hc => ?_) (fun hc => ?_))
    refine WC_drawn 16 ([b4, bm]) [] [(1, 0), (5, 0), (6, 0), (7, 0), (9, 0), (10, 0), (11, 0), (0, 2), (2, 2), (3, 0), (4, 1), (8, 2), (12, 2), (13, 2), (14, 2), (15, 2)] rfl mixed (by kernel_rfl) (by kernel_rfl) (by kernel_rfl) (fun w1 hS1 => ?_)
    replace gm := gm.up hS1
    refine D ?_
    refine WD_eff rfl trivial (OE_call rfl (evs1 rfl) (words_any [b4, bm] [108, 97, 116, 101, 114, 32, 101, 97, 114, 108, 105, 101, 114] _ (fun c hc => gm.hX c (by simp at hc; rcases hc with rfl | rfl <;> simp)) (by decide))) (fun _ _ h => h.2.mono (by simp)) rfl ?_
    rintro wv wq ⟨hr, hT⟩
    rw [show wordsOf [108, 97, 116, 101, 114, 32, 101, 97, 114, 108, 105, 101, 114] = opsE by decide] at hr
    have hws := hr.slv (fun c hc => gm.hX c (by simp at hc; rcases hc with rfl | rfl <;> simp))
    replace gm := gm.up hT
    clear hr hT
    refine D ?_
    refine WD_eff rfl trivial (OE_call rfl (evs2 rfl rfl) (Next_any bm lv l _ 2 _ (by decide) (by omega) gm.mkr gm.sl hl)) (fun _ _ h => h.choose_spec.2.2.2.mono (by simp)) rfl ?_
    rintro _ wq ⟨q, rfl, hq, hm, hS⟩
    replace gm := gm.nxt hm hS
    replace hws := hws.ext hS (by simp) (fun _ h => .inl h)
    clear hm hS
    have hqn : q < opsE.length := by show q < 2; omega
    refine D ?_
    refine WD_eff rfl trivial (OE_call rfl (evs2 rfl rfl) ((ih.2.2) (b4 :: bm :: X) _ bm lv l _ _ (by omega) gm.mkr gm.sl hl (by omega) gm.hX)) (fun _ _ h => by obtain ⟨_, _, _, _, _, _, _, h⟩ := h; exact h.mono (by simp)) rfl ?_
    rintro _ wq ⟨y0, i0, ⟨k0, rfl, s0⟩, z0, ⟨ty0, ne0⟩, hm, hi0, hS⟩
    obtain ⟨p0, c0, rfl, -⟩ := id s0
    replace gm := gm.nxt hm hS
    replace hws := hws.ext hS (by simp) (fun _ h => .inl h)
    clear hm hS
    refine D ?_
    refine WD_eff rfl trivial (OE_call rfl (evs2 rfl rfl) ((ih.2.2) (b4 :: bm :: X) _ bm lv l _ _ (by omega) gm.mkr gm.sl hl (by omega) gm.hX)) (fun _ _ h => by obtain ⟨_, _, _, _, _, _, _, h⟩ := h; exact h.mono (by simp)) rfl ?_
    rintro _ wq ⟨y1, i1, ⟨k1, rfl, s1⟩, z1, ⟨ty1, ne1⟩, hm, hi1, hS⟩
    obtain ⟨p1, c1, rfl, -⟩ := id s1
    replace gm := gm.nxt hm hS
    replace hws := hws.ext hS (by simp) (fun _ h => .inl h)
    replace s0 := s0.ext hS (by simp) (fun _ h => .inl h)
    clear hm hS
    refine D ?_
    refine WD_eff rfl trivial (OE_buildSlice (vs := [(0, .agg #[.int .i64 y0.kind, .int .i64 y0.num, str y0.word, .slice p0 y0.kids.length c0]), (1, .agg #[.int .i64 y1.kind, .int .i64 y1.num, str y1.word, .slice p1 y1.kids.length c1])]) rfl (buildSN2 _ _ _ _ _ _ _ _ _ _ _ _)) (fun _ _ h => (NewSl.stp h).mono (by simp)) rfl ?_
    rintro bv wq hN
    have hbv : SlV (b4 :: bm :: X) wq bv [y0, y1] := hN.slvG (css := [ndC y0 _, ndC y1 _]) gm.hX rfl rfl rfl (reps2 s0 s1) (by simp [maxLen])
    have hT := NewSl.stp hN
    clear hN
    replace gm := gm.up hT
    replace hws := hws.up hT
    clear hT
    refine D ?_
    refine WD_eff rfl trivial (OE_call rfl (evs3 rfl rfl rfl) (node14_any (b4 :: bm :: X) 10 opsE[q] bv [y0, y1] _ gm.hX hbv)) (fun _ _ h => h.2.mono (by simp)) rfl ?_
    rintro _ wq ⟨⟨ky, rfl, hy⟩, hT⟩
    replace gm := gm.up hT
    clear hT hbv
    refine D ?_
    obtain ⟨cs, hcl, hcb⟩ := gm.blk
    refine WD_eff0 rfl trivial (OE_storeA (us := ndC (.mk 10 0 opsE[q] [y0, y1]) _) rfl rfl rfl rfl (ndC_one (x := (.mk 10 0 opsE[q] [y0, y1])) hy) hcb hcl.symm) (fun _ _ h => h.1.mono (by simp)) ?_
    rintro _ wz ⟨hz, hbz⟩
    refine D ?_
    refine W ?_
    refine WQ_retc rfl rfl rfl hbz rfl ?_
    have hf := gm.fin (y := (.mk 10 0 opsE[q] [y0, y1])) hS0 hb4 hy hz
    exact .mk ⟨_, _, hf.1, by rw [size2]; omega, ⟨ty2 ty0 ty1 (tE _ hqn), by rw [nest2]; omega⟩, hf.2.1, by omega, hf.2.2⟩
  by_cases k5 : k = 5
  · have h2 : 2 ≤ d := by omega
    replace ih := ih h2
    replace hsp := hsp h2
    repeat' (first | refine W1 ?_ | (exfalso; omega) | refine WL_split rfl rfl (fun hg => ?_) (fun hg => ?_) | refine WL_splitB rfl rfl (fun hg => ?_) (fun hg => ?_) | refine WC_cond rfl (fun hc => ?_) (fun hc => ?_) | refine WC_condB rfl (fun hc => ?_) (fun hc => ?_))
    refine W ?_
    refine WL_eff (OE_call rfl (evs2 rfl rfl) ((ih.2.1) (b4 :: bm :: X) _ bm lv l _ _ (by omega) gm.mkr gm.sl hl (by omega) gm.hX)) rfl ?_
    rintro _ wq ⟨y0, i0, ⟨k0, rfl, s0⟩, z0, ⟨ty0, ne0⟩, hm, hi0, hS⟩
    obtain ⟨p0, c0, rfl, -⟩ := id s0
    replace gm := gm.nxt hm hS
    clear hm hS
    refine W ?_
    refine WL_eff (OE_call rfl (evs2 rfl rfl) ((ih.2.2) (b4 :: bm :: X) _ bm lv l _ _ (by omega) gm.mkr gm.sl hl (by omega) gm.hX)) rfl ?_
    rintro _ wq ⟨y1, i1, ⟨k1, rfl, s1⟩, z1, ⟨ty1, ne1⟩, hm, hi1, hS⟩
    obtain ⟨p1, c1, rfl, -⟩ := id s1
    replace gm := gm.nxt hm hS
    replace s0 := s0.ext hS (by simp) (fun _ h => .inl h)
    clear hm hS
    refine W ?_
    refine WL_eff (OE_call rfl (evs2 rfl rfl) ((ih.2.2) (b4 :: bm :: X) _ bm lv l _ _ (by omega) gm.mkr gm.sl hl (by omega) gm.hX)) rfl ?_
    rintro _ wq ⟨y2, i2, ⟨k2, rfl, s2⟩, z2, ⟨ty2, ne2⟩, hm, hi2, hS⟩
    obtain ⟨p2, c2, rfl, -⟩ := id s2
    replace gm := gm.nxt hm hS
    replace s0 := s0.ext hS (by simp) (fun _ h => .inl h)
    replace s1 := s1.ext hS (by simp) (fun _ h => .inl h)
    clear hm hS
    refine W ?_
    refine WL_eff (OE_buildSlice (vs := [(0, .agg #[.int .i64 y0.kind, .int .i64 y0.num, str y0.word, .slice p0 y0.kids.length c0]), (1, .agg #[.int .i64 y1.kind, .int .i64 y1.num, str y1.word, .slice p1 y1.kids.length c1]), (2, .agg #[.int .i64 y2.kind, .int .i64 y2.num, str y2.word, .slice p2 y2.kids.length c2])]) rfl (buildSN3 _ _ _ _ _ _ _ _ _ _ _ _ _ _ _ _ _ _)) rfl ?_
    rintro bv wq hN
    have hbv : SlV (b4 :: bm :: X) wq bv [y0, y1, y2] := hN.slvG (css := [ndC y0 _, ndC y1 _, ndC y2 _]) gm.hX rfl rfl rfl (reps3 s0 s1 s2) (by simp [maxLen])
    have hT := NewSl.stp hN
    clear hN
    replace gm := gm.up hT
    clear hT
    refine W ?_
    refine WL_eff (OE_call rfl (evs3 rfl rfl rfl) (node14_any (b4 :: bm :: X) 9 [] bv [y0, y1, y2] _ gm.hX hbv)) rfl ?_
    rintro _ wq ⟨⟨ky, rfl, hy⟩, hT⟩
    replace gm := gm.up hT
    clear hT hbv
    refine W ?_
    obtain ⟨cs, hcl, hcb⟩ := gm.blk
    refine WL_eff0 (OE_storeA (us := ndC (.mk 9 0 [] [y0, y1, y2]) _) rfl rfl rfl rfl (ndC_one (x := (.mk 9 0 [] [y0, y1, y2])) hy) hcb hcl.symm) ?_
    rintro _ wz ⟨hz, hbz⟩
    refine W ?_
    refine WQ_retc rfl rfl rfl hbz rfl ?_
    have hf := gm.fin (y := (.mk 9 0 [] [y0, y1, y2])) hS0 hb4 hy hz
    exact .mk ⟨_, _, hf.1, by rw [size3]; omega, ⟨ty3 ty0 ty1 ty2 (rfl), by rw [nest3]; omega⟩, hf.2.1, by omega, hf.2.2⟩
  by_cases k6 : k = 6
  · have h2 : 2 ≤ d := by omega
    replace ih := ih h2
    replace hsp := hsp h2
    repeat' (first | refine W1 ?_ | (exfalso; omega) | refine WL_split rfl rfl (fun hg => ?_) (fun hg => ?_) | refine WL_splitB rfl rfl (fun hg => ?_) (fun hg => ?_) | refine WC_cond rfl (fun hc => ?_) (fun hc => ?_) | refine WC_condB rfl (fun hc => ?_) (fun hc => ?_))
    refine WC_drawn 17 ([b4, bm]) [] [(0, 0), (2, 0), (6, 0), (7, 0), (8, 0), (10, 0), (11, 0), (12, 0), (1, 2), (3, 2), (4, 0), (5, 1), (9, 2), (13, 2), (14, 2), (15, 2), (16, 2)] rfl mixed (by kernel_rfl) (by kernel_rfl) (by kernel_rfl) (fun w1 hS1 => ?_)
    replace gm := gm.up hS1
    refine D ?_
    refine WD_eff rfl trivial (OE_call rfl (evs1 rfl) (words_any [b4, bm] [100, 97, 121, 115, 32, 119, 101, 101, 107, 115, 32, 109, 111, 110, 116, 104, 115, 32, 99, 111, 117, 114, 116, 100, 97, 121, 115] _ (fun c hc => gm.hX c (by simp at hc; rcases hc with rfl | rfl <;> simp)) (by decide))) (fun _ _ h => h.2.mono (by simp)) rfl ?_
    rintro wv wq ⟨hr, hT⟩
    rw [show wordsOf [100, 97, 121, 115, 32, 119, 101, 101, 107, 115, 32, 109, 111, 110, 116, 104, 115, 32, 99, 111, 117, 114, 116, 100, 97, 121, 115] = units by decide] at hr
    have hws := hr.slv (fun c hc => gm.hX c (by simp at hc; rcases hc with rfl | rfl <;> simp))
    replace gm := gm.up hT
    clear hr hT
    refine D ?_
    refine WD_eff rfl trivial (OE_call rfl (evs2 rfl rfl) (Next_any bm lv l _ 4 _ (by decide) (by omega) gm.mkr gm.sl hl)) (fun _ _ h => h.choose_spec.2.2.2.mono (by simp)) rfl ?_
    rintro _ wq ⟨q, rfl, hq, hm, hS⟩
    replace gm := gm.nxt hm hS
    replace hws := hws.ext hS (by simp) (fun _ h => .inl h)
    clear hm hS
    have hqn : q < units.length := by show q < 4; omega
    refine D ?_
    refine WD_eff rfl trivial (OE_call rfl (evs2 rfl rfl) ((ih.2.2) (b4 :: bm :: X) _ bm lv l _ _ (by omega) gm.mkr gm.sl hl (by omega) gm.hX)) (fun _ _ h => by obtain ⟨_, _, _, _, _, _, _, h⟩ := h; exact h.mono (by simp)) rfl ?_
    rintro _ wq ⟨y0, i0, ⟨k0, rfl, s0⟩, z0, ⟨ty0, ne0⟩, hm, hi0, hS⟩
    obtain ⟨p0, c0, rfl, -⟩ := id s0
    replace gm := gm.nxt hm hS
    replace hws := hws.ext hS (by simp) (fun _ h => .inl h)
    clear hm hS
    refine D ?_
    refine WD_eff rfl trivial (OE_call rfl (evs2 rfl rfl) ((ih.1) (b4 :: bm :: X) _ bm lv l _ _ (by omega) gm.mkr gm.sl hl (by omega) gm.hX)) (fun _ _ h => by obtain ⟨_, _, _, _, _, _, _, h⟩ := h; exact h.mono (by simp)) rfl ?_
    rintro _ wq ⟨y1, i1, ⟨k1, rfl, s1⟩, z1, ⟨ty1, ne1⟩, hm, hi1, hS⟩
    obtain ⟨p1, c1, rfl, -⟩ := id s1
    replace gm := gm.nxt hm hS
    replace hws := hws.ext hS (by simp) (fun _ h => .inl h)
    replace s0 := s0.ext hS (by simp) (fun _ h => .inl h)
    clear hm hS
    refine D ?_
    refine WD_eff rfl trivial (OE_buildSlice (vs := [(0, .agg #[.int .i64 y0.kind, .int .i64 y0.num, str y0.word, .slice p0 y0.kids.length c0]), (1, .agg #[.int .i64 y1.kind, .int .i64 y1.num, str y1.word, .slice p1 y1.kids.length c1])]) rfl (buildSN2 _ _ _ _ _ _ _ _ _ _ _ _)) (fun _ _ h => (NewSl.stp h).mono (by simp)) rfl ?_
    rintro bv wq hN
    have hbv : SlV (b4 :: bm :: X) wq bv [y0, y1] := hN.slvG (css := [ndC y0 _, ndC y1 _]) gm.hX rfl rfl rfl (reps2 s0 s1) (by simp [maxLen])
    have hT := NewSl.stp hN
    clear hN
    replace gm := gm.up hT
    replace hws := hws.up hT
    clear hT
    refine D ?_
    refine WD_eff rfl trivial (OE_call rfl (evs3 rfl rfl rfl) (node14_any (b4 :: bm :: X) 8 units[q] bv [y0, y1] _ gm.hX hbv)) (fun _ _ h => h.2.mono (by simp)) rfl ?_
    rintro _ wq ⟨⟨ky, rfl, hy⟩, hT⟩
    replace gm := gm.up hT
    clear hT hbv
    refine D ?_
    obtain ⟨cs, hcl, hcb⟩ := gm.blk
    refine WD_eff0 rfl trivial (OE_storeA (us := ndC (.mk 8 0 units[q] [y0, y1]) _) rfl rfl rfl rfl (ndC_one (x := (.mk 8 0 units[q] [y0, y1])) hy) hcb hcl.symm) (fun _ _ h => h.1.mono (by simp)) ?_
    rintro _ wz ⟨hz, hbz⟩
    refine D ?_
    refine W ?_
    refine WQ_retc rfl rfl rfl hbz rfl ?_
    have hf := gm.fin (y := (.mk 8 0 units[q] [y0, y1])) hS0 hb4 hy hz
    exact .mk ⟨_, _, hf.1, by rw [size2]; omega, ⟨ty2 ty0 ty1 (tU8 _ hqn), by rw [nest2]; omega⟩, hf.2.1, by omega, hf.2.2⟩
  have h2 : 2 ≤ d := by omega
  replace ih := ih h2
  replace hsp := hsp h2
  repeat' (first | refine W1 ?_ | (exfalso; omega) | refine WL_split rfl rfl (fun hg => ?_) (fun hg => ?_) | refine WL_splitB rfl rfl (fun hg => ?_) (fun hg => ?_) | refine WC_cond rfl (fun hc => ?_) (fun hc => ?_) | refine WC_condB rfl (fun hc => ?_) (fun hc => ?_))
  refine WC_drawn 17 ([b4, bm]) [] [(0, 0), (2, 0), (6, 0), (7, 0), (8, 0), (10, 0), (11, 0), (12, 0), (1, 2), (3, 2), (4, 0), (5, 1), (9, 2), (13, 2), (14, 2), (15, 2), (16, 2)] rfl mixed (by kernel_rfl) (by kernel_rfl) (by kernel_rfl) (fun w1 hS1 => ?_)
  replace gm := gm.up hS1
  refine D ?_
  refine WD_eff rfl trivial (OE_call rfl (evs1 rfl) (words_any [b4, bm] [100, 97, 121, 115, 32, 119, 101, 101, 107, 115, 32, 109, 111, 110, 116, 104, 115, 32, 99, 111, 117, 114, 116, 100, 97, 121, 115] _ (fun c hc => gm.hX c (by simp at hc; rcases hc with rfl | rfl <;> simp)) (by decide))) (fun _ _ h => h.2.mono (by simp)) rfl ?_
  rintro wv wq ⟨hr, hT⟩
  rw [show wordsOf [100, 97, 121, 115, 32, 119, 101, 101, 107, 115, 32, 109, 111, 110, 116, 104, 115, 32, 99, 111, 117, 114, 116, 100, 97, 121, 115] = units by decide] at hr
  have hws := hr.slv (fun c hc => gm.hX c (by simp at hc; rcases hc with rfl | rfl <;> simp))
  replace gm := gm.up hT
  clear hr hT
  refine D ?_
  refine WD_eff rfl trivial (OE_call rfl (evs2 rfl rfl) (Next_any bm lv l _ 4 _ (by decide) (by omega) gm.mkr gm.sl hl)) (fun _ _ h => h.choose_spec.2.2.2.mono (by simp)) rfl ?_
  rintro _ wq ⟨q, rfl, hq, hm, hS⟩
  replace gm := gm.nxt hm hS
  replace hws := hws.ext hS (by simp) (fun _ h => .inl h)
  clear hm hS
  have hqn : q < units.length := by show q < 4; omega
  refine D ?_
  refine WD_eff rfl trivial (OE_call rfl (evs2 rfl rfl) ((ih.2.2) (b4 :: bm :: X) _ bm lv l _ _ (by omega) gm.mkr gm.sl hl (by omega) gm.hX)) (fun _ _ h => by obtain ⟨_, _, _, _, _, _, _, h⟩ := h; exact h.mono (by simp)) rfl ?_
  rintro _ wq ⟨y0, i0, ⟨k0, rfl, s0⟩, z0, ⟨ty0, ne0⟩, hm, hi0, hS⟩
  obtain ⟨p0, c0, rfl, -⟩ := id s0
  replace gm := gm.nxt hm hS
  replace hws := hws.ext hS (by simp) (fun _ h => .inl h)
  clear hm hS
  refine D ?_
  refine WD_eff rfl trivial (OE_call rfl (evs2 rfl rfl) ((ih.1) (b4 :: bm :: X) _ bm lv l _ _ (by omega) gm.mkr gm.sl hl (by omega) gm.hX)) (fun _ _ h => by obtain ⟨_, _, _, _, _, _, _, h⟩ := h; exact h.mono (by simp)) rfl ?_
  rintro _ wq ⟨y1, i1, ⟨k1, rfl, s1⟩, z1, ⟨ty1, ne1⟩, hm, hi1, hS⟩
  obtain ⟨p1, c1, rfl, -⟩ := id s1
  replace gm := gm.nxt hm hS
  replace hws := hws.ext hS (by simp) (fun _ h => .inl h)
  replace s0 := s0.ext hS (by simp) (fun _ h => .inl h)
  clear hm hS
  refine D ?_
  refine WD_eff rfl trivial (OE_buildSlice (vs := [(0, .agg #[.int .i64 y0.kind, .int .i64 y0.num, str y0.word, .slice p0 y0.kids.length c0]), (1, .agg #[.int .i64 y1.kind, .int .i64 y1.num, str y1.word, .slice p1 y1.kids.length c1])]) rfl (buildSN2 _ _ _ _ _ _ _ _ _ _ _ _)) (fun _ _ h => (NewSl.stp h).mono (by simp)) rfl ?_
  rintro bv wq hN
  have hbv : SlV (b4 :: bm :: X) wq bv [y0, y1] := hN.slvG (css := [ndC y0 _, ndC y1 _]) gm.hX rfl rfl rfl (reps2 s0 s1) (by simp [maxLen])
  have hT := NewSl.stp hN
  clear hN
  replace gm := gm.up hT
  replace hws := hws.up hT
  clear hT
  refine D ?_
  refine WD_eff rfl trivial (OE_call rfl (evs3 rfl rfl rfl) (node14_any (b4 :: bm :: X) 7 units[q] bv [y0, y1] _ gm.hX hbv)) (fun _ _ h => h.2.mono (by simp)) rfl ?_
  rintro _ wq ⟨⟨ky, rfl, hy⟩, hT⟩
  replace gm := gm.up hT
  clear hT hbv
  refine D ?_
  obtain ⟨cs, hcl, hcb⟩ := gm.blk
  refine WD_eff0 rfl trivial (OE_storeA (us := ndC (.mk 7 0 units[q] [y0, y1]) _) rfl rfl rfl rfl (ndC_one (x := (.mk 7 0 units[q] [y0, y1])) hy) hcb hcl.symm) (fun _ _ h => h.1.mono (by simp)) ?_
  rintro _ wz ⟨hz, hbz⟩
  refine D ?_
  refine W ?_
  refine WQ_retc rfl rfl rfl hbz rfl ?_
  have hf := gm.fin (y := (.mk 7 0 units[q] [y0, y1])) hS0 hb4 hy hz
  exact .mk ⟨_, _, hf.1, by rw [size2]; omega, ⟨ty2 ty0 ty1 (tU7 _ hqn), by rw [nest2]; omega⟩, hf.2.1, by omega, hf.2.2⟩
end Go.Proofs.YtgpibcgebpgmiaaDoor

namespace Go.Proofs.YtgpibcgebpgmiaaDoor
open Go Go.Eng Go.RowKit
set_option linter.unusedVariables false

theorem gens : ∀ d, 1 ≤ d → d ≤ 6 → GenP 31 d ∧ GenP 30 d ∧ GenP 29 d := by
  intro d
  induction d with
  | zero => intro h; omega
  | succ d ih =>
    intro h1 h2
    have ih' : 2 ≤ d + 1 → GenP 31 (d + 1 - 1) ∧ GenP 30 (d + 1 - 1) ∧ GenP 29 (d + 1 - 1) := fun h => ih (by omega) (by omega)
    exact ⟨number_step _ h1 h2 ih', boolean_step _ h1 h2 ih', date_step _ h1 h2 ih'⟩
theorem buildMk (p : Option Addr) (l c : Nat) (w : World) : (Instr.build 62 #[(0, .slice p l c)]).run Tryd.prog w = .ok (.agg #[.slice p l c, .int .i64 0]) w := by kernel_rfl
/-- the type of an expression of a kind -/
def kindT (kind : Int) : Int := if (if kind < 0 then -(kind + 1) else kind) % 3 = 0 then 3 else if (if kind < 0 then -(kind + 1) else kind) % 3 = 1 then 2 else 1
theorem Expr_any (X : List Nat) (lv : Value) (l : List Int) (kind z : Int) (d : Nat) (w : World) (hd1 : 1 ≤ d) (hd2 : d ≤ 6) (hz : z = (d : Int)) (hk : I64 kind) (hs : SlV [] w lv l) (hl : ∀ a ∈ l, I64 a) (hX : ∀ b ∈ X, b < w.heap.size) :
    Calls Tryd.prog 7 #[lv, .int .i64 kind, .int .i64 z] w (Ret fun r w' => ∃ y, NdV X w' r y ∧ sizeN y ≤ 400 ∧ (typeT y = kindT kind ∧ nestN y ≤ d) ∧ Stp [] w w') := by
  subst hz
  obtain ⟨p, c, rfl, -⟩ := id hs
  obtain ⟨gn, gb, gd⟩ := gens d hd1 hd2
  have hsz : szD d ≤ 364 := Nat.le_trans (szD_mono hd2) (by decide)
  refine calls_of_WC3 (n := 26) Tryd.func7 rfl rfl rfl ?_
  refine W ?_
  refine WL_eff OE_alloc rfl ?_
  rintro _ w1 ⟨b6, rfl, hb6, hblk6, hS1⟩
  refine W ?_
  apply WL_build (vs := [(0, .slice p l.length c)]) rfl (buildMk _ _ _) rfl
  refine WL_eff (OE_box rfl) rfl ?_
  rintro _ w2 ⟨bm, rfl, hbm, hmk, hS2⟩
  replace hmk : Mk w2 bm (.slice p l.length c) 0 := hmk
  have hsl : SlV [bm] w2 (.slice p l.length c) l := (hs.up hS1).ext hS2 (by simp) (fun b hb => .inr (by simp at hb; omega))
  have hl1 := hblk6.lt
  have hl2 := hmk.lt
  replace hblk6 := hblk6.up hS2
  have hX2 : ∀ b ∈ b6 :: X, b < w2.heap.size := fun b hb => by
    have := hS1.size
    have := hS2.size
    rcases List.mem_cons.1 hb with rfl | h
    · omega
    · have := hX b h; omega
  have hw1 := hS1.size
  have hT := hS1.trans hS2
  clear hS1 hS2
  refine W ?_
  refine WL_eff (OE_call rfl (evs2 rfl rfl) (Around01_any kind 3 _ (by decide) hk)) rfl ?_
  rintro _ w3 ⟨rfl, hS3⟩
  have hr := around_range (if kind < 0 then -(kind + 1) else kind) 3 (by decide)
  have hkt : kindT kind = if (if kind < 0 then -(kind + 1) else kind) % 3 = 0 then 3 else if (if kind < 0 then -(kind + 1) else kind) % 3 = 1 then 2 else 1 := rfl
  generalize (if kind < 0 then -(kind + 1) else kind) % 3 = k at *
  replace hmk := hmk.up hS3
  replace hsl := hsl.up hS3
  replace hblk6 := hblk6.up hS3
  replace hT := hT.trans hS3
  replace hX2 := fun b hb => Nat.lt_of_lt_of_le (hX2 b hb) hS3.size
  clear hS3
  have fin : ∀ (w4 w5 : World) (y : Nd) (ky : Value), SlV (b6 :: X) w4 ky y.kids → sizeN y ≤ szD d → (typeT y = kindT kind ∧ nestN y ≤ d) → Stp [bm] w3 w4 → Stp [b6] w4 w5 → NdV X w5 (.agg (ndC y ky).toArray) y ∧ sizeN y ≤ 400 ∧ (typeT y = kindT kind ∧ nestN y ≤ d) ∧ Stp [] w w5 := by
    intro w4 w5 y ky hy hsy hty h1 h2
    refine ⟨⟨ky, rfl, (hy.ext (X' := b6 :: X) h2 (by simp) (fun _ h => .inl h)).wk (fun c hc => by simp [hc])⟩, by omega, hty, (hT.own h1 (fun c hc => .inr (by simp at hc; omega))).own h2 (fun c hc => .inr (by simp at hc; omega))⟩
  repeat' (first | refine W1 ?_ | (exfalso; omega) | refine WL_split rfl rfl (fun hg => ?_) (fun hg => ?_) | refine WL_splitB rfl rfl (fun hg => ?_) (fun hg => ?_) | refine WC_cond rfl (fun hc => ?_) (fun hc => ?_) | refine WC_condB rfl (fun hc => ?_) (fun hc => ?_))
  · refine WL_eff (OE_call rfl (evs2 rfl rfl) (gd (b6 :: X) _ bm _ l _ _ rfl hmk hsl hl (by omega) hX2)) rfl ?_
    rintro _ w4 ⟨y, i', ⟨ky, rfl, hy⟩, hsy, ⟨hty, hne⟩, hmk', hi', hS4⟩
    have hb4 := hblk6.ext hS4 (by simp; omega)
    refine WL_eff0 (OE_storeA (us := ndC y ky) rfl rfl rfl rfl (ndC_one hy) hb4 rfl) ?_
    rintro _ w5 ⟨hS5, hb5⟩
    refine W ?_
    refine WQ_retc rfl rfl rfl hb5 rfl ?_
    exact .mk ⟨y, fin _ _ y ky hy hsy ⟨by rw [hkt, if_pos (by assumption)]; exact hty, hne⟩ hS4 hS5⟩
  · refine WL_eff (OE_call rfl (evs2 rfl rfl) (gb (b6 :: X) _ bm _ l _ _ rfl hmk hsl hl (by omega) hX2)) rfl ?_
    rintro _ w4 ⟨y, i', ⟨ky, rfl, hy⟩, hsy, ⟨hty, hne⟩, hmk', hi', hS4⟩
    have hb4 := hblk6.ext hS4 (by simp; omega)
    refine WL_eff0 (OE_storeA (us := ndC y ky) rfl rfl rfl rfl (ndC_one hy) hb4 rfl) ?_
    rintro _ w5 ⟨hS5, hb5⟩
    refine W ?_
    refine WQ_retc rfl rfl rfl hb5 rfl ?_
    exact .mk ⟨y, fin _ _ y ky hy hsy ⟨by rw [hkt, if_neg (by assumption), if_pos (by assumption)]; exact hty, hne⟩ hS4 hS5⟩
  · refine WL_eff (OE_call rfl (evs2 rfl rfl) (gn (b6 :: X) _ bm _ l _ _ rfl hmk hsl hl (by omega) hX2)) rfl ?_
    rintro _ w4 ⟨y, i', ⟨ky, rfl, hy⟩, hsy, ⟨hty, hne⟩, hmk', hi', hS4⟩
    have hb4 := hblk6.ext hS4 (by simp; omega)
    refine WL_eff0 (OE_storeA (us := ndC y ky) rfl rfl rfl rfl (ndC_one hy) hb4 rfl) ?_
    rintro _ w5 ⟨hS5, hb5⟩
    refine W ?_
    refine WQ_retc rfl rfl rfl hb5 rfl ?_
    exact .mk ⟨y, fin _ _ y ky hy hsy ⟨by rw [hkt, if_neg (by assumption), if_neg (by assumption)]; exact hty, hne⟩ hS4 hS5⟩
end Go.Proofs.YtgpibcgebpgmiaaDoor

namespace Go.Proofs.YtgpibcgebpgmiaaDoor
open Go Go.Eng Go.RowKit
set_option linter.unusedVariables false

theorem EqualI_any (va vb : Value) (xs ys : List Int) (w : World) (ha : SlV [] w va xs) (hb : SlV [] w vb ys) :
    Calls Tryd.prog 97 #[va, vb] w (Ret fun r w' => r = .bool (decide (xs = ys)) ∧ Stp [] w w') := by
  have hma := ha.max
  have hmb := hb.max
  refine calls_of_WC2 (n := 26) Tryd.func97 rfl rfl rfl ?_
  refine W ?_
  by_cases hl : xs.length = ys.length
  case neg =>
    repeat' (first | refine W1 ?_ | (exfalso; omega) | refine WL_split rfl rfl (fun hg => ?_) (fun hg => ?_) | refine WL_splitB rfl rfl (fun hg => ?_) (fun hg => ?_) | refine WC_cond rfl (fun hc => ?_) (fun hc => ?_) | refine WC_condB rfl (fun hc => ?_) (fun hc => ?_))
    first | refine WQ_ret1 rfl rfl ?_ | refine WQ_ret2 rfl rfl rfl ?_ | refine WQ_ret3 rfl rfl rfl rfl ?_ | refine WQ_ret0 rfl ?_ | refine WQ_end0 rfl ?_
    exact .mk ⟨by congr 1; rw [eq_comm, decide_eq_false_iff_not]; exact fun h => hl (by rw [h]), Stp.refl _ _⟩
  repeat' (first | refine W1 ?_ | (exfalso; omega) | refine WL_split rfl rfl (fun hg => ?_) (fun hg => ?_) | refine WL_splitB rfl rfl (fun hg => ?_) (fun hg => ?_) | refine WC_cond rfl (fun hc => ?_) (fun hc => ?_) | refine WC_condB rfl (fun hc => ?_) (fun hc => ?_))
  refine WC_loop (σ := Nat) (fun j => [(0, va), (1, vb), (4, .bool false), (12, .int .i64 (xs.length : Int)), (13, .int .i64 (j : Int))]) (fun j w' => j ≤ xs.length ∧ Stp [] w w' ∧ ∀ i (h : i < xs.length), i < j → xs[i] = ys[i]'(by omega)) (fun j => xs.length - j) 0 ⟨rfl, rfl, rfl, rfl, rfl, trivial⟩ ⟨Nat.zero_le _, Stp.refl _ _, fun i _ h => absurd h (Nat.not_lt_zero _)⟩ ?_
  rintro j w2 ⟨hj, hS, heq⟩
  try dsimp only at hj heq ⊢
  replace ha := ha.up hS
  replace hb := hb.up hS
  by_cases hlt : j < xs.length
  · have hlt' : j < ys.length := by omega
    repeat' (first | refine W1 ?_ | (exfalso; omega) | refine WL_split rfl rfl (fun hg => ?_) (fun hg => ?_) | refine WL_splitB rfl rfl (fun hg => ?_) (fun hg => ?_) | refine WC_cond rfl (fun hc => ?_) (fun hc => ?_) | refine WC_condB rfl (fun hc => ?_) (fun hc => ?_))
    refine WC_drawn 9 [] [] [(0, 0), (1, 0), (2, 0), (3, 1), (4, 0), (5, 0), (6, 0), (7, 1), (8, 0)] rfl mixed (by kernel_rfl) (by kernel_rfl) (by kernel_rfl) (fun w1 hS1 => ?_)
    replace ha := ha.up hS1
    replace hb := hb.up hS1
    replace hS := hS.trans hS1
    refine D ?_
    repeat' (first | refine W1 ?_ | (exfalso; omega) | refine WL_split rfl rfl (fun hg => ?_) (fun hg => ?_) | refine WL_splitB rfl rfl (fun hg => ?_) (fun hg => ?_) | refine WC_cond rfl (fun hc => ?_) (fun hc => ?_) | refine WC_condB rfl (fun hc => ?_) (fun hc => ?_))
    · first | refine WQ_ret1 rfl rfl ?_ | refine WQ_ret2 rfl rfl rfl ?_ | refine WQ_ret3 rfl rfl rfl rfl ?_ | refine WQ_ret0 rfl ?_ | refine WQ_end0 rfl ?_
      exact .mk ⟨by congr 1; rw [eq_comm, decide_eq_false_iff_not]; exact fun h => hc (by simp [h]), hS⟩
    · have he : xs[j] = ys[j] := Decidable.byContradiction hc
      have hk : ∀ i (h : i < xs.length), i < j + 1 → xs[i] = ys[i]'(by omega) := fun i h hi => by
        by_cases hij : i = j
        · subst hij; exact he
        · exact heq i h (by omega)
      exact WQ_loop (j + 1) ⟨rfl, rfl, rfl, rfl, rfl, trivial⟩ ⟨hlt, hS, hk⟩ (Nat.sub_lt_sub_left hlt (Nat.lt_succ_self j))
  · have hje : j = xs.length := by omega
    subst hje
    repeat' (first | refine W1 ?_ | (exfalso; omega) | refine WL_split rfl rfl (fun hg => ?_) (fun hg => ?_) | refine WL_splitB rfl rfl (fun hg => ?_) (fun hg => ?_) | refine WC_cond rfl (fun hc => ?_) (fun hc => ?_) | refine WC_condB rfl (fun hc => ?_) (fun hc => ?_))
    first | refine WQ_ret1 rfl rfl ?_ | refine WQ_ret2 rfl rfl rfl ?_ | refine WQ_ret3 rfl rfl rfl rfl ?_ | refine WQ_ret0 rfl ?_ | refine WQ_end0 rfl ?_
    exact .mk ⟨by congr 1; rw [eq_comm, decide_eq_true_eq]; exact List.ext_getElem hl (fun i h h' => heq i h h), hS⟩
end Go.Proofs.YtgpibcgebpgmiaaDoor
/-
cap, append of a make, a raw slice cut to nothing.
-/
namespace Go.Eng
open Go Go.RowKit Go.Proofs
set_option linter.unusedVariables false
variable {P : Program} {n : Nat} {e : Env} {w : World} {d : Option Nat} {ty : TypeId} {pos : String} {af : Array Edge} {g : Option (Nat × Bool)}
theorem PR_cap {x : Operand} {t : TypeId} {el : TypeId} [hu : Und P t (.slice el)] {p : Option Addr} {l c : Nat} (hx : ev e x = some (.slice p l c)) :
    PR P n ⟨d, .call { callee := .builtin .cap, args := #[x], argTypes := #[t] }, ty, pos, af, g⟩ e w (.int .i64 (c : Int)) :=
  ⟨fun a ha => by
    have := run_cap_slice (P := P) w t ty p l c (by rw [hu.h, Program.elem, hu.h])
    simp [execOp, resolve, invoke, builtin, ha.ev hx, this, goInt]⟩
theorem PR_slice0n {t el k : Nat} {x hi : Operand} {l c : Nat} [hu : Und P t (.slice el)] [hk : Siz P el k] (hx : ev e x = some (.slice none l c)) (hb : ev e hi = some (.int .i64 0)) :
    PR P n ⟨d, .slice t x none (some hi) none, ty, pos, af, g⟩ e w (.slice none 0 c) := by
  refine ⟨fun act ha' => ?_⟩
  simp [execOp, ha'.ev hx, ha'.ev hb, Instr.sliceAt, run_underlying hu.h, Instr.slice, Instr.sliceBounds, Instr.sliceBound, asIntOf, Siz.run]
theorem PR_slice0 {t el k : Nat} {x hi : Operand} {b o : Nat} {l c : Nat} [hu : Und P t (.slice el)] [hk : Siz P el k] (hx : ev e x = some (.slice (some ⟨b, o, none⟩) l c)) (hb : ev e hi = some (.int .i64 0)) :
    PR P n ⟨d, .slice t x none (some hi) none, ty, pos, af, g⟩ e w (.slice (some ⟨b, o, none⟩) 0 c) := by
  refine ⟨fun act ha' => ?_⟩
  simp [execOp, ha'.ev hx, ha'.ev hb, Instr.sliceAt, run_underlying hu.h, Instr.slice, Instr.sliceBounds, Instr.sliceBound, asIntOf, Siz.run, Addr.add_lit]
/-- a new row of zeros behind nil -/
theorem OE_appZ {t tn T bytes k : Nat} {kn : IntKind} {x y : Operand} {z : Value} [ht : Und P t (.slice T)] [hn : Und P tn (.int kn)] [hk : Siz P T 1] [hb : Byt P T bytes] [hz : Zer P T z] (hz1 : z.cells.size = 1)
    (hx : ev e x = some (.slice none 0 0)) (hy : ev e y = some (.int .i64 (k : Int))) (h0 : 0 < k) (hkm : k ≤ maxLen) (hbytes : k * bytes ≤ 140737488355328) :
    OE P n ⟨d, .call { callee := .builtin .append, args := #[x, y], argTypes := #[t, tn] }, ty, pos, af, g⟩ e w
      (fun v w' => ∃ c, v = .slice (some ⟨w.heap.size, 0, none⟩) k c ∧ w'.ownsRow w.heap.size T 1 (.slice (some ⟨w.heap.size, 0, none⟩) 0 c) 0 [] ∧ Stp [] w w') := by
  obtain ⟨i, hi, hi1, hi2, hi3⟩ : ∃ i, P.info? T = some i ∧ i.size = 1 ∧ i.bytes = bytes ∧ i.zero = some z := by
    have a1 := hk.h
    have a2 := hb.h
    have a3 := hz.h
    cases hi : P.info? T with
    | none => simp [hi] at a1
    | some i => exact ⟨i, rfl, by simpa [hi] using a1, by simpa [hi] using a2, by simpa [hi] using a3⟩
  have hrun := Go.Lib.run_append_nil_zeros (P := P) w t tn ty T i z .i64 kn ht.h hn.h hi hi3 k h0 (by omega) (by simp [maxLen] at hkm; omega) (by rw [hi2]; omega)
  have hge := grownCap_ge w k 0 T
  have hsz : (Builtin.zeroCells z.cells k ++ Builtin.zeroCells z.cells (grownCap w k 0 T - k)).size = grownCap w k 0 T * 1 := by
    rw [Array.size_append, size_zeroCells, size_zeroCells, hz1]
    omega
  refine OE_value (v := .slice (some ⟨w.heap.size, 0, none⟩) k (grownCap w k 0 T)) (w' := w.drew.alloc (.cells (Builtin.zeroCells z.cells k ++ Builtin.zeroCells z.cells (grownCap w k 0 T - k)) T)) (fun a ha => ?_) ⟨_, rfl, World.ownsRow_made w.drew _ _ (Nat.le_refl _) (grownCap_le_maxLen w k 0 T hkm) hsz, (Stp.drew [] w).trans (Stp.alloc [] _ _)⟩
  simp [execOp, resolve, invoke, builtin, ha.ev hx, ha.ev hy, hrun]
end Go.Eng

namespace Go.Proofs.YtgpibcgebpgmiaaDoor
open Go Go.Eng Go.RowKit
set_option linter.unusedVariables false

abbrev RwZ (w w' : World) (v : Value) (xs : List Int) : Prop := RowF 3 w w' v xs
/-- slices.Grow of nil -/
theorem GrowI_any (k : Nat) (w : World) (hk : k ≤ 1000000) : Calls Tryd.prog 123 #[.slice none 0 0, .int .i64 (k : Int)] w (Ret fun r w' => RwZ w w' r []) := by
  refine calls_of_WC2 (n := 27) Tryd.func123 rfl rfl rfl ?_
  refine W ?_
  have h0 : SlV (α := Int) [] w (.slice none 0 0) [] := nilSlv _ _
  have hl0 : ([] : List Int).length = 0 := rfl
  repeat' (first | refine W1 ?_ | (exfalso; omega) | refine WL_split rfl rfl (fun hg => ?_) (fun hg => ?_) | refine WL_splitB rfl rfl (fun hg => ?_) (fun hg => ?_) | refine WC_cond rfl (fun hc => ?_) (fun hc => ?_) | refine WC_condB rfl (fun hc => ?_) (fun hc => ?_))
  apply WL_pure (PR_cap rfl) rfl
  by_cases hk0 : k = 0
  · subst hk0
    repeat' (first | refine W1 ?_ | (exfalso; omega) | refine WL_split rfl rfl (fun hg => ?_) (fun hg => ?_) | refine WL_splitB rfl rfl (fun hg => ?_) (fun hg => ?_) | refine WC_cond rfl (fun hc => ?_) (fun hc => ?_) | refine WC_condB rfl (fun hc => ?_) (fun hc => ?_))
    first | refine WQ_ret1 rfl rfl ?_ | refine WQ_ret2 rfl rfl rfl ?_ | refine WQ_ret3 rfl rfl rfl rfl ?_ | refine WQ_ret0 rfl ?_ | refine WQ_end0 rfl ?_
    exact .mk RowF.nil
  repeat' (first | refine W1 ?_ | (exfalso; omega) | refine WL_split rfl rfl (fun hg => ?_) (fun hg => ?_) | refine WL_splitB rfl rfl (fun hg => ?_) (fun hg => ?_) | refine WC_cond rfl (fun hc => ?_) (fun hc => ?_) | refine WC_condB rfl (fun hc => ?_) (fun hc => ?_))
  apply WL_pure (PR_cap rfl) rfl
  apply WL_pure (PR_slice0n rfl rfl) rfl
  refine W ?_
  refine WL_eff (OE_appZ (k := k) rfl rfl rfl (by omega) (by simp [maxLen]; omega) (by omega)) rfl ?_
  rintro _ w1 ⟨c, rfl, hown, hS⟩
  replace h0 := h0.up hS
  have hr : RwZ w w1 (.slice (some ⟨w.heap.size, 0, none⟩) 0 c) [] := ⟨⟨[], rfl, fun i h => absurd h (Nat.not_lt_zero _), hown⟩, hS⟩
  refine W ?_
  apply WL_pure (PR_slice0 rfl rfl) rfl
  refine W ?_
  first | refine WQ_ret1 rfl rfl ?_ | refine WQ_ret2 rfl rfl rfl ?_ | refine WQ_ret3 rfl rfl rfl rfl ?_ | refine WQ_ret0 rfl ?_ | refine WQ_end0 rfl ?_
  exact .mk hr
/-- slices.Concat of slices of ints -/
theorem ConcatI_any (v : Value) (xss : List (Sl Int)) (w : World) (hs : SlV [] w v xss) (hl : xss.length ≤ 1000) (hlen : (xss.flatMap Sl.l).length ≤ 100000) : Calls Tryd.prog 98 #[v] w (Ret fun r w' => RwZ w w' r (xss.flatMap Sl.l)) := by
  have hpre : ∀ j, ((xss.take j).flatMap Sl.l).length ≤ (xss.flatMap Sl.l).length := fun j => by
    rw [← List.take_append_drop j xss, List.flatMap_append, List.length_append]
    simp only [List.take_append_drop]
    have : (xss.take j).flatMap Sl.l = ((xss.take j ++ xss.drop j).take j).flatMap Sl.l := by rw [List.take_append_drop]
    omega
  have hstep : ∀ j (h : j < xss.length), (xss.take (j + 1)).flatMap Sl.l = (xss.take j).flatMap Sl.l ++ xss[j].l := fun j h => by
    rw [List.take_succ_eq_append_getElem h, List.flatMap_append]
    simp
  refine calls_of_WC1 (n := 36) Tryd.func98 rfl rfl rfl ?_
  refine W ?_
  refine WC_cutB (σ := Unit) (fun _ => [(0, v), (3, .int .i64 ((xss.flatMap Sl.l).length : Int))]) (fun _ w' => w' = w) ?_ ?_
  · refine WC_loop (σ := Nat) (fun j => [(0, v), (9, v), (10, .int .i64 (xss.length : Int)), (3, .int .i64 (((xss.take j).flatMap Sl.l).length : Int)), (11, .int .i64 (j : Int))]) (fun j w' => j ≤ xss.length ∧ w' = w) (fun j => xss.length - j) 0 ⟨rfl, rfl, rfl, rfl, rfl, trivial⟩ ⟨Nat.zero_le _, rfl⟩ ?_
    rintro j w2 ⟨hj, rfl⟩
    by_cases hlt : j < xss.length
    · obtain ⟨u, hcell, hsu⟩ := hs.sub hlt
      have hum := hsu.max
      have h1 := hpre j
      have h2 := hpre (j + 1)
      have h3 := hstep j hlt
      have h4 : ((xss.take (j + 1)).flatMap Sl.l).length = ((xss.take j).flatMap Sl.l).length + xss[j].l.length := by rw [h3, List.length_append]
      repeat' (first | refine W1 ?_ | (exfalso; omega) | refine WL_split rfl rfl (fun hg => ?_) (fun hg => ?_) | refine WL_splitB rfl rfl (fun hg => ?_) (fun hg => ?_) | refine WC_cond rfl (fun hc => ?_) (fun hc => ?_) | refine WC_condB rfl (fun hc => ?_) (fun hc => ?_))
      apply WL_pure (PR_load1 rfl rfl hcell) rfl
      repeat' (first | refine W1 ?_ | (exfalso; omega) | refine WL_split rfl rfl (fun hg => ?_) (fun hg => ?_) | refine WL_splitB rfl rfl (fun hg => ?_) (fun hg => ?_) | refine WC_cond rfl (fun hc => ?_) (fun hc => ?_) | refine WC_condB rfl (fun hc => ?_) (fun hc => ?_))
      refine WQ_loop (j + 1) ⟨rfl, rfl, rfl, by rw [h4, Int.natCast_add]; rfl, rfl, trivial⟩ ⟨hlt, rfl⟩ (by omega)
    · have hje : j = xss.length := by omega
      subst hje
      rw [List.take_length]
      repeat' (first | refine W1 ?_ | (exfalso; omega) | refine WL_split rfl rfl (fun hg => ?_) (fun hg => ?_) | refine WL_splitB rfl rfl (fun hg => ?_) (fun hg => ?_) | refine WC_cond rfl (fun hc => ?_) (fun hc => ?_) | refine WC_condB rfl (fun hc => ?_) (fun hc => ?_))
      exact WQ_cut () ⟨rfl, rfl, trivial⟩ rfl
  rintro _ w2 rfl
  refine W ?_
  refine WL_eff (OE_call rfl (evs2 rfl rfl) (GrowI_any _ _ (by omega))) rfl ?_
  rintro g w3 hr
  refine W ?_
  have hs3 := hs.up hr.2
  refine W ?_
  refine WC_loop (σ := Nat × Value) (fun q => [(6, q.2), (25, v), (26, .int .i64 (xss.length : Int)), (27, .int .i64 (q.1 : Int))]) (fun q w' => q.1 ≤ xss.length ∧ RwZ w2 w' q.2 ((xss.take q.1).flatMap Sl.l)) (fun q => xss.length - q.1) (0, g) ⟨rfl, rfl, rfl, rfl, trivial⟩ ⟨Nat.zero_le _, by simpa using hr⟩ ?_
  clear hr hs3
  rintro ⟨j, g⟩ w4 ⟨hj, hr⟩
  dsimp only at hj hr ⊢
  by_cases hlt : j < xss.length
  · have hs4 : SlV (ob g) w4 v xss := hs.ext hr.2 (by simp) (fun b hb => .inr (hr.ob_le b hb).1)
    obtain ⟨u, hcell, hsu⟩ := hs4.sub hlt
    have h1 := hpre j
    have h2 := hpre (j + 1)
    have h3 := hstep j hlt
    have h4 : ((xss.take (j + 1)).flatMap Sl.l).length = ((xss.take j).flatMap Sl.l).length + xss[j].l.length := by rw [h3, List.length_append]
    repeat' (first | refine W1 ?_ | (exfalso; omega) | refine WL_split rfl rfl (fun hg => ?_) (fun hg => ?_) | refine WL_splitB rfl rfl (fun hg => ?_) (fun hg => ?_) | refine WC_cond rfl (fun hc => ?_) (fun hc => ?_) | refine WC_condB rfl (fun hc => ?_) (fun hc => ?_))
    apply WL_pure (PR_load1 rfl rfl hcell) rfl
    repeat' (first | refine W1 ?_ | (exfalso; omega) | refine WL_split rfl rfl (fun hg => ?_) (fun hg => ?_) | refine WL_splitB rfl rfl (fun hg => ?_) (fun hg => ?_) | refine WC_cond rfl (fun hc => ?_) (fun hc => ?_) | refine WC_condB rfl (fun hc => ?_) (fun hc => ?_))
    refine WL_eff (OE_appF rfl (by decide) rfl rfl hr hsu (by omega) (by simp only [maxLen]; omega)) rfl ?_
    rintro g' w5 ⟨hr', -, -⟩
    refine W ?_
    exact WQ_loop (j + 1, g') ⟨rfl, rfl, rfl, rfl, trivial⟩ ⟨hlt, by dsimp only; rw [h3]; exact hr'⟩ (by dsimp only; omega)
  · have hje : j = xss.length := by omega
    subst hje
    rw [List.take_length] at hr
    repeat' (first | refine W1 ?_ | (exfalso; omega) | refine WL_split rfl rfl (fun hg => ?_) (fun hg => ?_) | refine WL_splitB rfl rfl (fun hg => ?_) (fun hg => ?_) | refine WC_cond rfl (fun hc => ?_) (fun hc => ?_) | refine WC_condB rfl (fun hc => ?_) (fun hc => ?_))
    first | refine WQ_ret1 rfl rfl ?_ | refine WQ_ret2 rfl rfl rfl ?_ | refine WQ_ret3 rfl rfl rfl rfl ?_ | refine WQ_ret0 rfl ?_ | refine WQ_end0 rfl ?_
    exact .mk hr
end Go.Proofs.YtgpibcgebpgmiaaDoor

namespace Go.Eng
open Go
theorem WQ_ret4 {P : Program} {n : Nat} {fn : Func} {R : Ending → World → Prop} {e : Env} {w : World} {t u s q : Nat} {v x y z : Value} (hr : fn.results = #[.tmp t, .tmp u, .tmp s, .tmp q]) (ht : look e t = some v) (hu : look e u = some x) (hs : look e s = some y) (hq : look e q = some z) (h : R (.returned (.tuple #[v, x, y, z])) w) : WQ n (bodyPost P fn R) .ret e w :=
  ⟨fun a ha => ⟨ha.defers, .tuple #[v, x, y, z], by simp [results, hr]; simpa [Array.getD_eq_getD_getElem?] using And.intro (ha.vals t v ht) (And.intro (ha.vals u x hu) (And.intro (ha.vals s y hs) (ha.vals q z hq))), h⟩⟩
end Go.Eng
namespace Go.Proofs.YtgpibcgebpgmiaaDoor
open Go Go.Eng Go.RowKit
set_option linter.unusedVariables false

/-- what an operation takes, takes else, gives, and whether it is well formed -/
def effF (x : Ins) : List Int × List Int × List Int × Bool :=
  if x.op = 1 then ([], [], [1], decide (-2147483647 ≤ x.n ∧ x.n ≤ 2147483647))
  else if x.op = 2 then ([], [], [2], decide (x.n = 0 ∨ x.n = 1))
  else if x.op = 3 then ([], [], [3], decide (0 ≤ x.n ∧ x.n ≤ 3652058))
  else if x.op = 4 then ([], [], [if x.n = 0 ∨ x.n = 1 then 3 else 1], decide (0 ≤ x.n ∧ x.n < 7))
  else if x.op = 13 then ([], [], [], true)
  else if x.op = 14 then ([2], [], [], true)
  else if x.op = 5 ∨ x.op = 6 ∨ x.op = 7 then ([1, 1], [], [1], decide (x.n = 0))
  else if x.op = 8 then ([1], [], [1], decide (x.n = 0))
  else if x.op = 9 ∨ x.op = 10 ∨ x.op = 11 then ([1, 1], [3, 3], [2], decide (x.n = 0))
  else if x.op = 12 then ([2], [], [2], decide (x.n = 0))
  else if x.op = 15 ∨ x.op = 16 ∨ x.op = 17 ∨ x.op = 18 then ([3, 1], [], [3], decide (x.n = 0))
  else if x.op = 19 ∨ x.op = 20 then ([3], [], [3], decide (x.n = 0))
  else if x.op = 21 ∨ x.op = 22 then ([3, 3], [], [3], decide (x.n = 0))
  else if x.op = 23 then ([3, 3], [], [1], decide (x.n = 0))
  else if x.op = 24 then ([], [], [], decide (x.n = 0))
  else ([], [], [], false)
def EffR (X : List Nat) (w : World) (x : Ins) (r : Value) (w' : World) : Prop := ∃ a b c, r = .tuple #[a, b, c, .bool (effF x).2.2.2] ∧ SlV X w' a (effF x).1 ∧ SlV X w' b (effF x).2.1 ∧ SlV X w' c (effF x).2.2.1 ∧ Stp [] w w'
theorem effPost {X : List Nat} {w w' : World} {x : Ins} {a b c : Value} {p ok : Bool} {ta al gi : List Int} (heq : effF x = (ta, al, gi, ok)) (hp : p = ok) (ha : SlV X w' a ta) (hb : SlV X w' b al) (hc : SlV X w' c gi) (hS : Stp [] w w') : Ret (EffR X w x) (.returned (.tuple #[a, b, c, .bool p])) w' := by
  refine .mk ⟨a, b, c, ?_, ?_, ?_, ?_, hS⟩ <;> rw [heq]
  · rw [hp]
  · exact ha
  · exact hb
  · exact hc
set_option maxHeartbeats 2000000 in
theorem effect_any (X : List Nat) (x : Ins) (w : World) (hX0 : ∀ b ∈ X, b < w.heap.size) :
    Calls Tryd.prog 96 #[agg x] w (Ret (EffR X w x)) := by
  refine calls_of_WC1 (n := 117) Tryd.func96 rfl rfl rfl ?_
  refine W ?_
  refine WL_eff (OE_box rfl) rfl ?_
  rintro _ w0 ⟨b, rfl, hb, hblk, hS⟩
  replace hblk : Blk w0 b _ [.int .i64 x.op, .int .i64 x.n] := hblk
  have hX : ∀ b ∈ X, b < w0.heap.size := fun b hb => Nat.lt_of_lt_of_le (hX0 b hb) hS.size
  refine W ?_
  by_cases h1 : x.op = 1
  · have heq : effF x = ([], [], [1], decide (-2147483647 ≤ x.n ∧ x.n ≤ 2147483647)) := by simp [effF, h1]
    repeat' (first | refine W1 ?_ | (exfalso; omega) | refine WL_split rfl rfl (fun hg => ?_) (fun hg => ?_) | refine WL_splitB rfl rfl (fun hg => ?_) (fun hg => ?_) | refine WC_cond rfl (fun hc => ?_) (fun hc => ?_) | refine WC_condB rfl (fun hc => ?_) (fun hc => ?_))
    refine WC_drawn 13 [] [] [(1, 0), (2, 1), (3, 0), (4, 0), (5, 0), (6, 1), (7, 0), (8, 0), (9, 0), (10, 0), (0, 2), (11, 0), (12, 0)] rfl mixed (by kernel_rfl) (by kernel_rfl) (by kernel_rfl) (fun w1 hS1 => ?_)
    replace hblk := hblk.up hS1
    replace hS := hS.trans hS1
    replace hX := fun b hb => Nat.lt_of_lt_of_le (hX b hb) hS1.size
    repeat' (first | refine D1 ?_ | (exfalso; omega) | refine WD_splitN rfl rfl rfl rfl (fun hg => ?_) (fun hg => ?_) | (refine WD_splitBN rfl rfl rfl rfl (fun hg => ?_) (fun hg => ?_) <;> refine D1 ?_) | fail)
    all_goals
      refine WD_eff rfl trivial (OE_buildSlice (vs := [(0, .int .i64 1)]) rfl (buildSI1 _)) (fun _ _ h => NewSl.stp h) rfl ?_
      rintro g wq hN
      have s_g : SlV X wq g [(1 : Int)] := hN.slv hX rfl rfl (by simp [maxLen])
      have hT := NewSl.stp hN
      clear hN
      replace hblk := hblk.up hT
      replace hS := hS.trans hT
      clear hT
      refine D ?_
      refine W ?_
      refine WQ_ret4 rfl rfl rfl rfl rfl ?_
      refine effPost heq ?_ (nilSlv _ _) (nilSlv _ _) (s_g) hS
      first | rfl | (simp only [decide_eq_decide]; omega) | (symm; simp only [decide_eq_false_iff_not]; omega) | (simp only [decide_eq_false_iff_not]; omega)
  by_cases h2 : x.op = 2
  · have heq : effF x = ([], [], [2], decide (x.n = 0 ∨ x.n = 1)) := by simp [effF, h2]
    repeat' (first | refine W1 ?_ | (exfalso; omega) | refine WL_split rfl rfl (fun hg => ?_) (fun hg => ?_) | refine WL_splitB rfl rfl (fun hg => ?_) (fun hg => ?_) | refine WC_cond rfl (fun hc => ?_) (fun hc => ?_) | refine WC_condB rfl (fun hc => ?_) (fun hc => ?_))
    refine WC_drawn 13 [] [] [(1, 0), (2, 1), (3, 0), (4, 0), (5, 0), (6, 1), (7, 0), (8, 0), (9, 0), (10, 0), (0, 2), (11, 0), (12, 0)] rfl mixed (by kernel_rfl) (by kernel_rfl) (by kernel_rfl) (fun w1 hS1 => ?_)
    replace hblk := hblk.up hS1
    replace hS := hS.trans hS1
    replace hX := fun b hb => Nat.lt_of_lt_of_le (hX b hb) hS1.size
    repeat' (first | refine D1 ?_ | (exfalso; omega) | refine WD_splitN rfl rfl rfl rfl (fun hg => ?_) (fun hg => ?_) | (refine WD_splitBN rfl rfl rfl rfl (fun hg => ?_) (fun hg => ?_) <;> refine D1 ?_) | fail)
    all_goals
      refine WD_eff rfl trivial (OE_buildSlice (vs := [(0, .int .i64 2)]) rfl (buildSI1 _)) (fun _ _ h => NewSl.stp h) rfl ?_
      rintro g wq hN
      have s_g : SlV X wq g [(2 : Int)] := hN.slv hX rfl rfl (by simp [maxLen])
      have hT := NewSl.stp hN
      clear hN
      replace hblk := hblk.up hT
      replace hS := hS.trans hT
      clear hT
      refine D ?_
      refine W ?_
      refine WQ_ret4 rfl rfl rfl rfl rfl ?_
      refine effPost heq ?_ (nilSlv _ _) (nilSlv _ _) (s_g) hS
      first | rfl | (simp only [decide_eq_decide]; omega) | (symm; simp only [decide_eq_true_eq]; omega) | (simp only [decide_eq_true_eq]; omega)
  by_cases h3 : x.op = 3
  · have heq : effF x = ([], [], [3], decide (0 ≤ x.n ∧ x.n ≤ 3652058)) := by simp [effF, h3]
    repeat' (first | refine W1 ?_ | (exfalso; omega) | refine WL_split rfl rfl (fun hg => ?_) (fun hg => ?_) | refine WL_splitB rfl rfl (fun hg => ?_) (fun hg => ?_) | refine WC_cond rfl (fun hc => ?_) (fun hc => ?_) | refine WC_condB rfl (fun hc => ?_) (fun hc => ?_))
    refine WC_drawn 13 [] [] [(1, 0), (2, 1), (3, 0), (4, 0), (5, 0), (6, 1), (7, 0), (8, 0), (9, 0), (10, 0), (0, 2), (11, 0), (12, 0)] rfl mixed (by kernel_rfl) (by kernel_rfl) (by kernel_rfl) (fun w1 hS1 => ?_)
    replace hblk := hblk.up hS1
    replace hS := hS.trans hS1
    replace hX := fun b hb => Nat.lt_of_lt_of_le (hX b hb) hS1.size
    repeat' (first | refine D1 ?_ | (exfalso; omega) | refine WD_splitN rfl rfl rfl rfl (fun hg => ?_) (fun hg => ?_) | (refine WD_splitBN rfl rfl rfl rfl (fun hg => ?_) (fun hg => ?_) <;> refine D1 ?_) | fail)
    all_goals
      refine WD_eff rfl trivial (OE_buildSlice (vs := [(0, .int .i64 3)]) rfl (buildSI1 _)) (fun _ _ h => NewSl.stp h) rfl ?_
      rintro g wq hN
      have s_g : SlV X wq g [(3 : Int)] := hN.slv hX rfl rfl (by simp [maxLen])
      have hT := NewSl.stp hN
      clear hN
      replace hblk := hblk.up hT
      replace hS := hS.trans hT
      clear hT
      refine D ?_
      refine W ?_
      refine WQ_ret4 rfl rfl rfl rfl rfl ?_
      refine effPost heq ?_ (nilSlv _ _) (nilSlv _ _) (s_g) hS
      first | rfl | (simp only [decide_eq_decide]; omega) | (symm; simp only [decide_eq_false_iff_not]; omega) | (simp only [decide_eq_false_iff_not]; omega)
  by_cases h4 : x.op = 4
  · by_cases h01 : x.n = 0 ∨ x.n = 1
    · have heq : effF x = ([], [], [3], decide (0 ≤ x.n ∧ x.n < 7)) := by simp [effF, h4, h01]
      repeat' (first | refine W1 ?_ | (exfalso; omega) | refine WL_split rfl rfl (fun hg => ?_) (fun hg => ?_) | refine WL_splitB rfl rfl (fun hg => ?_) (fun hg => ?_) | refine WC_cond rfl (fun hc => ?_) (fun hc => ?_) | refine WC_condB rfl (fun hc => ?_) (fun hc => ?_))
      all_goals
        refine WC_drawn 14 [] [] [(0, 0), (2, 0), (3, 1), (4, 0), (5, 0), (6, 0), (7, 1), (8, 0), (9, 0), (10, 0), (11, 0), (1, 2), (12, 0), (13, 0)] rfl mixed (by kernel_rfl) (by kernel_rfl) (by kernel_rfl) (fun w1 hS1 => ?_)
        replace hblk := hblk.up hS1
        replace hS := hS.trans hS1
        replace hX := fun b hb => Nat.lt_of_lt_of_le (hX b hb) hS1.size
        repeat' (first | refine D1 ?_ | (exfalso; omega) | refine WD_splitN rfl rfl rfl rfl (fun hg => ?_) (fun hg => ?_) | (refine WD_splitBN rfl rfl rfl rfl (fun hg => ?_) (fun hg => ?_) <;> refine D1 ?_) | fail)
        all_goals
          refine WD_eff rfl trivial (OE_buildSlice (vs := [(0, .int .i64 3)]) rfl (buildSI1 _)) (fun _ _ h => NewSl.stp h) rfl ?_
          rintro g wq hN
          have s_g : SlV X wq g [(3 : Int)] := hN.slv hX rfl rfl (by simp [maxLen])
          have hT := NewSl.stp hN
          clear hN
          replace hblk := hblk.up hT
          replace hS := hS.trans hT
          clear hT
          refine D ?_
          refine W ?_
          refine WQ_ret4 rfl rfl rfl rfl rfl ?_
          refine effPost heq ?_ (nilSlv _ _) (nilSlv _ _) (s_g) hS
          first | rfl | (simp only [decide_eq_decide]; omega) | (symm; simp only [decide_eq_true_eq, decide_eq_false_iff_not]; omega) | (simp only [decide_eq_true_eq, decide_eq_false_iff_not]; omega)
    · have heq : effF x = ([], [], [1], decide (0 ≤ x.n ∧ x.n < 7)) := by simp [effF, h4, h01]
      repeat' (first | refine W1 ?_ | (exfalso; omega) | refine WL_split rfl rfl (fun hg => ?_) (fun hg => ?_) | refine WL_splitB rfl rfl (fun hg => ?_) (fun hg => ?_) | refine WC_cond rfl (fun hc => ?_) (fun hc => ?_) | refine WC_condB rfl (fun hc => ?_) (fun hc => ?_))
      all_goals
        refine WC_drawn 14 [] [] [(0, 0), (2, 0), (3, 1), (4, 0), (5, 0), (6, 0), (7, 1), (8, 0), (9, 0), (10, 0), (11, 0), (1, 2), (12, 0), (13, 0)] rfl mixed (by kernel_rfl) (by kernel_rfl) (by kernel_rfl) (fun w1 hS1 => ?_)
        replace hblk := hblk.up hS1
        replace hS := hS.trans hS1
        replace hX := fun b hb => Nat.lt_of_lt_of_le (hX b hb) hS1.size
        repeat' (first | refine D1 ?_ | (exfalso; omega) | refine WD_splitN rfl rfl rfl rfl (fun hg => ?_) (fun hg => ?_) | (refine WD_splitBN rfl rfl rfl rfl (fun hg => ?_) (fun hg => ?_) <;> refine D1 ?_) | fail)
        all_goals
          refine WD_eff rfl trivial (OE_buildSlice (vs := [(0, .int .i64 1)]) rfl (buildSI1 _)) (fun _ _ h => NewSl.stp h) rfl ?_
          rintro g wq hN
          have s_g : SlV X wq g [(1 : Int)] := hN.slv hX rfl rfl (by simp [maxLen])
          have hT := NewSl.stp hN
          clear hN
          replace hblk := hblk.up hT
          replace hS := hS.trans hT
          clear hT
          refine D ?_
          refine W ?_
          refine WQ_ret4 rfl rfl rfl rfl rfl ?_
          refine effPost heq ?_ (nilSlv _ _) (nilSlv _ _) (s_g) hS
          first | rfl | (simp only [decide_eq_decide]; omega) | (symm; simp only [decide_eq_false_iff_not]; omega) | (simp only [decide_eq_false_iff_not]; omega)
  by_cases h13 : x.op = 13
  · have heq : effF x = ([], [], [], true) := by simp [effF, h13]
    repeat' (first | refine W1 ?_ | (exfalso; omega) | refine WL_split rfl rfl (fun hg => ?_) (fun hg => ?_) | refine WL_splitB rfl rfl (fun hg => ?_) (fun hg => ?_) | refine WC_cond rfl (fun hc => ?_) (fun hc => ?_) | refine WC_condB rfl (fun hc => ?_) (fun hc => ?_))
    refine WQ_ret4 rfl rfl rfl rfl rfl ?_
    refine effPost heq ?_ (nilSlv _ _) (nilSlv _ _) (nilSlv _ _) hS
    first | rfl | (simp only [decide_eq_decide]; omega) | (symm; simp only [decide_eq_true_eq, decide_eq_false_iff_not]; omega) | (simp only [decide_eq_true_eq, decide_eq_false_iff_not]; omega)
  by_cases h14 : x.op = 14
  · have heq : effF x = ([2], [], [], true) := by simp [effF, h14]
    repeat' (first | refine W1 ?_ | (exfalso; omega) | refine WL_split rfl rfl (fun hg => ?_) (fun hg => ?_) | refine WL_splitB rfl rfl (fun hg => ?_) (fun hg => ?_) | refine WC_cond rfl (fun hc => ?_) (fun hc => ?_) | refine WC_condB rfl (fun hc => ?_) (fun hc => ?_))
    refine WL_eff (OE_buildSlice (vs := [(0, .int .i64 2)]) rfl (buildSI1 _)) rfl ?_
    rintro t wq hN
    have s_t : SlV X wq t [(2 : Int)] := hN.slv hX rfl rfl (by simp [maxLen])
    have hT := NewSl.stp hN
    clear hN
    replace hblk := hblk.up hT
    replace hS := hS.trans hT
    replace hX := fun b hb => Nat.lt_of_lt_of_le (hX b hb) hT.size
    clear hT
    refine W ?_
    refine WQ_ret4 rfl rfl rfl rfl rfl ?_
    refine effPost heq ?_ (s_t) (nilSlv _ _) (nilSlv _ _) hS
    first | rfl | (simp only [decide_eq_decide]; omega) | (symm; simp only [decide_eq_true_eq, decide_eq_false_iff_not]; omega) | (simp only [decide_eq_true_eq, decide_eq_false_iff_not]; omega)
  by_cases h5 : x.op = 5 ∨ x.op = 6 ∨ x.op = 7
  · have heq : effF x = ([1, 1], [], [1], decide (x.n = 0)) := by rcases h5 with h | h | h <;> simp [effF, h]
    repeat' (first | refine W1 ?_ | (exfalso; omega) | refine WL_split rfl rfl (fun hg => ?_) (fun hg => ?_) | refine WL_splitB rfl rfl (fun hg => ?_) (fun hg => ?_) | refine WC_cond rfl (fun hc => ?_) (fun hc => ?_) | refine WC_condB rfl (fun hc => ?_) (fun hc => ?_))
    all_goals
      refine WL_eff (OE_buildSlice (vs := [(0, .int .i64 1), (1, .int .i64 1)]) rfl (buildSI2 _ _)) rfl ?_
      rintro t wq hN
      have s_t : SlV X wq t [(1 : Int), (1 : Int)] := hN.slv hX rfl rfl (by simp [maxLen])
      have hT := NewSl.stp hN
      clear hN
      replace hblk := hblk.up hT
      replace hS := hS.trans hT
      replace hX := fun b hb => Nat.lt_of_lt_of_le (hX b hb) hT.size
      clear hT
      refine WL_eff (OE_buildSlice (vs := [(0, .int .i64 1)]) rfl (buildSI1 _)) rfl ?_
      rintro g wq hN
      have s_g : SlV X wq g [(1 : Int)] := hN.slv hX rfl rfl (by simp [maxLen])
      have hT := NewSl.stp hN
      clear hN
      replace hblk := hblk.up hT
      replace hS := hS.trans hT
      replace hX := fun b hb => Nat.lt_of_lt_of_le (hX b hb) hT.size
      replace s_t := s_t.up hT
      clear hT
      refine W ?_
      refine WC_drawn 10 [] [] [(0, 0), (1, 0), (2, 0), (3, 0), (4, 1), (5, 0), (6, 0), (7, 0), (8, 0), (9, 0)] rfl mixed (by kernel_rfl) (by kernel_rfl) (by kernel_rfl) (fun w1 hS1 => ?_)
      replace hblk := hblk.up hS1
      replace hS := hS.trans hS1
      replace s_t := s_t.up hS1
      replace s_g := s_g.up hS1
      refine D ?_
      refine W ?_
      refine WQ_ret4 rfl rfl rfl rfl rfl ?_
      refine effPost heq ?_ (s_t) (nilSlv _ _) (s_g) hS
      first | rfl | (simp only [decide_eq_decide]; omega) | (symm; simp only [decide_eq_true_eq, decide_eq_false_iff_not]; omega) | (simp only [decide_eq_true_eq, decide_eq_false_iff_not]; omega)
  by_cases h8 : x.op = 8
  · have heq : effF x = ([1], [], [1], decide (x.n = 0)) := by simp [effF, h8]
    repeat' (first | refine W1 ?_ | (exfalso; omega) | refine WL_split rfl rfl (fun hg => ?_) (fun hg => ?_) | refine WL_splitB rfl rfl (fun hg => ?_) (fun hg => ?_) | refine WC_cond rfl (fun hc => ?_) (fun hc => ?_) | refine WC_condB rfl (fun hc => ?_) (fun hc => ?_))
    all_goals
      refine WL_eff (OE_buildSlice (vs := [(0, .int .i64 1)]) rfl (buildSI1 _)) rfl ?_
      rintro t wq hN
      have s_t : SlV X wq t [(1 : Int)] := hN.slv hX rfl rfl (by simp [maxLen])
      have hT := NewSl.stp hN
      clear hN
      replace hblk := hblk.up hT
      replace hS := hS.trans hT
      replace hX := fun b hb => Nat.lt_of_lt_of_le (hX b hb) hT.size
      clear hT
      refine WL_eff (OE_buildSlice (vs := [(0, .int .i64 1)]) rfl (buildSI1 _)) rfl ?_
      rintro g wq hN
      have s_g : SlV X wq g [(1 : Int)] := hN.slv hX rfl rfl (by simp [maxLen])
      have hT := NewSl.stp hN
      clear hN
      replace hblk := hblk.up hT
      replace hS := hS.trans hT
      replace hX := fun b hb => Nat.lt_of_lt_of_le (hX b hb) hT.size
      replace s_t := s_t.up hT
      clear hT
      refine W ?_
      refine WC_drawn 10 [] [] [(0, 0), (1, 0), (2, 0), (3, 0), (4, 1), (5, 0), (6, 0), (7, 0), (8, 0), (9, 0)] rfl mixed (by kernel_rfl) (by kernel_rfl) (by kernel_rfl) (fun w1 hS1 => ?_)
      replace hblk := hblk.up hS1
      replace hS := hS.trans hS1
      replace s_t := s_t.up hS1
      replace s_g := s_g.up hS1
      refine D ?_
      refine W ?_
      refine WQ_ret4 rfl rfl rfl rfl rfl ?_
      refine effPost heq ?_ (s_t) (nilSlv _ _) (s_g) hS
      first | rfl | (simp only [decide_eq_decide]; omega) | (symm; simp only [decide_eq_true_eq, decide_eq_false_iff_not]; omega) | (simp only [decide_eq_true_eq, decide_eq_false_iff_not]; omega)
  by_cases h9 : x.op = 9 ∨ x.op = 10 ∨ x.op = 11
  · have heq : effF x = ([1, 1], [3, 3], [2], decide (x.n = 0)) := by rcases h9 with h | h | h <;> simp [effF, h]
    repeat' (first | refine W1 ?_ | (exfalso; omega) | refine WL_split rfl rfl (fun hg => ?_) (fun hg => ?_) | refine WL_splitB rfl rfl (fun hg => ?_) (fun hg => ?_) | refine WC_cond rfl (fun hc => ?_) (fun hc => ?_) | refine WC_condB rfl (fun hc => ?_) (fun hc => ?_))
    all_goals
      refine WL_eff (OE_buildSlice (vs := [(0, .int .i64 1), (1, .int .i64 1)]) rfl (buildSI2 _ _)) rfl ?_
      rintro t wq hN
      have s_t : SlV X wq t [(1 : Int), (1 : Int)] := hN.slv hX rfl rfl (by simp [maxLen])
      have hT := NewSl.stp hN
      clear hN
      replace hblk := hblk.up hT
      replace hS := hS.trans hT
      replace hX := fun b hb => Nat.lt_of_lt_of_le (hX b hb) hT.size
      clear hT
      refine WL_eff (OE_buildSlice (vs := [(0, .int .i64 3), (1, .int .i64 3)]) rfl (buildSI2 _ _)) rfl ?_
      rintro a wq hN
      have s_a : SlV X wq a [(3 : Int), (3 : Int)] := hN.slv hX rfl rfl (by simp [maxLen])
      have hT := NewSl.stp hN
      clear hN
      replace hblk := hblk.up hT
      replace hS := hS.trans hT
      replace hX := fun b hb => Nat.lt_of_lt_of_le (hX b hb) hT.size
      replace s_t := s_t.up hT
      clear hT
      refine WL_eff (OE_buildSlice (vs := [(0, .int .i64 2)]) rfl (buildSI1 _)) rfl ?_
      rintro g wq hN
      have s_g : SlV X wq g [(2 : Int)] := hN.slv hX rfl rfl (by simp [maxLen])
      have hT := NewSl.stp hN
      clear hN
      replace hblk := hblk.up hT
      replace hS := hS.trans hT
      replace hX := fun b hb => Nat.lt_of_lt_of_le (hX b hb) hT.size
      replace s_t := s_t.up hT
      replace s_a := s_a.up hT
      clear hT
      refine W ?_
      refine WC_drawn 10 [] [] [(0, 0), (1, 0), (2, 0), (3, 0), (4, 1), (5, 0), (6, 0), (7, 0), (8, 0), (9, 0)] rfl mixed (by kernel_rfl) (by kernel_rfl) (by kernel_rfl) (fun w1 hS1 => ?_)
      replace hblk := hblk.up hS1
      replace hS := hS.trans hS1
      replace s_t := s_t.up hS1
      replace s_a := s_a.up hS1
      replace s_g := s_g.up hS1
      refine D ?_
      refine W ?_
      refine WQ_ret4 rfl rfl rfl rfl rfl ?_
      refine effPost heq ?_ (s_t) (s_a) (s_g) hS
      first | rfl | (simp only [decide_eq_decide]; omega) | (symm; simp only [decide_eq_true_eq, decide_eq_false_iff_not]; omega) | (simp only [decide_eq_true_eq, decide_eq_false_iff_not]; omega)
  by_cases h12 : x.op = 12
  · have heq : effF x = ([2], [], [2], decide (x.n = 0)) := by simp [effF, h12]
    repeat' (first | refine W1 ?_ | (exfalso; omega) | refine WL_split rfl rfl (fun hg => ?_) (fun hg => ?_) | refine WL_splitB rfl rfl (fun hg => ?_) (fun hg => ?_) | refine WC_cond rfl (fun hc => ?_) (fun hc => ?_) | refine WC_condB rfl (fun hc => ?_) (fun hc => ?_))
    all_goals
      refine WL_eff (OE_buildSlice (vs := [(0, .int .i64 2)]) rfl (buildSI1 _)) rfl ?_
      rintro t wq hN
      have s_t : SlV X wq t [(2 : Int)] := hN.slv hX rfl rfl (by simp [maxLen])
      have hT := NewSl.stp hN
      clear hN
      replace hblk := hblk.up hT
      replace hS := hS.trans hT
      replace hX := fun b hb => Nat.lt_of_lt_of_le (hX b hb) hT.size
      clear hT
      refine WL_eff (OE_buildSlice (vs := [(0, .int .i64 2)]) rfl (buildSI1 _)) rfl ?_
      rintro g wq hN
      have s_g : SlV X wq g [(2 : Int)] := hN.slv hX rfl rfl (by simp [maxLen])
      have hT := NewSl.stp hN
      clear hN
      replace hblk := hblk.up hT
      replace hS := hS.trans hT
      replace hX := fun b hb => Nat.lt_of_lt_of_le (hX b hb) hT.size
      replace s_t := s_t.up hT
      clear hT
      refine W ?_
      refine WC_drawn 10 [] [] [(0, 0), (1, 0), (2, 0), (3, 0), (4, 1), (5, 0), (6, 0), (7, 0), (8, 0), (9, 0)] rfl mixed (by kernel_rfl) (by kernel_rfl) (by kernel_rfl) (fun w1 hS1 => ?_)
      replace hblk := hblk.up hS1
      replace hS := hS.trans hS1
      replace s_t := s_t.up hS1
      replace s_g := s_g.up hS1
      refine D ?_
      refine W ?_
      refine WQ_ret4 rfl rfl rfl rfl rfl ?_
      refine effPost heq ?_ (s_t) (nilSlv _ _) (s_g) hS
      first | rfl | (simp only [decide_eq_decide]; omega) | (symm; simp only [decide_eq_true_eq, decide_eq_false_iff_not]; omega) | (simp only [decide_eq_true_eq, decide_eq_false_iff_not]; omega)
  by_cases h15 : x.op = 15 ∨ x.op = 16 ∨ x.op = 17 ∨ x.op = 18
  · have heq : effF x = ([3, 1], [], [3], decide (x.n = 0)) := by rcases h15 with h | h | h | h <;> simp [effF, h]
    repeat' (first | refine W1 ?_ | (exfalso; omega) | refine WL_split rfl rfl (fun hg => ?_) (fun hg => ?_) | refine WL_splitB rfl rfl (fun hg => ?_) (fun hg => ?_) | refine WC_cond rfl (fun hc => ?_) (fun hc => ?_) | refine WC_condB rfl (fun hc => ?_) (fun hc => ?_))
    all_goals
      refine WL_eff (OE_buildSlice (vs := [(0, .int .i64 3), (1, .int .i64 1)]) rfl (buildSI2 _ _)) rfl ?_
      rintro t wq hN
      have s_t : SlV X wq t [(3 : Int), (1 : Int)] := hN.slv hX rfl rfl (by simp [maxLen])
      have hT := NewSl.stp hN
      clear hN
      replace hblk := hblk.up hT
      replace hS := hS.trans hT
      replace hX := fun b hb => Nat.lt_of_lt_of_le (hX b hb) hT.size
      clear hT
      refine WL_eff (OE_buildSlice (vs := [(0, .int .i64 3)]) rfl (buildSI1 _)) rfl ?_
      rintro g wq hN
      have s_g : SlV X wq g [(3 : Int)] := hN.slv hX rfl rfl (by simp [maxLen])
      have hT := NewSl.stp hN
      clear hN
      replace hblk := hblk.up hT
      replace hS := hS.trans hT
      replace hX := fun b hb => Nat.lt_of_lt_of_le (hX b hb) hT.size
      replace s_t := s_t.up hT
      clear hT
      refine W ?_
      refine WC_drawn 10 [] [] [(0, 0), (1, 0), (2, 0), (3, 0), (4, 1), (5, 0), (6, 0), (7, 0), (8, 0), (9, 0)] rfl mixed (by kernel_rfl) (by kernel_rfl) (by kernel_rfl) (fun w1 hS1 => ?_)
      replace hblk := hblk.up hS1
      replace hS := hS.trans hS1
      replace s_t := s_t.up hS1
      replace s_g := s_g.up hS1
      refine D ?_
      refine W ?_
      refine WQ_ret4 rfl rfl rfl rfl rfl ?_
      refine effPost heq ?_ (s_t) (nilSlv _ _) (s_g) hS
      first | rfl | (simp only [decide_eq_decide]; omega) | (symm; simp only [decide_eq_true_eq, decide_eq_false_iff_not]; omega) | (simp only [decide_eq_true_eq, decide_eq_false_iff_not]; omega)
  by_cases h19 : x.op = 19 ∨ x.op = 20
  · have heq : effF x = ([3], [], [3], decide (x.n = 0)) := by rcases h19 with h | h <;> simp [effF, h]
    repeat' (first | refine W1 ?_ | (exfalso; omega) | refine WL_split rfl rfl (fun hg => ?_) (fun hg => ?_) | refine WL_splitB rfl rfl (fun hg => ?_) (fun hg => ?_) | refine WC_cond rfl (fun hc => ?_) (fun hc => ?_) | refine WC_condB rfl (fun hc => ?_) (fun hc => ?_))
    all_goals
      refine WL_eff (OE_buildSlice (vs := [(0, .int .i64 3)]) rfl (buildSI1 _)) rfl ?_
      rintro t wq hN
      have s_t : SlV X wq t [(3 : Int)] := hN.slv hX rfl rfl (by simp [maxLen])
      have hT := NewSl.stp hN
      clear hN
      replace hblk := hblk.up hT
      replace hS := hS.trans hT
      replace hX := fun b hb => Nat.lt_of_lt_of_le (hX b hb) hT.size
      clear hT
      refine WL_eff (OE_buildSlice (vs := [(0, .int .i64 3)]) rfl (buildSI1 _)) rfl ?_
      rintro g wq hN
      have s_g : SlV X wq g [(3 : Int)] := hN.slv hX rfl rfl (by simp [maxLen])
      have hT := NewSl.stp hN
      clear hN
      replace hblk := hblk.up hT
      replace hS := hS.trans hT
      replace hX := fun b hb => Nat.lt_of_lt_of_le (hX b hb) hT.size
      replace s_t := s_t.up hT
      clear hT
      refine W ?_
      refine WC_drawn 10 [] [] [(0, 0), (1, 0), (2, 0), (3, 0), (4, 1), (5, 0), (6, 0), (7, 0), (8, 0), (9, 0)] rfl mixed (by kernel_rfl) (by kernel_rfl) (by kernel_rfl) (fun w1 hS1 => ?_)
      replace hblk := hblk.up hS1
      replace hS := hS.trans hS1
      replace s_t := s_t.up hS1
      replace s_g := s_g.up hS1
      refine D ?_
      refine W ?_
      refine WQ_ret4 rfl rfl rfl rfl rfl ?_
      refine effPost heq ?_ (s_t) (nilSlv _ _) (s_g) hS
      first | rfl | (simp only [decide_eq_decide]; omega) | (symm; simp only [decide_eq_true_eq, decide_eq_false_iff_not]; omega) | (simp only [decide_eq_true_eq, decide_eq_false_iff_not]; omega)
  by_cases h21 : x.op = 21 ∨ x.op = 22
  · have heq : effF x = ([3, 3], [], [3], decide (x.n = 0)) := by rcases h21 with h | h <;> simp [effF, h]
    repeat' (first | refine W1 ?_ | (exfalso; omega) | refine WL_split rfl rfl (fun hg => ?_) (fun hg => ?_) | refine WL_splitB rfl rfl (fun hg => ?_) (fun hg => ?_) | refine WC_cond rfl (fun hc => ?_) (fun hc => ?_) | refine WC_condB rfl (fun hc => ?_) (fun hc => ?_))
    all_goals
      refine WL_eff (OE_buildSlice (vs := [(0, .int .i64 3), (1, .int .i64 3)]) rfl (buildSI2 _ _)) rfl ?_
      rintro t wq hN
      have s_t : SlV X wq t [(3 : Int), (3 : Int)] := hN.slv hX rfl rfl (by simp [maxLen])
      have hT := NewSl.stp hN
      clear hN
      replace hblk := hblk.up hT
      replace hS := hS.trans hT
      replace hX := fun b hb => Nat.lt_of_lt_of_le (hX b hb) hT.size
      clear hT
      refine WL_eff (OE_buildSlice (vs := [(0, .int .i64 3)]) rfl (buildSI1 _)) rfl ?_
      rintro g wq hN
      have s_g : SlV X wq g [(3 : Int)] := hN.slv hX rfl rfl (by simp [maxLen])
      have hT := NewSl.stp hN
      clear hN
      replace hblk := hblk.up hT
      replace hS := hS.trans hT
      replace hX := fun b hb => Nat.lt_of_lt_of_le (hX b hb) hT.size
      replace s_t := s_t.up hT
      clear hT
      refine W ?_
      refine WC_drawn 10 [] [] [(0, 0), (1, 0), (2, 0), (3, 0), (4, 1), (5, 0), (6, 0), (7, 0), (8, 0), (9, 0)] rfl mixed (by kernel_rfl) (by kernel_rfl) (by kernel_rfl) (fun w1 hS1 => ?_)
      replace hblk := hblk.up hS1
      replace hS := hS.trans hS1
      replace s_t := s_t.up hS1
      replace s_g := s_g.up hS1
      refine D ?_
      refine W ?_
      refine WQ_ret4 rfl rfl rfl rfl rfl ?_
      refine effPost heq ?_ (s_t) (nilSlv _ _) (s_g) hS
      first | rfl | (simp only [decide_eq_decide]; omega) | (symm; simp only [decide_eq_true_eq, decide_eq_false_iff_not]; omega) | (simp only [decide_eq_true_eq, decide_eq_false_iff_not]; omega)
  by_cases h23 : x.op = 23
  · have heq : effF x = ([3, 3], [], [1], decide (x.n = 0)) := by simp [effF, h23]
    repeat' (first | refine W1 ?_ | (exfalso; omega) | refine WL_split rfl rfl (fun hg => ?_) (fun hg => ?_) | refine WL_splitB rfl rfl (fun hg => ?_) (fun hg => ?_) | refine WC_cond rfl (fun hc => ?_) (fun hc => ?_) | refine WC_condB rfl (fun hc => ?_) (fun hc => ?_))
    all_goals
      refine WL_eff (OE_buildSlice (vs := [(0, .int .i64 3), (1, .int .i64 3)]) rfl (buildSI2 _ _)) rfl ?_
      rintro t wq hN
      have s_t : SlV X wq t [(3 : Int), (3 : Int)] := hN.slv hX rfl rfl (by simp [maxLen])
      have hT := NewSl.stp hN
      clear hN
      replace hblk := hblk.up hT
      replace hS := hS.trans hT
      replace hX := fun b hb => Nat.lt_of_lt_of_le (hX b hb) hT.size
      clear hT
      refine WL_eff (OE_buildSlice (vs := [(0, .int .i64 1)]) rfl (buildSI1 _)) rfl ?_
      rintro g wq hN
      have s_g : SlV X wq g [(1 : Int)] := hN.slv hX rfl rfl (by simp [maxLen])
      have hT := NewSl.stp hN
      clear hN
      replace hblk := hblk.up hT
      replace hS := hS.trans hT
      replace hX := fun b hb => Nat.lt_of_lt_of_le (hX b hb) hT.size
      replace s_t := s_t.up hT
      clear hT
      refine W ?_
      refine WC_drawn 10 [] [] [(0, 0), (1, 0), (2, 0), (3, 0), (4, 1), (5, 0), (6, 0), (7, 0), (8, 0), (9, 0)] rfl mixed (by kernel_rfl) (by kernel_rfl) (by kernel_rfl) (fun w1 hS1 => ?_)
      replace hblk := hblk.up hS1
      replace hS := hS.trans hS1
      replace s_t := s_t.up hS1
      replace s_g := s_g.up hS1
      refine D ?_
      refine W ?_
      refine WQ_ret4 rfl rfl rfl rfl rfl ?_
      refine effPost heq ?_ (s_t) (nilSlv _ _) (s_g) hS
      first | rfl | (simp only [decide_eq_decide]; omega) | (symm; simp only [decide_eq_true_eq, decide_eq_false_iff_not]; omega) | (simp only [decide_eq_true_eq, decide_eq_false_iff_not]; omega)
  by_cases h24 : x.op = 24
  · have heq : effF x = ([], [], [], decide (x.n = 0)) := by simp [effF, h24]
    repeat' (first | refine W1 ?_ | (exfalso; omega) | refine WL_split rfl rfl (fun hg => ?_) (fun hg => ?_) | refine WL_splitB rfl rfl (fun hg => ?_) (fun hg => ?_) | refine WC_cond rfl (fun hc => ?_) (fun hc => ?_) | refine WC_condB rfl (fun hc => ?_) (fun hc => ?_))
    refine WC_drawn 10 [] [] [(0, 0), (1, 0), (2, 0), (3, 0), (4, 1), (5, 0), (6, 0), (7, 0), (8, 0), (9, 0)] rfl mixed (by kernel_rfl) (by kernel_rfl) (by kernel_rfl) (fun w1 hS1 => ?_)
    replace hblk := hblk.up hS1
    replace hS := hS.trans hS1
    refine D ?_
    refine W ?_
    refine WQ_ret4 rfl rfl rfl rfl rfl ?_
    refine effPost heq ?_ (nilSlv _ _) (nilSlv _ _) (nilSlv _ _) hS
    first | rfl | (simp only [decide_eq_decide]; omega) | (symm; simp only [decide_eq_true_eq, decide_eq_false_iff_not]; omega) | (simp only [decide_eq_true_eq, decide_eq_false_iff_not]; omega)
  have heq : effF x = ([], [], [], false) := by simp [effF, h1, h2, h3, h4, h13, h14, h5, h8, h9, h12, h15, h19, h21, h23, h24]
  repeat' (first | refine W1 ?_ | (exfalso; omega) | refine WL_split rfl rfl (fun hg => ?_) (fun hg => ?_) | refine WL_splitB rfl rfl (fun hg => ?_) (fun hg => ?_) | refine WC_cond rfl (fun hc => ?_) (fun hc => ?_) | refine WC_condB rfl (fun hc => ?_) (fun hc => ?_))
  refine WQ_ret4 rfl rfl rfl rfl rfl ?_
  refine effPost heq ?_ (nilSlv _ _) (nilSlv _ _) (nilSlv _ _) hS
  first | rfl | (simp only [decide_eq_decide]; omega) | (symm; simp only [decide_eq_true_eq, decide_eq_false_iff_not]; omega) | (simp only [decide_eq_true_eq, decide_eq_false_iff_not]; omega)
end Go.Proofs.YtgpibcgebpgmiaaDoor

namespace Go.Eng
open Go
/-- a row of the reference's table: for which numbers, what it takes, what it gives -/
structure RwT where
  lo : Int
  hi : Int
  t : Str
  g : Str
instance : Flat RwT where
  k := 4
  enc := fun x => [.int .i64 x.lo, .int .i64 x.hi, str x.t, str x.g]
  len := fun _ => rfl
  one := by intro x u hu; simp at hu; rcases hu with rfl | rfl | rfl | rfl <;> rfl
end Go.Eng
namespace Go.Proofs.YtgpibcgebpgmiaaDoor
open Go Go.Eng Go.RowKit
set_option linter.unusedVariables false

theorem buildR4 (a b : Int) (s t : Str) (w : World) : (Instr.build 183 #[(0, .int .i64 a), (1, .int .i64 b), (2, str s), (3, str t)]).run Tryd.prog w = .ok (agg (RwT.mk a b s t)) w := by kernel_rfl
theorem buildSRw (x : RwT) (w : World) : (Instr.buildSlice 180 1 #[(0, agg x)]).run Tryd.prog w = .ok (.slice (some ⟨w.heap.size, 0, none⟩) 1 1) (w.alloc (.cells (Flat.enc x).toArray 183)) := by kernel_rfl
theorem buildSRw2 (x y : RwT) (w : World) : (Instr.buildSlice 180 2 #[(0, agg x), (1, agg y)]).run Tryd.prog w = .ok (.slice (some ⟨w.heap.size, 0, none⟩) 2 2) (w.alloc (.cells (Flat.enc x ++ Flat.enc y).toArray 183)) := by kernel_rfl
theorem buildSS7 (a b c d e f g : Str) (w : World) : (Instr.buildSlice 100 7 #[(0, str a), (1, str b), (2, str c), (3, str d), (4, str e), (5, str f), (6, str g)]).run Tryd.prog w = .ok (.slice (some ⟨w.heap.size, 0, none⟩) 7 7) (w.alloc (.cells #[str a, str b, str c, str d, str e, str f, str g] 9)) := by kernel_rfl
def fieldS : List Str := [[100], [100], [110], [110], [110], [110], [110]]
def rowsF (x : Ins) (a z : Nat) : List RwT :=
  if x.op = 1 then [⟨-2147483647, 2147483647, [], [110]⟩]
  else if x.op = 2 then [⟨0, 1, [], [98]⟩]
  else if x.op = 3 then [⟨0, 3652058, [], [100]⟩]
  else if x.op = 4 then (if 0 ≤ x.n ∧ x.n < 7 then [⟨0, 6, [], fieldS.getD x.n.toNat []⟩] else [])
  else if x.op = 5 ∨ x.op = 6 ∨ x.op = 7 then [⟨0, 0, [110, 110], [110]⟩]
  else if x.op = 8 then [⟨0, 0, [110], [110]⟩]
  else if x.op = 9 ∨ x.op = 10 ∨ x.op = 11 then [⟨0, 0, [110, 110], [98]⟩, ⟨0, 0, [100, 100], [98]⟩]
  else if x.op = 12 then [⟨0, 0, [98], [98]⟩]
  else if x.op = 13 then [⟨(a : Int) + 1, (z : Int) - 1, [], []⟩]
  else if x.op = 14 then [⟨(a : Int) + 1, (z : Int) - 1, [98], []⟩]
  else if x.op = 15 ∨ x.op = 16 ∨ x.op = 17 ∨ x.op = 18 then [⟨0, 0, [100, 110], [100]⟩]
  else if x.op = 19 ∨ x.op = 20 then [⟨0, 0, [100], [100]⟩]
  else if x.op = 21 ∨ x.op = 22 then [⟨0, 0, [100, 100], [100]⟩]
  else if x.op = 23 then [⟨0, 0, [100, 100], [110]⟩]
  else if x.op = 24 then [⟨0, 0, [], []⟩]
  else []
set_option maxHeartbeats 2000000 in
theorem rows_any (X : List Nat) (x : Ins) (a z : Nat) (w : World) (ha : a ≤ 100000) (hz : z ≤ 100000) (hX0 : ∀ b ∈ X, b < w.heap.size) :
    Calls Tryd.prog 131 #[agg x, .int .i64 (a : Int), .int .i64 (z : Int)] w (Ret fun r w' => SlV X w' r (rowsF x a z) ∧ Stp [] w w') := by
  refine calls_of_WC3 (n := 102) Tryd.func131 rfl rfl rfl ?_
  refine W ?_
  refine WL_eff (OE_box rfl) rfl ?_
  rintro _ w0 ⟨b, rfl, hb, hblk, hS⟩
  replace hblk : Blk w0 b _ [.int .i64 x.op, .int .i64 x.n] := hblk
  have hX : ∀ b ∈ X, b < w0.heap.size := fun b hb => Nat.lt_of_lt_of_le (hX0 b hb) hS.size
  refine W ?_
  refine WL_eff (OE_buildSlice (vs := [(0, str [100]), (1, str [100]), (2, str [110]), (3, str [110]), (4, str [110]), (5, str [110]), (6, str [110])]) rfl (buildSS7 _ _ _ _ _ _ _)) rfl ?_
  rintro fv w1 hN
  have s_f : SlV X w1 fv fieldS := hN.slv hX rfl rfl (by simp [fieldS, maxLen])
  have hT := NewSl.stp hN
  clear hN
  replace hblk := hblk.up hT
  replace hS := hS.trans hT
  replace hX := fun b hb => Nat.lt_of_lt_of_le (hX b hb) hT.size
  clear hT
  refine W ?_
  by_cases h1 : x.op = 1
  · have heq : rowsF x a z = [⟨-2147483647, 2147483647, [], [110]⟩] := by simp [rowsF, h1]
    repeat' (first | refine W1 ?_ | (exfalso; omega) | refine WL_split rfl rfl (fun hg => ?_) (fun hg => ?_) | refine WL_splitB rfl rfl (fun hg => ?_) (fun hg => ?_) | refine WC_cond rfl (fun hc => ?_) (fun hc => ?_) | refine WC_condB rfl (fun hc => ?_) (fun hc => ?_))
    all_goals
      refine W ?_
      apply WL_build (vs := [(0, .int .i64 _), (1, .int .i64 _), (2, str []), (3, str [110])]) rfl (buildR4 _ _ _ _) rfl
      refine WL_eff (OE_buildSlice (vs := [(0, agg (⟨-2147483647, 2147483647, [], [110]⟩ : RwT))]) rfl (buildSRw _)) rfl ?_
      rintro g wq hN
      have s_g : SlV X wq g [(⟨-2147483647, 2147483647, [], [110]⟩ : RwT)] := hN.slv hX rfl (by simp) (by simp [maxLen])
      have hT := NewSl.stp hN
      clear hN
      refine W ?_
      first | refine WQ_ret1 rfl rfl ?_ | refine WQ_ret2 rfl rfl rfl ?_ | refine WQ_ret3 rfl rfl rfl rfl ?_ | refine WQ_ret0 rfl ?_ | refine WQ_end0 rfl ?_
      refine .mk ⟨?_, hS.trans hT⟩
      rw [heq]
      exact s_g
  by_cases h2 : x.op = 2
  · have heq : rowsF x a z = [⟨0, 1, [], [98]⟩] := by simp [rowsF, h2]
    repeat' (first | refine W1 ?_ | (exfalso; omega) | refine WL_split rfl rfl (fun hg => ?_) (fun hg => ?_) | refine WL_splitB rfl rfl (fun hg => ?_) (fun hg => ?_) | refine WC_cond rfl (fun hc => ?_) (fun hc => ?_) | refine WC_condB rfl (fun hc => ?_) (fun hc => ?_))
    all_goals
      refine W ?_
      apply WL_build (vs := [(0, .int .i64 _), (1, .int .i64 _), (2, str []), (3, str [98])]) rfl (buildR4 _ _ _ _) rfl
      refine WL_eff (OE_buildSlice (vs := [(0, agg (⟨0, 1, [], [98]⟩ : RwT))]) rfl (buildSRw _)) rfl ?_
      rintro g wq hN
      have s_g : SlV X wq g [(⟨0, 1, [], [98]⟩ : RwT)] := hN.slv hX rfl (by simp) (by simp [maxLen])
      have hT := NewSl.stp hN
      clear hN
      refine W ?_
      first | refine WQ_ret1 rfl rfl ?_ | refine WQ_ret2 rfl rfl rfl ?_ | refine WQ_ret3 rfl rfl rfl rfl ?_ | refine WQ_ret0 rfl ?_ | refine WQ_end0 rfl ?_
      refine .mk ⟨?_, hS.trans hT⟩
      rw [heq]
      exact s_g
  by_cases h3 : x.op = 3
  · have heq : rowsF x a z = [⟨0, 3652058, [], [100]⟩] := by simp [rowsF, h3]
    repeat' (first | refine W1 ?_ | (exfalso; omega) | refine WL_split rfl rfl (fun hg => ?_) (fun hg => ?_) | refine WL_splitB rfl rfl (fun hg => ?_) (fun hg => ?_) | refine WC_cond rfl (fun hc => ?_) (fun hc => ?_) | refine WC_condB rfl (fun hc => ?_) (fun hc => ?_))
    all_goals
      refine W ?_
      apply WL_build (vs := [(0, .int .i64 _), (1, .int .i64 _), (2, str []), (3, str [100])]) rfl (buildR4 _ _ _ _) rfl
      refine WL_eff (OE_buildSlice (vs := [(0, agg (⟨0, 3652058, [], [100]⟩ : RwT))]) rfl (buildSRw _)) rfl ?_
      rintro g wq hN
      have s_g : SlV X wq g [(⟨0, 3652058, [], [100]⟩ : RwT)] := hN.slv hX rfl (by simp) (by simp [maxLen])
      have hT := NewSl.stp hN
      clear hN
      refine W ?_
      first | refine WQ_ret1 rfl rfl ?_ | refine WQ_ret2 rfl rfl rfl ?_ | refine WQ_ret3 rfl rfl rfl rfl ?_ | refine WQ_ret0 rfl ?_ | refine WQ_end0 rfl ?_
      refine .mk ⟨?_, hS.trans hT⟩
      rw [heq]
      exact s_g
  by_cases h4 : x.op = 4
  · by_cases hn : 0 ≤ x.n ∧ x.n < 7
    · have hlt : x.n.toNat < fieldS.length := by show x.n.toNat < 7; omega
      have hnn : x.n = (x.n.toNat : Int) := by omega
      have heq : rowsF x a z = [⟨0, 6, [], fieldS[x.n.toNat]⟩] := by
        unfold rowsF
        rw [if_neg h1, if_neg h2, if_neg h3, if_pos h4, if_pos hn]
        simp [List.getD, hlt]
      repeat' (first | refine W1 ?_ | (exfalso; omega) | refine WL_split rfl rfl (fun hg => ?_) (fun hg => ?_) | refine WL_splitB rfl rfl (fun hg => ?_) (fun hg => ?_) | refine WC_cond rfl (fun hc => ?_) (fun hc => ?_) | refine WC_condB rfl (fun hc => ?_) (fun hc => ?_))
      all_goals
        refine W ?_
        apply WL_build (vs := [(0, .int .i64 0), (1, .int .i64 6), (2, str []), (3, str _)]) rfl (buildR4 _ _ _ _) rfl
        refine WL_eff (OE_buildSlice (vs := [(0, agg (⟨0, 6, [], fieldS[x.n.toNat]⟩ : RwT))]) rfl (buildSRw _)) rfl ?_
        rintro g wq hN
        have s_g : SlV X wq g [(⟨0, 6, [], fieldS[x.n.toNat]⟩ : RwT)] := hN.slv hX rfl (by simp) (by simp [maxLen])
        have hT := NewSl.stp hN
        clear hN
        refine W ?_
        first | refine WQ_ret1 rfl rfl ?_ | refine WQ_ret2 rfl rfl rfl ?_ | refine WQ_ret3 rfl rfl rfl rfl ?_ | refine WQ_ret0 rfl ?_ | refine WQ_end0 rfl ?_
        refine .mk ⟨?_, hS.trans hT⟩
        rw [heq]
        exact s_g
    · have heq : rowsF x a z = [] := by
        unfold rowsF
        rw [if_neg h1, if_neg h2, if_neg h3, if_pos h4, if_neg hn]
      repeat' (first | refine W1 ?_ | (exfalso; omega) | refine WL_split rfl rfl (fun hg => ?_) (fun hg => ?_) | refine WL_splitB rfl rfl (fun hg => ?_) (fun hg => ?_) | refine WC_cond rfl (fun hc => ?_) (fun hc => ?_) | refine WC_condB rfl (fun hc => ?_) (fun hc => ?_))
      all_goals
        first | refine WQ_ret1 rfl rfl ?_ | refine WQ_ret2 rfl rfl rfl ?_ | refine WQ_ret3 rfl rfl rfl rfl ?_ | refine WQ_ret0 rfl ?_ | refine WQ_end0 rfl ?_
        refine .mk ⟨?_, hS⟩
        rw [heq]
        exact nilSlv _ _
  by_cases h5 : x.op = 5 ∨ x.op = 6 ∨ x.op = 7
  · have heq : rowsF x a z = [⟨0, 0, [110, 110], [110]⟩] := by rcases h5 with h | h | h <;> simp [rowsF, h]
    repeat' (first | refine W1 ?_ | (exfalso; omega) | refine WL_split rfl rfl (fun hg => ?_) (fun hg => ?_) | refine WL_splitB rfl rfl (fun hg => ?_) (fun hg => ?_) | refine WC_cond rfl (fun hc => ?_) (fun hc => ?_) | refine WC_condB rfl (fun hc => ?_) (fun hc => ?_))
    all_goals
      refine W ?_
      apply WL_build (vs := [(0, .int .i64 _), (1, .int .i64 _), (2, str [110, 110]), (3, str [110])]) rfl (buildR4 _ _ _ _) rfl
      refine WL_eff (OE_buildSlice (vs := [(0, agg (⟨0, 0, [110, 110], [110]⟩ : RwT))]) rfl (buildSRw _)) rfl ?_
      rintro g wq hN
      have s_g : SlV X wq g [(⟨0, 0, [110, 110], [110]⟩ : RwT)] := hN.slv hX rfl (by simp) (by simp [maxLen])
      have hT := NewSl.stp hN
      clear hN
      refine W ?_
      first | refine WQ_ret1 rfl rfl ?_ | refine WQ_ret2 rfl rfl rfl ?_ | refine WQ_ret3 rfl rfl rfl rfl ?_ | refine WQ_ret0 rfl ?_ | refine WQ_end0 rfl ?_
      refine .mk ⟨?_, hS.trans hT⟩
      rw [heq]
      exact s_g
  by_cases h8 : x.op = 8
  · have heq : rowsF x a z = [⟨0, 0, [110], [110]⟩] := by simp [rowsF, h8]
    repeat' (first | refine W1 ?_ | (exfalso; omega) | refine WL_split rfl rfl (fun hg => ?_) (fun hg => ?_) | refine WL_splitB rfl rfl (fun hg => ?_) (fun hg => ?_) | refine WC_cond rfl (fun hc => ?_) (fun hc => ?_) | refine WC_condB rfl (fun hc => ?_) (fun hc => ?_))
    all_goals
      refine W ?_
      apply WL_build (vs := [(0, .int .i64 _), (1, .int .i64 _), (2, str [110]), (3, str [110])]) rfl (buildR4 _ _ _ _) rfl
      refine WL_eff (OE_buildSlice (vs := [(0, agg (⟨0, 0, [110], [110]⟩ : RwT))]) rfl (buildSRw _)) rfl ?_
      rintro g wq hN
      have s_g : SlV X wq g [(⟨0, 0, [110], [110]⟩ : RwT)] := hN.slv hX rfl (by simp) (by simp [maxLen])
      have hT := NewSl.stp hN
      clear hN
      refine W ?_
      first | refine WQ_ret1 rfl rfl ?_ | refine WQ_ret2 rfl rfl rfl ?_ | refine WQ_ret3 rfl rfl rfl rfl ?_ | refine WQ_ret0 rfl ?_ | refine WQ_end0 rfl ?_
      refine .mk ⟨?_, hS.trans hT⟩
      rw [heq]
      exact s_g
  by_cases h9 : x.op = 9 ∨ x.op = 10 ∨ x.op = 11
  · have heq : rowsF x a z = [⟨0, 0, [110, 110], [98]⟩, ⟨0, 0, [100, 100], [98]⟩] := by rcases h9 with h | h | h <;> simp [rowsF, h]
    repeat' (first | refine W1 ?_ | (exfalso; omega) | refine WL_split rfl rfl (fun hg => ?_) (fun hg => ?_) | refine WL_splitB rfl rfl (fun hg => ?_) (fun hg => ?_) | refine WC_cond rfl (fun hc => ?_) (fun hc => ?_) | refine WC_condB rfl (fun hc => ?_) (fun hc => ?_))
    all_goals
      refine W ?_
      apply WL_build (vs := [(0, .int .i64 _), (1, .int .i64 _), (2, str [110, 110]), (3, str [98])]) rfl (buildR4 _ _ _ _) rfl
      refine W ?_
      apply WL_build (vs := [(0, .int .i64 _), (1, .int .i64 _), (2, str [100, 100]), (3, str [98])]) rfl (buildR4 _ _ _ _) rfl
      refine WL_eff (OE_buildSlice (vs := [(0, agg (⟨0, 0, [110, 110], [98]⟩ : RwT)), (1, agg (⟨0, 0, [100, 100], [98]⟩ : RwT))]) rfl (buildSRw2 _ _)) rfl ?_
      rintro g wq hN
      have s_g : SlV X wq g [(⟨0, 0, [110, 110], [98]⟩ : RwT), (⟨0, 0, [100, 100], [98]⟩ : RwT)] := hN.slv hX rfl (by simp) (by simp [maxLen])
      have hT := NewSl.stp hN
      clear hN
      refine W ?_
      first | refine WQ_ret1 rfl rfl ?_ | refine WQ_ret2 rfl rfl rfl ?_ | refine WQ_ret3 rfl rfl rfl rfl ?_ | refine WQ_ret0 rfl ?_ | refine WQ_end0 rfl ?_
      refine .mk ⟨?_, hS.trans hT⟩
      rw [heq]
      exact s_g
  by_cases h12 : x.op = 12
  · have heq : rowsF x a z = [⟨0, 0, [98], [98]⟩] := by simp [rowsF, h12]
    repeat' (first | refine W1 ?_ | (exfalso; omega) | refine WL_split rfl rfl (fun hg => ?_) (fun hg => ?_) | refine WL_splitB rfl rfl (fun hg => ?_) (fun hg => ?_) | refine WC_cond rfl (fun hc => ?_) (fun hc => ?_) | refine WC_condB rfl (fun hc => ?_) (fun hc => ?_))
    all_goals
      refine W ?_
      apply WL_build (vs := [(0, .int .i64 _), (1, .int .i64 _), (2, str [98]), (3, str [98])]) rfl (buildR4 _ _ _ _) rfl
      refine WL_eff (OE_buildSlice (vs := [(0, agg (⟨0, 0, [98], [98]⟩ : RwT))]) rfl (buildSRw _)) rfl ?_
      rintro g wq hN
      have s_g : SlV X wq g [(⟨0, 0, [98], [98]⟩ : RwT)] := hN.slv hX rfl (by simp) (by simp [maxLen])
      have hT := NewSl.stp hN
      clear hN
      refine W ?_
      first | refine WQ_ret1 rfl rfl ?_ | refine WQ_ret2 rfl rfl rfl ?_ | refine WQ_ret3 rfl rfl rfl rfl ?_ | refine WQ_ret0 rfl ?_ | refine WQ_end0 rfl ?_
      refine .mk ⟨?_, hS.trans hT⟩
      rw [heq]
      exact s_g
  by_cases h13 : x.op = 13
  · have heq : rowsF x a z = [⟨(a : Int) + 1, (z : Int) - 1, [], []⟩] := by simp [rowsF, h13]
    repeat' (first | refine W1 ?_ | (exfalso; omega) | refine WL_split rfl rfl (fun hg => ?_) (fun hg => ?_) | refine WL_splitB rfl rfl (fun hg => ?_) (fun hg => ?_) | refine WC_cond rfl (fun hc => ?_) (fun hc => ?_) | refine WC_condB rfl (fun hc => ?_) (fun hc => ?_))
    all_goals
      refine W ?_
      apply WL_build (vs := [(0, .int .i64 _), (1, .int .i64 _), (2, str []), (3, str [])]) rfl (buildR4 _ _ _ _) rfl
      refine WL_eff (OE_buildSlice (vs := [(0, agg (⟨(a : Int) + 1, (z : Int) - 1, [], []⟩ : RwT))]) rfl (buildSRw _)) rfl ?_
      rintro g wq hN
      have s_g : SlV X wq g [(⟨(a : Int) + 1, (z : Int) - 1, [], []⟩ : RwT)] := hN.slv hX rfl (by simp) (by simp [maxLen])
      have hT := NewSl.stp hN
      clear hN
      refine W ?_
      first | refine WQ_ret1 rfl rfl ?_ | refine WQ_ret2 rfl rfl rfl ?_ | refine WQ_ret3 rfl rfl rfl rfl ?_ | refine WQ_ret0 rfl ?_ | refine WQ_end0 rfl ?_
      refine .mk ⟨?_, hS.trans hT⟩
      rw [heq]
      exact s_g
  by_cases h14 : x.op = 14
  · have heq : rowsF x a z = [⟨(a : Int) + 1, (z : Int) - 1, [98], []⟩] := by simp [rowsF, h14]
    repeat' (first | refine W1 ?_ | (exfalso; omega) | refine WL_split rfl rfl (fun hg => ?_) (fun hg => ?_) | refine WL_splitB rfl rfl (fun hg => ?_) (fun hg => ?_) | refine WC_cond rfl (fun hc => ?_) (fun hc => ?_) | refine WC_condB rfl (fun hc => ?_) (fun hc => ?_))
    all_goals
      refine W ?_
      apply WL_build (vs := [(0, .int .i64 _), (1, .int .i64 _), (2, str [98]), (3, str [])]) rfl (buildR4 _ _ _ _) rfl
      refine WL_eff (OE_buildSlice (vs := [(0, agg (⟨(a : Int) + 1, (z : Int) - 1, [98], []⟩ : RwT))]) rfl (buildSRw _)) rfl ?_
      rintro g wq hN
      have s_g : SlV X wq g [(⟨(a : Int) + 1, (z : Int) - 1, [98], []⟩ : RwT)] := hN.slv hX rfl (by simp) (by simp [maxLen])
      have hT := NewSl.stp hN
      clear hN
      refine W ?_
      first | refine WQ_ret1 rfl rfl ?_ | refine WQ_ret2 rfl rfl rfl ?_ | refine WQ_ret3 rfl rfl rfl rfl ?_ | refine WQ_ret0 rfl ?_ | refine WQ_end0 rfl ?_
      refine .mk ⟨?_, hS.trans hT⟩
      rw [heq]
      exact s_g
  by_cases h15 : x.op = 15 ∨ x.op = 16 ∨ x.op = 17 ∨ x.op = 18
  · have heq : rowsF x a z = [⟨0, 0, [100, 110], [100]⟩] := by rcases h15 with h | h | h | h <;> simp [rowsF, h]
    repeat' (first | refine W1 ?_ | (exfalso; omega) | refine WL_split rfl rfl (fun hg => ?_) (fun hg => ?_) | refine WL_splitB rfl rfl (fun hg => ?_) (fun hg => ?_) | refine WC_cond rfl (fun hc => ?_) (fun hc => ?_) | refine WC_condB rfl (fun hc => ?_) (fun hc => ?_))
    all_goals
      refine W ?_
      apply WL_build (vs := [(0, .int .i64 _), (1, .int .i64 _), (2, str [100, 110]), (3, str [100])]) rfl (buildR4 _ _ _ _) rfl
      refine WL_eff (OE_buildSlice (vs := [(0, agg (⟨0, 0, [100, 110], [100]⟩ : RwT))]) rfl (buildSRw _)) rfl ?_
      rintro g wq hN
      have s_g : SlV X wq g [(⟨0, 0, [100, 110], [100]⟩ : RwT)] := hN.slv hX rfl (by simp) (by simp [maxLen])
      have hT := NewSl.stp hN
      clear hN
      refine W ?_
      first | refine WQ_ret1 rfl rfl ?_ | refine WQ_ret2 rfl rfl rfl ?_ | refine WQ_ret3 rfl rfl rfl rfl ?_ | refine WQ_ret0 rfl ?_ | refine WQ_end0 rfl ?_
      refine .mk ⟨?_, hS.trans hT⟩
      rw [heq]
      exact s_g
  by_cases h19 : x.op = 19 ∨ x.op = 20
  · have heq : rowsF x a z = [⟨0, 0, [100], [100]⟩] := by rcases h19 with h | h <;> simp [rowsF, h]
    repeat' (first | refine W1 ?_ | (exfalso; omega) | refine WL_split rfl rfl (fun hg => ?_) (fun hg => ?_) | refine WL_splitB rfl rfl (fun hg => ?_) (fun hg => ?_) | refine WC_cond rfl (fun hc => ?_) (fun hc => ?_) | refine WC_condB rfl (fun hc => ?_) (fun hc => ?_))
    all_goals
      refine W ?_
      apply WL_build (vs := [(0, .int .i64 _), (1, .int .i64 _), (2, str [100]), (3, str [100])]) rfl (buildR4 _ _ _ _) rfl
      refine WL_eff (OE_buildSlice (vs := [(0, agg (⟨0, 0, [100], [100]⟩ : RwT))]) rfl (buildSRw _)) rfl ?_
      rintro g wq hN
      have s_g : SlV X wq g [(⟨0, 0, [100], [100]⟩ : RwT)] := hN.slv hX rfl (by simp) (by simp [maxLen])
      have hT := NewSl.stp hN
      clear hN
      refine W ?_
      first | refine WQ_ret1 rfl rfl ?_ | refine WQ_ret2 rfl rfl rfl ?_ | refine WQ_ret3 rfl rfl rfl rfl ?_ | refine WQ_ret0 rfl ?_ | refine WQ_end0 rfl ?_
      refine .mk ⟨?_, hS.trans hT⟩
      rw [heq]
      exact s_g
  by_cases h21 : x.op = 21 ∨ x.op = 22
  · have heq : rowsF x a z = [⟨0, 0, [100, 100], [100]⟩] := by rcases h21 with h | h <;> simp [rowsF, h]
    repeat' (first | refine W1 ?_ | (exfalso; omega) | refine WL_split rfl rfl (fun hg => ?_) (fun hg => ?_) | refine WL_splitB rfl rfl (fun hg => ?_) (fun hg => ?_) | refine WC_cond rfl (fun hc => ?_) (fun hc => ?_) | refine WC_condB rfl (fun hc => ?_) (fun hc => ?_))
    all_goals
      refine W ?_
      apply WL_build (vs := [(0, .int .i64 _), (1, .int .i64 _), (2, str [100, 100]), (3, str [100])]) rfl (buildR4 _ _ _ _) rfl
      refine WL_eff (OE_buildSlice (vs := [(0, agg (⟨0, 0, [100, 100], [100]⟩ : RwT))]) rfl (buildSRw _)) rfl ?_
      rintro g wq hN
      have s_g : SlV X wq g [(⟨0, 0, [100, 100], [100]⟩ : RwT)] := hN.slv hX rfl (by simp) (by simp [maxLen])
      have hT := NewSl.stp hN
      clear hN
      refine W ?_
      first | refine WQ_ret1 rfl rfl ?_ | refine WQ_ret2 rfl rfl rfl ?_ | refine WQ_ret3 rfl rfl rfl rfl ?_ | refine WQ_ret0 rfl ?_ | refine WQ_end0 rfl ?_
      refine .mk ⟨?_, hS.trans hT⟩
      rw [heq]
      exact s_g
  by_cases h23 : x.op = 23
  · have heq : rowsF x a z = [⟨0, 0, [100, 100], [110]⟩] := by simp [rowsF, h23]
    repeat' (first | refine W1 ?_ | (exfalso; omega) | refine WL_split rfl rfl (fun hg => ?_) (fun hg => ?_) | refine WL_splitB rfl rfl (fun hg => ?_) (fun hg => ?_) | refine WC_cond rfl (fun hc => ?_) (fun hc => ?_) | refine WC_condB rfl (fun hc => ?_) (fun hc => ?_))
    all_goals
      refine W ?_
      apply WL_build (vs := [(0, .int .i64 _), (1, .int .i64 _), (2, str [100, 100]), (3, str [110])]) rfl (buildR4 _ _ _ _) rfl
      refine WL_eff (OE_buildSlice (vs := [(0, agg (⟨0, 0, [100, 100], [110]⟩ : RwT))]) rfl (buildSRw _)) rfl ?_
      rintro g wq hN
      have s_g : SlV X wq g [(⟨0, 0, [100, 100], [110]⟩ : RwT)] := hN.slv hX rfl (by simp) (by simp [maxLen])
      have hT := NewSl.stp hN
      clear hN
      refine W ?_
      first | refine WQ_ret1 rfl rfl ?_ | refine WQ_ret2 rfl rfl rfl ?_ | refine WQ_ret3 rfl rfl rfl rfl ?_ | refine WQ_ret0 rfl ?_ | refine WQ_end0 rfl ?_
      refine .mk ⟨?_, hS.trans hT⟩
      rw [heq]
      exact s_g
  by_cases h24 : x.op = 24
  · have heq : rowsF x a z = [⟨0, 0, [], []⟩] := by simp [rowsF, h24]
    repeat' (first | refine W1 ?_ | (exfalso; omega) | refine WL_split rfl rfl (fun hg => ?_) (fun hg => ?_) | refine WL_splitB rfl rfl (fun hg => ?_) (fun hg => ?_) | refine WC_cond rfl (fun hc => ?_) (fun hc => ?_) | refine WC_condB rfl (fun hc => ?_) (fun hc => ?_))
    all_goals
      refine W ?_
      apply WL_build (vs := [(0, .int .i64 _), (1, .int .i64 _), (2, str []), (3, str [])]) rfl (buildR4 _ _ _ _) rfl
      refine WL_eff (OE_buildSlice (vs := [(0, agg (⟨0, 0, [], []⟩ : RwT))]) rfl (buildSRw _)) rfl ?_
      rintro g wq hN
      have s_g : SlV X wq g [(⟨0, 0, [], []⟩ : RwT)] := hN.slv hX rfl (by simp) (by simp [maxLen])
      have hT := NewSl.stp hN
      clear hN
      refine W ?_
      first | refine WQ_ret1 rfl rfl ?_ | refine WQ_ret2 rfl rfl rfl ?_ | refine WQ_ret3 rfl rfl rfl rfl ?_ | refine WQ_ret0 rfl ?_ | refine WQ_end0 rfl ?_
      refine .mk ⟨?_, hS.trans hT⟩
      rw [heq]
      exact s_g
  have heq : rowsF x a z = [] := by simp [rowsF, h1, h2, h3, h4, h5, h8, h9, h12, h13, h14, h15, h19, h21, h23, h24]
  repeat' (first | refine W1 ?_ | (exfalso; omega) | refine WL_split rfl rfl (fun hg => ?_) (fun hg => ?_) | refine WL_splitB rfl rfl (fun hg => ?_) (fun hg => ?_) | refine WC_cond rfl (fun hc => ?_) (fun hc => ?_) | refine WC_condB rfl (fun hc => ?_) (fun hc => ?_))
  first | refine WQ_ret1 rfl rfl ?_ | refine WQ_ret2 rfl rfl rfl ?_ | refine WQ_ret3 rfl rfl rfl rfl ?_ | refine WQ_ret0 rfl ?_ | refine WQ_end0 rfl ?_
  refine .mk ⟨?_, hS⟩
  rw [heq]
  exact nilSlv _ _
end Go.Proofs.YtgpibcgebpgmiaaDoor

namespace Go.Proofs.YtgpibcgebpgmiaaDoor
open Go Go.Eng Go.RowKit
set_option linter.unusedVariables false

theorem field15_any (s : Str) (w : World) : Calls Tryd.prog 60 #[str s] w (Ret fun r w' => (∀ X, NdV X w' r (.mk 4 0 s [])) ∧ Stp [] w w') := by
  refine calls_of_WC1 (n := 5) Tryd.func60 rfl rfl rfl ?_
  refine W ?_
  refine WL_eff OE_alloc rfl ?_
  rintro _ w1 ⟨b, rfl, hb, hblk, hS⟩
  refine W ?_
  apply WL_build (vs := [(0, .int .i64 4), (2, str s)]) rfl (buildN02 _ _) rfl
  refine WL_eff0 (OE_storeA (us := ndC (.mk 4 0 s []) (.slice none 0 0)) rfl rfl rfl rfl (ndC_one (x := .mk 4 0 s []) (nilSlv (α := Nd) [] w)) hblk rfl) ?_
  rintro _ w2 ⟨hS2, hblk2⟩
  refine W ?_
  refine WQ_retc rfl rfl rfl hblk2 rfl ?_
  exact .mk ⟨fun X => ⟨_, rfl, nilSlv _ _⟩, hS.own hS2 (fun c hc => .inr (by simp at hc; omega))⟩
theorem number15_any (n : Int) (w : World) : Calls Tryd.prog 61 #[.int .i64 n] w (Ret fun r w' => (∀ X, NdV X w' r (.mk 1 n [] [])) ∧ Stp [] w w') := by
  refine calls_of_WC1 (n := 5) Tryd.func61 rfl rfl rfl ?_
  refine W ?_
  refine WL_eff OE_alloc rfl ?_
  rintro _ w1 ⟨b, rfl, hb, hblk, hS⟩
  refine W ?_
  apply WL_build (vs := [(0, .int .i64 1), (1, .int .i64 n)]) rfl (buildN01 _ _) rfl
  refine WL_eff0 (OE_storeA (us := ndC (.mk 1 n [] []) (.slice none 0 0)) rfl rfl rfl rfl (ndC_one (x := .mk 1 n [] []) (nilSlv (α := Nd) [] w)) hblk rfl) ?_
  rintro _ w2 ⟨hS2, hblk2⟩
  refine W ?_
  refine WQ_retc rfl rfl rfl hblk2 rfl ?_
  exact .mk ⟨fun X => ⟨_, rfl, nilSlv _ _⟩, hS.own hS2 (fun c hc => .inr (by simp at hc; omega))⟩
theorem binary15_any (X : List Nat) (s : Str) (u0 u1 : Value) (y0 y1 : Nd) (w : World) (hX0 : ∀ b ∈ X, b < w.heap.size) (h0 : NdV X w u0 y0) (h1 : NdV X w u1 y1) :
    Calls Tryd.prog 62 #[str s, u0, u1] w (Ret fun r w' => NdV X w' r (.mk 6 0 s [y0, y1]) ∧ Stp [] w w') := by
  obtain ⟨k0, rfl, s0⟩ := h0
  obtain ⟨k1, rfl, s1⟩ := h1
  obtain ⟨p0, c0, rfl, -⟩ := id s0
  obtain ⟨p1, c1, rfl, -⟩ := id s1
  refine calls_of_WC3 (n := 12) Tryd.func62 rfl rfl rfl ?_
  refine W ?_
  refine WL_eff (OE_box rfl) rfl ?_
  rintro _ w1 ⟨b1, rfl, hb1, e1, hS1⟩
  replace e1 : Blk w1 b1 _ (ndC y0 (.slice p0 y0.kids.length c0)) := e1
  refine WL_eff (OE_box rfl) rfl ?_
  rintro _ w2 ⟨b2, rfl, hb2, e2, hS2⟩
  replace e2 : Blk w2 b2 _ (ndC y1 (.slice p1 y1.kids.length c1)) := e2
  replace e1 := e1.up hS2
  have hS := hS1.trans hS2
  clear hS1 hS2
  refine WL_eff OE_alloc rfl ?_
  rintro _ w3 ⟨b, rfl, hb, hblk, hS3⟩
  replace e1 := e1.up hS3
  replace e2 := e2.up hS3
  have hz := hS.size
  replace hS := hS.trans hS3
  have hw : ∀ c ∈ b :: X, c ∈ X ∨ w.heap.size ≤ c := fun c hc => by
    rcases List.mem_cons.1 hc with rfl | h
    · right; omega
    · exact .inl h
  replace s0 := s0.ext hS (by simp) hw
  replace s1 := s1.ext hS (by simp) hw
  have hX : ∀ c ∈ b :: X, c < w3.heap.size := fun c hc => by
    rcases List.mem_cons.1 hc with rfl | h
    · exact hblk.lt
    · exact Nat.lt_of_lt_of_le (hX0 c h) hS.size
  refine W ?_
  refine WL_eff (OE_buildSlice (vs := [(0, .agg #[.int .i64 y0.kind, .int .i64 y0.num, str y0.word, .slice p0 y0.kids.length c0]), (1, .agg #[.int .i64 y1.kind, .int .i64 y1.num, str y1.word, .slice p1 y1.kids.length c1])]) rfl (buildSN2 _ _ _ _ _ _ _ _ _ _ _ _)) rfl ?_
  rintro bv w4 hN
  have hbv : SlV (b :: X) w4 bv [y0, y1] := hN.slvG (css := [ndC y0 _, ndC y1 _]) hX rfl rfl rfl (reps2 s0 s1) (by simp [maxLen])
  have hT := NewSl.stp hN
  clear hN
  replace hblk := hblk.up hT
  replace hS := hS.trans hT
  obtain ⟨p, c, rfl, -⟩ := id hbv
  apply WL_build (vs := [(0, .int .i64 6), (2, str s), (3, .slice p 2 c)]) rfl (buildN023 _ _ _ _ _) rfl
  have hlt := hblk.lt
  refine WL_eff0 (OE_storeA (us := ndC (.mk 6 0 s [y0, y1]) (.slice p 2 c)) rfl rfl rfl rfl (ndC_one (x := .mk 6 0 s [y0, y1]) hbv) hblk rfl) ?_
  rintro _ w5 ⟨hS5, hblk5⟩
  refine W ?_
  refine WQ_retc rfl rfl rfl hblk5 rfl ?_
  refine .mk ⟨⟨_, rfl, ?_⟩, hS.own hS5 (fun c hc => .inr (by simp at hc; omega))⟩
  exact (hbv.ext (X' := b :: X) hS5 (by simp) (fun _ h => .inl h)).wk (fun c hc => List.mem_cons_of_mem _ hc)
end Go.Proofs.YtgpibcgebpgmiaaDoor

namespace Go.Proofs.YtgpibcgebpgmiaaDoor
open Go Go.Eng Go.RowKit
set_option linter.unusedVariables false

/-! ### what both verifiers compute -/
abbrev Shp := List Int
/-- the shape behind an operation -/
def nextM (x : Ins) (s : Shp) : Option Shp :=
  let e := effF x
  let k := s.length - e.1.length
  if e.2.2.2 = true ∧ e.1.length ≤ s.length ∧ (s.drop k = e.1 ∨ e.2.1 ≠ [] ∧ s.drop k = e.2.1) ∧ (s.take k ++ e.2.2.1).length ≤ 16 then some (s.take k ++ e.2.2.1) else none
/-- a place is reached with a shape -/
def reachM (st : List (Option Shp)) (t : Int) (sh : Shp) : Option (List (Option Shp)) :=
  if 0 ≤ t ∧ t < st.length then
    match st.getD t.toNat none with
    | some s => if s = sh then some st else none
    | none => some (st.set t.toNat (some sh))
  else none
/-- one step; none: the code is bad -/
def stepM (st : List (Option Shp)) (i : Nat) (x : Ins) : Option (List (Option Shp)) :=
  match st.getD i none with
  | none => none
  | some s =>
    match nextM x s with
    | none => none
    | some nx =>
      if x.op = 24 then (if i + 1 = st.length ∧ s.length = 1 then some st else none)
      else if x.op = 13 then (if x.n > i then reachM st x.n nx else none)
      else if x.op = 14 then (if x.n > i then (reachM st x.n nx).bind (fun st' => reachM st' ((i : Int) + 1) nx) else none)
      else reachM st ((i : Int) + 1) nx
def runM (code : List Ins) : Nat → List (Option Shp) → Option (List (Option Shp))
  | 0, st => some st
  | k + 1, st => (runM code k st).bind (fun st' => stepM st' k (code.getD k ⟨0, 0⟩))
/-- the kind and the error of a code -/
def verM (code : List Ins) : Int × Int :=
  if code.length = 0 ∨ code.length > 200 then (0, 22) else
    match runM code code.length ((some []) :: List.replicate (code.length - 1) none) with
    | none => (0, 22)
    | some st => (((st.getD (code.length - 1) none).getD []).headD 0, 0)
theorem reachM_len {st st' : List (Option Shp)} {t : Int} {sh : Shp} (h : reachM st t sh = some st') : st'.length = st.length := by
  unfold reachM at h
  split at h
  · split at h
    · split at h
      · cases h; rfl
      · cases h
    · cases h; simp
  · cases h
example : verM [⟨4, 0⟩, ⟨1, 3⟩, ⟨15, 0⟩, ⟨24, 0⟩] = (3, 0) := by decide
example : verM [⟨24, 0⟩] = (0, 22) := by decide
end Go.Proofs.YtgpibcgebpgmiaaDoor
/-
A new slice of zeros, one cell to an element.
-/
namespace Go.Eng
open Go Go.RowKit Go.Proofs
set_option linter.unusedVariables false
variable {P : Program} {n : Nat} {e : Env} {w : World} {d : Option Nat} {ty : TypeId} {pos : String} {af : Array Edge} {g : Option (Nat × Bool)}
theorem flatten_replicate_one (k : Nat) (u : Value) : (List.replicate k [u]).flatten = List.replicate k u := by
  induction k with
  | zero => rfl
  | succ k ih => rw [List.replicate_succ, List.flatten_cons, ih]; rfl
theorem OE_makeSlice1 {α : Type} [GoRep α] {t T bytes k : Nat} {x y : Operand} {z u : Value} {a0 : α} [ht : Und P t (.slice T)] [hk : Siz P T 1] [hb : Byt P T bytes] [hz : Zer P T z] (hk1 : GoRep.k α = 1) (hzu : z.cells = #[u]) (hrep : ∀ (X : List Nat) (w : World), GoRep.rep X w a0 [u])
    (hx : ev e x = some (.int .i64 (k : Int))) (hy : ev e y = some (.int .i64 (k : Int))) (hkm : k ≤ maxLen) (hbytes : bytes * k ≤ 281474976710656) :
    OE P n ⟨d, .makeSlice t x y, ty, pos, af, g⟩ e w (fun v w' => (∀ X, Row X w' w.heap.size T v (List.replicate k a0)) ∧ Stp [] w w') := by
  obtain ⟨i, hi, hi1, hi2, hi3⟩ : ∃ i, P.info? T = some i ∧ i.size = 1 ∧ i.bytes = bytes ∧ i.zero = some z := by
    have a1 := hk.h
    have a2 := hb.h
    have a3 := hz.h
    cases hi : P.info? T with
    | none => simp [hi] at a1
    | some i => exact ⟨i, rfl, by simpa [hi] using a1, by simpa [hi] using a2, by simpa [hi] using a3⟩
  obtain ⟨w', hrun, hown, hgr⟩ := run_make_full (P := P) w w.heap.size t T i z 1 ht.h hi hi3 hi1 .i64 .i64 k (by rw [hi2]; exact hbytes) hkm (Nat.le_refl _)
  rw [hzu, Nat.mul_one, toList_madeCells_one] at hown
  refine OE_value (v := .slice (some ⟨w.heap.size, 0, none⟩) k k) (w' := w') (fun a ha => ?_) ⟨fun X => ⟨List.replicate k [u], by simp, fun j hj hj' => ?_, ?_⟩, Stp.of_grown hgr⟩
  · simp [execOp, ha.ev hx, ha.ev hy, hrun]
  · rw [List.getElem_replicate, List.getElem_replicate]
    exact hrep _ _
  · rw [flatten_replicate_one, hk1, List.length_replicate]
    exact hown
end Go.Eng
/-
An element of a row is written: the other blocks may lie anywhere.
-/
namespace Go.Eng
open Go Go.RowKit Go.Proofs
set_option linter.unusedVariables false
section
variable {P : Program} {n : Nat} {e : Env} {d : Option Nat} {ty : TypeId} {pos : String} {af : Array Edge} {g : Option (Nat × Bool)}
variable {α : Type} [GoRep α] {X : List Nat} {w w' : World} {base T : Nat} {v : Value} {xs : List α}
theorem OE_storeElX {i k : Nat} {t : TypeId} {x y : Operand} {u : Value} {y' : α} [hsz : Siz P t k] (hx : ev e x = some (.pointer (some (elAddr v i k 0)))) (hy : ev e y = some u) (hk : k = GoRep.k α)
    (hr' : GoRep.rep (ob v ++ X) w y' u.cells.toList) (hrow : Row X w base T v xs) (hi : i < xs.length) :
    OE P n ⟨d, .store t x y, ty, pos, af, g⟩ e w (fun _ w' => Row X w' base T v (xs.set i y') ∧ Stp (ob v) w w') := by
  have hrow0 := hrow
  obtain ⟨css, hl, hr, ho⟩ := hrow
  have hlen : ∀ c ∈ css, c.length = GoRep.k α := by
    intro c hc
    obtain ⟨q, hq, rfl⟩ := List.getElem_of_mem hc
    exact GoRep.len (hr q (by omega) hq)
  rcases ho.2 with ⟨rfl, hn⟩ | ⟨q, cap, cur, rfl, hb, hg, hnc, hcm, hcs, ht⟩
  · omega
  · subst hk
    have hul : u.cells.toList.length = GoRep.k α := GoRep.len hr'
    have hfit : i * GoRep.k α + u.cells.toList.length ≤ cur.size := by
      rw [hul, hcs, ← Nat.succ_mul]
      exact Nat.mul_le_mul_right _ (by omega)
    have hst := run_storeCells_at P q (i * GoRep.k α) T u.cells.toList 0 cur w hg (by simpa using hfit) (GoRep.one hr')
    simp only [Nat.add_zero] at hst
    have hus : u.cells.size = GoRep.k α := by simpa using hul
    have hSt : Stp [q] w (w.setRow q (cur.toList.take (i * GoRep.k α) ++ u.cells.toList ++ cur.toList.drop (i * GoRep.k α + u.cells.toList.length)).toArray) := setRow_stp _ _ _
    refine OE_skip (w' := w.setRow q (cur.toList.take (i * GoRep.k α) ++ u.cells.toList ++ cur.toList.drop (i * GoRep.k α + u.cells.toList.length)).toArray) (fun a ha => ?_) ⟨⟨css.set i u.cells.toList, by simp [hl], fun j hj hj' => ?_, ?_, .inr ⟨q, cap, _, by simp, hb, setRow_heap w q cur _ T (0, 0) hg, by simpa using hnc, hcm, ?_, ?_⟩⟩, hSt⟩
    · have hel : elAddr (.slice (some ⟨q, 0, none⟩) xs.length cap) i (GoRep.k α) 0 = ⟨q, i * GoRep.k α, none⟩ := by simp [elAddr]
      rw [hel] at hx
      simp [execOp, ha.ev hx, ha.ev hy, Instr.storeAt, Instr.sureAddr, storeVar, Siz.run, hus, hst]
    · have hS1 : ∀ b ∈ [q], b ∈ ob (.slice (some ⟨q, 0, none⟩) xs.length cap) ++ X := by simp [ob]
      by_cases hij : i = j
      · subst hij
        simp only [List.getElem_set_self]
        exact GoRep.ext hr' hSt hS1 (fun b hb => .inl hb)
      · simp only [List.getElem_set_ne hij]
        exact GoRep.ext (hr j (by simpa using hj) (by simpa using hj')) hSt hS1 (fun b hb => .inl hb)
    · rw [flatten_set css hlen i (by omega)]
      have h1 := ho.1
      simp only [List.length_append, List.length_take, List.length_drop, List.length_set, hul, h1]
      have : (i + 1) * GoRep.k α ≤ xs.length * GoRep.k α := Nat.mul_le_mul_right _ (by omega)
      rw [Nat.succ_mul] at this
      omega
    · simp only [List.size_toArray, List.length_append, List.length_take, List.length_drop, Array.length_toList, hul, hcs]
      rw [hul, hcs] at hfit
      omega
    · rw [flatten_set css hlen i (by omega), ← ht]
      have h2 : (i + 1) * GoRep.k α ≤ xs.length * GoRep.k α := Nat.mul_le_mul_right _ (by omega)
      rw [Nat.succ_mul] at h2
      have h3 : i * GoRep.k α ≤ cur.toList.length := by simp [hcs]; exact Nat.le_trans (by omega) (Nat.mul_le_mul_right _ hnc)
      simp only [List.length_set, hul]
      rw [List.take_append, List.take_append, List.take_take, List.take_take, List.drop_take]
      simp only [List.length_append, List.length_take, hul]
      rw [Nat.min_eq_left h3, List.take_of_length_le (l := u.cells.toList) (by rw [hul]; omega)]
      rw [Nat.min_eq_right (by omega : i * GoRep.k α ≤ xs.length * GoRep.k α), Nat.min_eq_left (by omega : i * GoRep.k α ≤ xs.length * GoRep.k α)]

end
end Go.Eng

namespace Go.Eng
open Go Go.RowKit Go.Proofs
theorem Row.slvX {α : Type} [GoRep α] {X : List Nat} {w : World} {base T : Nat} {v : Value} {xs : List α} (h : Row X w base T v xs) (hX : ∀ b ∈ X, b ∉ ob v) : SlV X w v xs := by
  obtain ⟨css, hl, hr, ho⟩ := h
  have hk : ∀ c ∈ css, c.length = GoRep.k α := by
    intro c hc
    obtain ⟨i, hi, rfl⟩ := List.getElem_of_mem hc
    exact GoRep.len (hr i (by omega) hi)
  rcases ho.2 with ⟨rfl, hn⟩ | ⟨q, cap, cur, rfl, hb, hg, hnc, hcm, hcs, ht⟩
  · exact ⟨none, 0, by rw [hn], by omega, by simp [maxLen], fun _ => rfl, fun i hi => by omega⟩
  · refine ⟨some ⟨q, 0, none⟩, cap, rfl, hnc, hcm, fun h => by simp at h, fun i hi => ?_⟩
    refine ⟨q, 0, css[i]'(by omega), rfl, (Array.getElem?_eq_some_iff.1 hg).1, fun hx => hX q hx (by simp [ob]), ?_, fun j u hu => ?_⟩
    · exact GoRep.ext (hr i hi (by omega)) (Stp.refl [] w) (by simp) (fun b hb => .inl (by simp [hb]))
    · have h1 := flatten_at css hk i (by omega) j u hu
      rw [← ht, List.getElem?_take] at h1
      split at h1
      · have h2 : cur[i * GoRep.k α + j]? = some u := by simpa using h1
        rw [Nat.zero_add, cell_of_row w q _ cur T (0, 0) hg]
        exact h2
      · cases h1
end Go.Eng
namespace Go.Proofs.YtgpibcgebpgmiaaDoor
open Go Go.Eng Go.RowKit
set_option linter.unusedVariables false

abbrev shpS (st : List (Option Shp)) : List (Sl Int) := st.map (fun o => ⟨o.getD []⟩)
abbrev seenS (st : List (Option Shp)) : List Bool := st.map Option.isSome
/-- a verifier at work -/
structure Vf (w : World) (bv base : Nat) (cv hv sv : Value) (code : List Ins) (st : List (Option Shp)) : Prop where
  blk : Blk w bv 112 [cv, hv, sv]
  cod : SlV (bv :: (ob hv ++ ob sv)) w cv code
  shp : Row (bv :: ob sv) w base 22 hv (shpS st)
  seen : Row [] w base 4 sv (seenS st)
  nh : bv ∉ ob hv
  ns : bv ∉ ob sv
  hi : base ≤ w.heap.size
  apart : ∀ b ∈ ob hv, b ∉ ob sv
  len : st.length = code.length
theorem Vf.up {w w' : World} {bv base : Nat} {cv hv sv : Value} {code : List Ins} {st : List (Option Shp)} (h : Vf w bv base cv hv sv code st) (hS : Stp [] w w') : Vf w' bv base cv hv sv code st :=
  ⟨h.blk.up hS, h.cod.up hS, h.shp.up hS, h.seen.up hS, h.nh, h.ns, Nat.le_trans h.hi hS.size, h.apart, h.len⟩
theorem reach_any (bv base : Nat) (cv hv sv uv : Value) (code : List Ins) (st : List (Option Shp)) (t : Int) (s : Shp) (w : World) (h : Vf w bv base cv hv sv code st) (ht : 0 ≤ t) (hs : SlV (bv :: (ob hv ++ ob sv)) w uv s) :
    Calls Tryd.prog 99 #[.pointer (some ⟨bv, 0, none⟩), .int .i64 t, uv] w (Ret fun r w' => Stp (bv :: (ob hv ++ ob sv)) w w' ∧ r = .bool (reachM st t s).isSome ∧ ∀ st', reachM st t s = some st' → Vf w' bv base cv hv sv code st') := by
  have hblk := h.blk
  have hcode := h.cod
  have hmax := hcode.max
  have hlen := h.len
  have hbh := h.nh
  have hbs := h.ns
  have hshp := h.shp.slvX (fun b hb => by
    rcases List.mem_cons.1 hb with rfl | hb
    · exact hbh
    · exact fun hb' => h.apart b hb' hb)
  have hseen := h.seen.slv0
  have hl1 : (shpS st).length = st.length := by simp [shpS]
  have hl2 : (seenS st).length = st.length := by simp [seenS]
  refine calls_of_WC3 (n := 45) Tryd.func99 rfl rfl rfl ?_
  refine W ?_
  by_cases hlt : t < code.length
  case neg =>
    have hr : reachM st t s = none := by rw [reachM, if_neg (by omega)]
    repeat' (first | refine W1 ?_ | (exfalso; omega) | refine WL_split rfl rfl (fun hg => ?_) (fun hg => ?_) | refine WL_splitB rfl rfl (fun hg => ?_) (fun hg => ?_) | refine WC_cond rfl (fun hc => ?_) (fun hc => ?_) | refine WC_condB rfl (fun hc => ?_) (fun hc => ?_))
    first | refine WQ_ret1 rfl rfl ?_ | refine WQ_ret2 rfl rfl rfl ?_ | refine WQ_ret3 rfl rfl rfl rfl ?_ | refine WQ_ret0 rfl ?_ | refine WQ_end0 rfl ?_
    exact .mk ⟨Stp.refl _ _, by rw [hr]; rfl, fun st' h => by rw [hr] at h; cases h⟩
  obtain ⟨k, rfl⟩ : ∃ k : Nat, t = (k : Int) := ⟨t.toNat, by omega⟩
  have hk : k < st.length := by omega
  have hk1 : k < (shpS st).length := by omega
  have hk2 : k < (seenS st).length := by omega
  have hsk : (seenS st)[k] = (st[k]).isSome := by simp [seenS]
  have hgd : st.getD ((k : Int)).toNat none = st[k] := by simp [List.getD, hk]
  cases hst : st[k] with
  | some s0 =>
    have hb1 : (seenS st)[k] = true := by rw [hsk, hst]; rfl
    have hrM : reachM st (k : Int) s = if s0 = s then some st else none := by
      rw [reachM, if_pos (by omega), hgd, hst]
    repeat' (first | refine W1 ?_ | (exfalso; omega) | refine WL_split rfl rfl (fun hg => ?_) (fun hg => ?_) | refine WL_splitB rfl rfl (fun hg => ?_) (fun hg => ?_) | refine WC_cond rfl (fun hc => ?_) (fun hc => ?_) | refine WC_condB rfl (fun hc => ?_) (fun hc => ?_))
    · obtain ⟨u, hcell, hsu⟩ := hshp.sub hk1
      have hu0 : (shpS st)[k].l = s0 := by simp [shpS, hst]
      apply WL_pure (PR_load1 rfl rfl hcell) rfl
      refine W ?_
      refine WL_eff (OE_call rfl (evs2 rfl rfl) (EqualI_any _ _ _ _ _ (hsu.wk (by simp)) (hs.wk (by simp)))) rfl ?_
      rintro _ w2 ⟨rfl, hS⟩
      refine W ?_
      first | refine WQ_ret1 rfl rfl ?_ | refine WQ_ret2 rfl rfl rfl ?_ | refine WQ_ret3 rfl rfl rfl rfl ?_ | refine WQ_ret0 rfl ?_ | refine WQ_end0 rfl ?_
      rw [hu0]
      refine .mk ⟨hS.mono (by simp), ?_, fun st' h' => ?_⟩
      · rw [hrM]
        by_cases he : s0 = s <;> simp [he]
      · rw [hrM] at h'
        split at h'
        · cases h'; exact h.up hS
        · cases h'
    · rw [hb1] at hc; exact absurd hc (by simp)
  | none =>
    have hb1 : (seenS st)[k] = false := by rw [hsk, hst]; rfl
    have hrM : reachM st (k : Int) s = some (st.set k (some s)) := by
      rw [reachM, if_pos (by omega), hgd, hst]
      simp
    repeat' (first | refine W1 ?_ | (exfalso; omega) | refine WL_split rfl rfl (fun hg => ?_) (fun hg => ?_) | refine WL_splitB rfl rfl (fun hg => ?_) (fun hg => ?_) | refine WC_cond rfl (fun hc => ?_) (fun hc => ?_) | refine WC_condB rfl (fun hc => ?_) (fun hc => ?_))
    · rw [hb1] at hc; exact absurd hc (by simp)
    refine WC_drawn 15 (ob hv ++ ob sv) [] [(0, 0), (1, 0), (2, 0), (3, 1), (4, 0), (5, 0), (6, 0), (7, 0), (8, 1), (9, 0), (10, 0), (11, 0), (12, 2), (13, 0), (14, 2)] rfl mixed (by kernel_rfl) (by kernel_rfl) (by kernel_rfl) (fun w1 hS1 => ?_)
    have nb : bv ∉ ob hv ++ ob sv := fun hb => (List.mem_append.1 hb).elim hbh hbs
    replace hblk := hblk.up hS1
    have hseen1 := hseen.up hS1
    have hshp1 := hshp.up hS1
    have rs := h.seen.up hS1
    have rh := h.shp.up hS1
    refine D ?_
    try (refine WD_read rfl trivial (fun w' hS' => PR_load_blk rfl rfl (hblk.ext hS' nb) rfl) rfl ?_)
    refine D ?_
    try (refine WD_read rfl trivial (fun w' hS' => PR_load_blk rfl rfl (hblk.ext hS' nb) rfl) rfl ?_)
    refine D ?_
    refine WD_eff0 rfl trivial (OE_storeElX (α := Bool) (y' := true) (u := .bool true) rfl rfl rfl rfl rs hk2) (fun _ _ h => h.2.mono (by simp_all)) ?_
    rintro _ w3 ⟨rs3, hS3⟩
    replace rh := rh.ext (X' := bv :: ob sv) hS3 (fun b hb => ⟨List.mem_cons_of_mem _ hb, fun hb' => h.apart b hb' hb⟩) (fun _ h => .inl h)
    have hshp3 := rh.slvX (fun b hb => by
      rcases List.mem_cons.1 hb with rfl | hb
      · exact hbh
      · exact fun hb' => h.apart b hb' hb)
    have hS13 : Stp (bv :: (ob hv ++ ob sv)) w w3 := (hS1.mono (by simp)).trans (hS3.mono (fun b hb => by simp [hb]))
    have hs3 := hs.ext hS13 (fun _ h => h) (fun _ h => .inl h)
    refine D ?_
    refine WD_eff0 rfl trivial (OE_storeElX (α := Sl Int) (y' := ⟨s⟩) (u := uv) rfl rfl rfl ⟨uv, hs3.cells, hs3.wk (fun b hb => by simp at hb; rcases hb with h | h | h <;> simp [h])⟩ rh hk1) (fun _ _ h => h.2.mono (by simp_all)) ?_
    rintro _ w4 ⟨rh4, hS4⟩
    refine D ?_
    refine W ?_
    first | refine WQ_ret1 rfl rfl ?_ | refine WQ_ret2 rfl rfl rfl ?_ | refine WQ_ret3 rfl rfl rfl rfl ?_ | refine WQ_ret0 rfl ?_ | refine WQ_end0 rfl ?_
    have hS14 : Stp (bv :: (ob hv ++ ob sv)) w w4 := hS13.trans (hS4.mono (fun b hb => by simp [hb]))
    refine .mk ⟨hS14, by rw [hrM]; rfl, fun st' h' => ?_⟩
    rw [hrM] at h'
    cases h'
    have rs4 := rs3.keep hS4 (fun b hb => h.apart b hb)
    refine ⟨(hblk.ext hS3 hbs).ext hS4 hbh, h.cod.ext hS14 (fun _ h => h) (fun _ h => .inl h), ?_, ?_, hbh, hbs, Nat.le_trans h.hi hS14.size, h.apart, by simpa using h.len⟩
    · have e : shpS (st.set k (some s)) = (shpS st).set k ⟨s⟩ := by simp [shpS, List.map_set]
      rw [e]; exact rh4
    · have e : seenS (st.set k (some s)) = (seenS st).set k true := by simp [seenS, List.map_set]
      rw [e]; exact rs4
end Go.Proofs.YtgpibcgebpgmiaaDoor

namespace Go.Proofs.YtgpibcgebpgmiaaDoor
open Go Go.Eng Go.RowKit
set_option linter.unusedVariables false

/-! ### the reference's verifier in strings -/
def tyB (k : Int) : UInt8 := if k = 1 then 110 else if k = 2 then 98 else 100
def encS (s : Shp) : Str := s.map tyB
def encO : Option Shp → Str
  | none => [63]
  | some s => encS s
def okS (s : Shp) : Prop := ∀ k ∈ s, k = 1 ∨ k = 2 ∨ k = 3
theorem tyB_inj {a b : Int} (ha : a = 1 ∨ a = 2 ∨ a = 3) (hb : b = 1 ∨ b = 2 ∨ b = 3) (h : tyB a = tyB b) : a = b := by
  rcases ha with rfl | rfl | rfl <;> rcases hb with rfl | rfl | rfl <;> first | rfl | (exfalso; revert h; decide)
theorem encS_inj : ∀ {a b : Shp}, okS a → okS b → encS a = encS b → a = b
  | [], [], _, _, _ => rfl
  | [], _ :: _, _, _, h => by simp [encS] at h
  | _ :: _, [], _, _, h => by simp [encS] at h
  | x :: a, y :: b, ha, hb, h => by
    simp only [encS, List.map_cons, List.cons.injEq] at h
    rw [tyB_inj (ha x (by simp)) (hb y (by simp)) h.1, encS_inj (a := a) (b := b) (fun k hk => ha k (by simp [hk])) (fun k hk => hb k (by simp [hk])) h.2]
theorem tyB_ne (k : Int) : tyB k ≠ 63 := by
  unfold tyB
  split
  · decide
  · split <;> decide
theorem encS_ne (s : Shp) : encS s ≠ [63] := by
  intro h
  rcases s with _ | ⟨a, _ | ⟨b, r⟩⟩
  · simp [encS] at h
  · simp [encS] at h; exact tyB_ne a h
  · simp [encS] at h
theorem encS_len (s : Shp) : (encS s).length = s.length := by simp [encS]
def rowM (n : Int) (sh : Str) (r : RwT) : Option Str :=
  if r.lo ≤ n ∧ n ≤ r.hi ∧ r.t.length ≤ sh.length ∧ sh.drop (sh.length - r.t.length) = r.t ∧ sh.length - r.t.length + r.g.length ≤ 16 then some (sh.take (sh.length - r.t.length) ++ r.g) else none
def firstM (n : Int) (sh : Str) : List RwT → Option Str
  | [] => none
  | r :: l => match rowM n sh r with
    | some s => some s
    | none => firstM n sh l
def afterM (x : Ins) (a z : Nat) (sh : Str) : Option Str := firstM x.n sh (rowsF x a z)
def setR (strs : List Str) (t : Int) (nx : Str) : Option (List Str) := if strs.getD t.toNat [] ≠ [63] ∧ strs.getD t.toNat [] ≠ nx then none else some (strs.set t.toNat nx)
def targF (x : Ins) (i z : Nat) : List Int := (if x.op = 13 ∨ x.op = 14 then [x.n] else []) ++ (if x.op ≠ 13 ∧ i + 1 < z then [(i : Int) + 1] else [])
def setsR (nx : Str) : List Int → List Str → Option (List Str)
  | [], st => some st
  | t :: l, st => (setR st t nx).bind (setsR nx l)
def stepR (strs : List Str) (i : Nat) (x : Ins) : Option (List Str) :=
  match afterM x i strs.length (strs.getD i []) with
  | none => none
  | some nx => if strs.getD i [] = [63] ∨ ¬ (x.op = 24 ↔ i + 1 = strs.length) then none else setsR nx (targF x i strs.length) strs
def runR (code : List Ins) : Nat → List Str → Option (List Str)
  | 0, st => some st
  | k + 1, st => (runR code k st).bind (fun st' => stepR st' k (code.getD k ⟨0, 0⟩))
def finR (m : Nat) : Option (List Str) → Int × Int
  | none => (0, 22)
  | some st => if st.getD m [] = [110] then (1, 0) else if st.getD m [] = [98] then (2, 0) else if st.getD m [] = [100] then (3, 0) else (0, 22)
def verR (code : List Ins) : Int × Int :=
  if code.length = 0 ∨ code.length > 200 then (0, 22) else finR (code.length - 1) (runR code code.length ([] :: List.replicate (code.length - 1) [63]))

/-! ### it is the same -/
theorem okS_take {s : Shp} (h : okS s) (k : Nat) : okS (s.take k) := fun a ha => h a (List.mem_of_mem_take ha)
theorem okS_drop {s : Shp} (h : okS s) (k : Nat) : okS (s.drop k) := fun a ha => h a (List.mem_of_mem_drop ha)
theorem okS_app {s t : Shp} (h : okS s) (h' : okS t) : okS (s ++ t) := fun a ha => (List.mem_append.1 ha).elim (h a) (h' a)
theorem rowM_enc {n lo hi : Int} {s t g : Shp} (hs : okS s) (ht : okS t) :
    rowM n (encS s) ⟨lo, hi, encS t, encS g⟩ = if (lo ≤ n ∧ n ≤ hi) ∧ t.length ≤ s.length ∧ s.drop (s.length - t.length) = t ∧ (s.take (s.length - t.length) ++ g).length ≤ 16 then some (encS (s.take (s.length - t.length) ++ g)) else none := by
  unfold rowM
  have e1 : (encS s).drop (s.length - t.length) = encS (s.drop (s.length - t.length)) := by simp [encS, List.map_drop]
  have e2 : (encS s).take (s.length - t.length) ++ encS g = encS (s.take (s.length - t.length) ++ g) := by simp [encS, List.map_take]
  have e3 : (encS (s.drop (s.length - t.length)) = encS t) ↔ (s.drop (s.length - t.length) = t) := ⟨encS_inj (okS_drop hs _) ht, fun h => by rw [h]⟩
  have e4 : (s.take (s.length - t.length) ++ g).length = s.length - t.length + g.length := by simp
  dsimp only
  rw [encS_len, encS_len, encS_len, e1, e2, e4]
  by_cases c1 : lo ≤ n <;> by_cases c2 : n ≤ hi <;> by_cases c3 : t.length ≤ s.length <;> by_cases c4 : s.drop (s.length - t.length) = t <;> by_cases c5 : s.length - t.length + g.length ≤ 16 <;> simp [c1, c2, c3, c4, c5, e3]
/-- one row of the table against the program's effect without an alternative -/
theorem after_one {x : Ins} {s t g : Shp} {lo hi : Int} {ok : Bool} (hs : okS s) (ht : okS t) (he : effF x = (t, [], g, ok)) (hok : ok = true ↔ (lo ≤ x.n ∧ x.n ≤ hi)) :
    firstM x.n (encS s) [⟨lo, hi, encS t, encS g⟩] = (nextM x s).map encS := by
  simp only [firstM, rowM_enc hs ht, nextM, he]
  by_cases c1 : ok = true
  · have c1' := hok.1 c1
    by_cases c2 : t.length ≤ s.length ∧ s.drop (s.length - t.length) = t ∧ (s.take (s.length - t.length) ++ g).length ≤ 16
    · rw [if_pos ⟨c1', c2⟩, if_pos ⟨c1, c2.1, .inl c2.2.1, c2.2.2⟩]; rfl
    · rw [if_neg (fun h => c2 h.2), if_neg (fun h => c2 ⟨h.2.1, h.2.2.1.elim id (fun h => absurd rfl h.1), h.2.2.2⟩)]; rfl
  · rw [if_neg (fun h => c1 (hok.2 h.1)), if_neg (fun h => c1 h.1)]; rfl

theorem after_two {x : Ins} {s t u g : Shp} (hs : okS s) (ht : okS t) (hu : okS u) (htu : t.length = u.length) (hu0 : u ≠ []) (he : effF x = (t, u, g, decide (x.n = 0))) :
    firstM x.n (encS s) [⟨0, 0, encS t, encS g⟩, ⟨0, 0, encS u, encS g⟩] = (nextM x s).map encS := by
  simp only [firstM, rowM_enc hs ht, rowM_enc hs hu, nextM, he, ← htu]
  have hr : (0 ≤ x.n ∧ x.n ≤ 0) ↔ x.n = 0 := by omega
  by_cases c1 : x.n = 0 <;> by_cases c2 : t.length ≤ s.length <;> by_cases c3 : s.drop (s.length - t.length) = t <;> by_cases c4 : s.drop (s.length - t.length) = u <;> by_cases c5 : (s.take (s.length - t.length) ++ g).length ≤ 16 <;> simp only [hr, c1, c2, c3, c4, c5, hu0, ne_eq, not_false_eq_true, true_and, and_true, or_true, true_or, and_self, false_and, and_false, or_false, decide_true, decide_false, if_true, if_false, Option.map_some, Option.map_none, Bool.false_eq_true, Int.le_refl]
  all_goals (first | done | rfl | (split <;> simp_all) | simp_all)
theorem after_jump {x : Ins} {s t : Shp} {lo hi : Int} (hs : okS s) (ht : okS t) (he : effF x = (t, [], [], true)) :
    firstM x.n (encS s) [⟨lo, hi, encS t, encS []⟩] = if ¬ (lo ≤ x.n ∧ x.n ≤ hi) then none else (nextM x s).map encS := by
  simp only [firstM, rowM_enc hs ht, nextM, he]
  by_cases c1 : lo ≤ x.n ∧ x.n ≤ hi
  · rw [if_neg (Classical.not_not.2 c1)]
    by_cases c2 : t.length ≤ s.length ∧ s.drop (s.length - t.length) = t ∧ (s.take (s.length - t.length) ++ []).length ≤ 16
    · rw [if_pos ⟨c1, c2⟩, if_pos ⟨trivial, c2.1, .inl c2.2.1, c2.2.2⟩]; rfl
    · rw [if_neg (fun h => c2 h.2), if_neg (fun h => c2 ⟨h.2.1, h.2.2.1.elim id (fun h => absurd rfl h.1), h.2.2.2⟩)]; rfl
  · rw [if_pos c1, if_neg (fun h => c1 h.1)]
end Go.Proofs.YtgpibcgebpgmiaaDoor
