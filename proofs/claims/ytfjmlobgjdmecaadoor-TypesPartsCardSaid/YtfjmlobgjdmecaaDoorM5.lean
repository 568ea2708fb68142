/-
Merged by program out of own texts: Rg1, Shl2, Srt1, Use1, Liv3, Liv4, Eng18, Eng19, Siz1, Part1, Exl1, Tyo1.
-/
import Derived.Test.YtfjmlobgjdmecaaDoorM4
import Derived.Shelf.Sort.Plain
import Derived.Shelf.Slices.In.SortNone
import Derived.Laws.BitsAllLaws
import Derived.Laws.Bits64
import Derived.Lib.SlBytesRow
import Derived.Lib.AppendStr
import Derived.Laws.BytesArg
import Derived.Laws.Cover3
namespace Go.Proofs.YtfjmlobgjdmecaaDoor
open Go Go.Eng Go.RowKit
set_option linter.unusedVariables false

def names4 : List Str := [[97], [98], [99, 49, 48], [97, 110, 115, 119, 101, 114]]
def kinds7 : List Str := [[109, 111, 116, 105, 111, 110], [97, 110, 115, 119, 101, 114], [111, 114, 100, 101, 114], [110, 111, 116, 105, 99, 101], [97, 112, 112, 101, 97, 108], [100, 101, 102, 97, 117, 108, 116, 50], [114, 101, 112, 108, 121]]
theorem Kinds_any (X : List Nat) (w : World) (hX : ∀ b ∈ X, b < w.heap.size) : Calls Tryd.prog 66 #[] w (Ret fun r w' => Row X w' w.heap.size 9 r kinds7 ∧ Stp [] w w') := by
  refine calls_of_WC0 (n := 2) Tryd.func66 rfl rfl ?_
  refine W ?_
  refine WL_eff (OE_call rfl (evs1 rfl) (words_any X [109, 111, 116, 105, 111, 110, 32, 97, 110, 115, 119, 101, 114, 32, 111, 114, 100, 101, 114, 32, 110, 111, 116, 105, 99, 101, 32, 97, 112, 112, 101, 97, 108, 32, 100, 101, 102, 97, 117, 108, 116, 50, 32, 114, 101, 112, 108, 121] _ hX (by decide))) rfl ?_
  rintro v w1 ⟨hr, hS⟩
  rw [show wordsOf [109, 111, 116, 105, 111, 110, 32, 97, 110, 115, 119, 101, 114, 32, 111, 114, 100, 101, 114, 32, 110, 111, 116, 105, 99, 101, 32, 97, 112, 112, 101, 97, 108, 32, 100, 101, 102, 97, 117, 108, 116, 50, 32, 114, 101, 112, 108, 121] = kinds7 by decide +kernel] at hr
  refine W ?_
  first | refine WQ_ret1 rfl rfl ?_ | refine WQ_ret2 rfl rfl rfl ?_ | refine WQ_ret3 rfl rfl rfl rfl ?_ | refine WQ_ret0 rfl ?_ | refine WQ_end0 rfl ?_
  exact .mk ⟨hr, hS⟩
abbrev nil4 : Nd := .mk 0 0 [] []
abbrev nilS : Value := .slice none 0 0
theorem buildRl (a o : Str) (f : Int) (w : World) : (Instr.build 50 #[(0, str a), (1, .int .i64 f), (2, str o)]).run Tryd.prog w = .ok (.agg (rlC ⟨a, f, o, nil4, nil4, [], []⟩ nilS nilS).toArray) w := by kernel_rfl
theorem rlC_one (r : Rul) {X Y : List Nat} {w w' : World} {ki kd : Value} (h1 : SlV X w ki r.cnd.kids) (h2 : SlV Y w' kd r.due.kids) : ∀ c ∈ rlC r ki kd, c.oneCell' = true := by
  intro c hc
  have e1 := h1.one
  have e2 := h2.one
  simp only [rlC, List.mem_cons, List.not_mem_nil, or_false] at hc
  rcases hc with rfl | rfl | rfl | rfl | rfl | rfl | rfl | rfl | rfl | rfl | rfl | rfl | rfl <;> first | rfl | exact e1 | exact e2
theorem names_ok : ∀ s ∈ names4, namedT s = true := by decide +kernel
theorem kinds_ok : ∀ s ∈ kinds7, namedT s = true := by decide +kernel
theorem getD_mem {l : List Str} {q : Nat} (h : q < l.length) : l.getD q [] ∈ l := by
  have : l.getD q [] = l[q] := by simp [List.getD, h]
  rw [this]; exact List.getElem_mem h
theorem check_ok {a o u v : Str} {f : Int} {y x : Nd} (ha : a ∈ names4) (ho : o ∈ kinds7) (hu : u = [] ∨ u ∈ kinds7) (hv : v = [] ∨ v ∈ kinds7) (hf : 0 ≤ f ∧ f < 30) (hy : typeT y = 2) (hy' : nestN y ≤ 3) (hx : typeT x = 3) (hx' : nestN x ≤ 4) :
    checkT ⟨a, 739600 + f, o, y, x, u, v⟩ = 0 := by
  have hn : namesT ⟨a, 739600 + f, o, y, x, u, v⟩ = true := by
    simp only [namesT, names_ok a ha, kinds_ok o ho, Bool.true_and, Bool.and_eq_true, Bool.or_eq_true, decide_eq_true_eq]
    exact ⟨hu.imp id (kinds_ok u), hv.imp id (kinds_ok v)⟩
  have m1 : mustF y 2 = 0 := by unfold mustF; rw [if_pos (by omega), hy]; decide
  have m2 : mustF x 3 = 0 := by unfold mustF; rw [if_pos (by omega), hx]; decide
  unfold checkT
  rw [hn, if_neg (by decide), if_neg (by simp only; omega)]
  simp [m1, m2]
theorem Rule14_any (X : List Nat) (lv : Value) (l : List Int) (w : World) (hs : SlV [] w lv l) (hl : ∀ a ∈ l, I64 a) (hX : ∀ b ∈ X, b < w.heap.size) :
    Calls Tryd.prog 25 #[lv] w (Ret fun r w' => ∃ rl : Rul, RulV X w' r rl ∧ sizeN rl.cnd ≤ 400 ∧ sizeN rl.due ≤ 400 ∧ checkT rl = 0 ∧ Stp [] w w') := by
  obtain ⟨p, c, rfl, -⟩ := id hs
  refine calls_of_WC1 (n := 49) Tryd.func25 rfl rfl rfl ?_
  refine W ?_
  refine WL_eff OE_alloc rfl ?_
  rintro _ w1 ⟨b2, rfl, hb2, e2, hS⟩
  refine W ?_
  apply WL_build (vs := [(0, .slice p l.length c)]) rfl (buildMk _ _ _) rfl
  refine WL_eff (OE_box rfl) rfl ?_
  rintro _ w2 ⟨bm, rfl, hbm, hmk, hT⟩
  replace hmk : Mk w2 bm (.slice p l.length c) 0 := hmk
  have n2 : b2 ≠ bm := by have := e2.lt; omega
  have hbmw : w.heap.size ≤ bm := Nat.le_trans hS.size hbm
  replace e2 := e2.up hT
  have hsl := (hs.up hS).ext (X' := [bm]) hT (by simp) (fun b h => .inr (by simp at h; omega))
  replace hS := hS.trans hT
  clear hT hbm
  refine W ?_
  refine WL_eff (OE_call rfl evs0 (Kinds_any [bm] _ (fun b h => by simp at h; rw [h]; exact hmk.lt))) rfl ?_
  rintro kv wP ⟨hrk, hT⟩
  have hkv := hrk.slv (X := [bm]) (fun b h => by simp at h; rw [h]; exact hmk.lt)
  replace hmk := hmk.up hT
  replace e2 := e2.up hT
  replace hsl := hsl.up hT
  replace hS := hS.trans hT
  clear hT hrk
  refine W ?_
  refine WC_cutQ (σ := Nat × Str × Int × Str) (fun q => [(2, .pointer (some ⟨b2, 0, none⟩)), (3, .pointer (some ⟨bm, 0, none⟩)), (4, kv), (5, .pointer (some ⟨q.1, 0, none⟩))])
    (fun q w' => Mk w' bm (.slice p l.length c) 3 ∧ SlV [q.1, bm] w' (.slice p l.length c) l ∧ SlV [q.1, bm] w' kv kinds7 ∧ (∃ cs : List Value, cs.length = 13 ∧ Blk w' b2 50 cs) ∧ Blk w' q.1 50 (rlC ⟨q.2.1, 739600 + q.2.2.1, q.2.2.2, nil4, nil4, [], []⟩ nilS nilS) ∧ q.2.1 ∈ names4 ∧ (0 ≤ q.2.2.1 ∧ q.2.2.1 < 30) ∧ q.2.2.2 ∈ kinds7 ∧ q.1 ≠ bm ∧ q.1 ≠ b2 ∧ wP.heap.size ≤ q.1 ∧ Stp [bm] wP w') ?_ ?_
  · refine WC_drawn 16 ([bm]) [15] [(1, 0), (5, 0), (8, 0), (9, 0), (0, 17), (2, 17), (3, 0), (4, 1), (6, 17), (7, 0), (10, 17), (11, 0), (12, 1), (13, 0), (14, 2), (15, 2)] rfl mixed (by kernel_rfl) (by kernel_rfl) (by kernel_rfl) (fun w1 hS1 => ?_)
    have hP : Stp [bm] wP w1 := hS1.mono (by simp)
    replace hmk := hmk.up hS1
    replace hsl := hsl.up hS1
    replace hkv := hkv.up hS1
    replace e2 := e2.up hS1
    clear hS1
    refine D ?_
    apply WD_two
    · rfl
    · refine WD1_eff rfl trivial (OE_call rfl (evs1 rfl) (words_any [bm] [97, 32, 98, 32, 99, 49, 48, 32, 97, 110, 115, 119, 101, 114] _ (fun b h => by simp at h; rw [h]; exact hmk.lt) (by decide))) (fun _ _ h => h.2.mono (by simp)) rfl ?_
      rintro wv wq ⟨hrw, hT⟩
      rw [show wordsOf [97, 32, 98, 32, 99, 49, 48, 32, 97, 110, 115, 119, 101, 114] = names4 by decide +kernel] at hrw
      have hw := hrw.slv (X := [bm]) (fun b h => by simp at h; rw [h]; exact hmk.lt)
      replace hmk := hmk.up hT
      replace hsl := hsl.ext hT (by simp) (fun _ h => .inl h)
      replace hkv := hkv.ext hT (by simp) (fun _ h => .inl h)
      replace hP := hP.trans (hT.mono (by simp))
      replace e2 := e2.ext hT (by simp; try exact n2)
      clear hT hrw
      refine D ?_
      apply WD_two
      · rfl
      · refine WD1_eff rfl trivial (OE_call rfl (evs2 rfl rfl) (Next_any bm (.slice p l.length c) l 0 4 _ (by decide) (by decide) hmk (hsl.wk (fun b h => by simp at h; simp [h])) hl)) (fun _ _ h => h.choose_spec.2.2.2.mono (by simp)) rfl ?_
        rintro _ wq ⟨q1, rfl, hq1, hmk, hT⟩
        replace hsl := hsl.ext hT (by simp) (fun _ h => .inl h)
        replace hkv := hkv.ext hT (by simp) (fun _ h => .inl h)
        replace hP := hP.trans (hT.mono (by simp))
        replace e2 := e2.ext hT (by simp; try exact n2)
        replace hw := hw.ext hT (by simp) (fun _ h => .inl h)
        clear hT
        have hq1n : q1 < names4.length := by show q1 < 4; omega
        refine D ?_
        apply WD_two
        · rfl
        · refine WD1_eff rfl trivial (OE_call rfl (evs2 rfl rfl) (Next_any bm (.slice p l.length c) l 1 30 _ (by decide) (by decide) hmk (hsl.wk (fun b h => by simp at h; simp [h])) hl)) (fun _ _ h => h.choose_spec.2.2.2.mono (by simp)) rfl ?_
          rintro _ wq ⟨q2, rfl, hq2, hmk, hT⟩
          replace hsl := hsl.ext hT (by simp) (fun _ h => .inl h)
          replace hkv := hkv.ext hT (by simp) (fun _ h => .inl h)
          replace hP := hP.trans (hT.mono (by simp))
          replace e2 := e2.ext hT (by simp; try exact n2)
          replace hw := hw.ext hT (by simp) (fun _ h => .inl h)
          clear hT
          refine D ?_
          apply WD_two
          · rfl
          · refine WD1_eff rfl trivial (OE_call rfl (evs2 rfl rfl) (Next_any bm (.slice p l.length c) l 2 7 _ (by decide) (by decide) hmk (hsl.wk (fun b h => by simp at h; simp [h])) hl)) (fun _ _ h => h.choose_spec.2.2.2.mono (by simp)) rfl ?_
            rintro _ wq ⟨q3, rfl, hq3, hmk, hT⟩
            replace hsl := hsl.ext hT (by simp) (fun _ h => .inl h)
            replace hkv := hkv.ext hT (by simp) (fun _ h => .inl h)
            replace hP := hP.trans (hT.mono (by simp))
            replace e2 := e2.ext hT (by simp; try exact n2)
            replace hw := hw.ext hT (by simp) (fun _ h => .inl h)
            clear hT
            have hq3n : q3 < kinds7.length := by show q3 < 7; omega
            refine D ?_
            try (refine WF_build rfl trivial (vs := [(0, str names4[q1]), (1, .int .i64 (739600 + (q2 : Int))), (2, str kinds7[q3])]) rfl (buildRl _ _ _) rfl ?_)
            refine D ?_
            refine WD_eff rfl trivial OE_alloc (fun _ _ h => h.choose_spec.2.2.2.mono (by simp)) rfl ?_
            rintro _ wq ⟨b5, rfl, hb5, e5, hT⟩
            have n5 : b5 ≠ bm := by have := hmk.lt; omega
            have n52 : b5 ≠ b2 := by have := e2.lt; omega
            have hb5w : wP.heap.size ≤ b5 := Nat.le_trans hP.size hb5
            replace hmk := hmk.up hT
            replace hsl := hsl.ext (X' := [b5, bm]) hT (by simp) (fun b h => by simp at h; rcases h with rfl | rfl; exact .inr hb5; exact .inl (by simp))
            replace hkv := hkv.ext (X' := [b5, bm]) hT (by simp) (fun b h => by simp at h; rcases h with rfl | rfl; exact .inr hb5; exact .inl (by simp))
            replace hP := hP.trans (hT.mono (by simp))
            replace e2 := e2.ext hT (by simp; try exact n2)
            replace hw := hw.ext hT (by simp) (fun _ h => .inl h)
            clear hT hb5
            refine D ?_
            refine WD_late0 rfl trivial (OE_storeA (us := rlC ⟨names4[q1], 739600 + (q2 : Int), kinds7[q3], nil4, nil4, [], []⟩ nilS nilS) rfl rfl rfl rfl (rlC_one _ (nilSlv [] wq) (nilSlv [] wq)) e5 rfl) rfl ?_
            rintro _ wz ⟨hZ, e5z⟩
            refine D ?_
            refine WQ_cut (b5, names4[q1], (q2 : Int), kinds7[q3]) ⟨rfl, rfl, rfl, rfl, trivial⟩ ⟨hmk.ext hZ (by simp; exact n5.symm), hsl.ext hZ (by simp) (fun _ h => .inl h), hkv.ext hZ (by simp) (fun _ h => .inl h), ⟨_, rfl, e2.ext hZ (by simp; exact n52.symm)⟩, e5z, List.getElem_mem _, by simp only; omega, List.getElem_mem _, n5, n52, hb5w, hP.own hZ (fun b hb => .inr (by simp at hb; omega))⟩
          · refine WD1_eff rfl trivial OE_alloc (fun _ _ h => h.choose_spec.2.2.2.mono (by simp)) rfl ?_
            rintro _ wq ⟨b5, rfl, hb5, e5, hT⟩
            have n5 : b5 ≠ bm := by have := hmk.lt; omega
            have n52 : b5 ≠ b2 := by have := e2.lt; omega
            have hb5w : wP.heap.size ≤ b5 := Nat.le_trans hP.size hb5
            replace hmk := hmk.up hT
            replace hsl := hsl.ext (X' := [b5, bm]) hT (by simp) (fun b h => by simp at h; rcases h with rfl | rfl; exact .inr hb5; exact .inl (by simp))
            replace hkv := hkv.ext (X' := [b5, bm]) hT (by simp) (fun b h => by simp at h; rcases h with rfl | rfl; exact .inr hb5; exact .inl (by simp))
            replace hP := hP.trans (hT.mono (by simp))
            replace e2 := e2.ext hT (by simp; try exact n2)
            replace hw := hw.ext hT (by simp) (fun _ h => .inl h)
            clear hT hb5
            refine D ?_
            refine WD_eff rfl trivial (OE_call rfl (evs2 rfl rfl) (Next_any bm (.slice p l.length c) l 2 7 _ (by decide) (by decide) hmk (hsl.wk (fun b h => by simp at h; simp [h])) hl)) (fun _ _ h => h.choose_spec.2.2.2.mono (by simp)) rfl ?_
            rintro _ wq ⟨q3, rfl, hq3, hmk, hT⟩
            replace hsl := hsl.ext hT (by simp) (fun _ h => .inl h)
            replace hkv := hkv.ext hT (by simp) (fun _ h => .inl h)
            replace hP := hP.trans (hT.mono (by simp))
            replace e2 := e2.ext hT (by simp; try exact n2)
            replace hw := hw.ext hT (by simp) (fun _ h => .inl h)
            replace e5 := e5.ext hT (by simp; try exact n5)
            clear hT
            have hq3n : q3 < kinds7.length := by show q3 < 7; omega
            refine D ?_
            try (refine WF_build rfl trivial (vs := [(0, str names4[q1]), (1, .int .i64 (739600 + (q2 : Int))), (2, str kinds7[q3])]) rfl (buildRl _ _ _) rfl ?_)
            refine D ?_
            refine WD_late0 rfl trivial (OE_storeA (us := rlC ⟨names4[q1], 739600 + (q2 : Int), kinds7[q3], nil4, nil4, [], []⟩ nilS nilS) rfl rfl rfl rfl (rlC_one _ (nilSlv [] wq) (nilSlv [] wq)) e5 rfl) rfl ?_
            rintro _ wz ⟨hZ, e5z⟩
            refine D ?_
            refine WQ_cut (b5, names4[q1], (q2 : Int), kinds7[q3]) ⟨rfl, rfl, rfl, rfl, trivial⟩ ⟨hmk.ext hZ (by simp; exact n5.symm), hsl.ext hZ (by simp) (fun _ h => .inl h), hkv.ext hZ (by simp) (fun _ h => .inl h), ⟨_, rfl, e2.ext hZ (by simp; exact n52.symm)⟩, e5z, List.getElem_mem _, by simp only; omega, List.getElem_mem _, n5, n52, hb5w, hP.own hZ (fun b hb => .inr (by simp at hb; omega))⟩
        · refine WD1_eff rfl trivial OE_alloc (fun _ _ h => h.choose_spec.2.2.2.mono (by simp)) rfl ?_
          rintro _ wq ⟨b5, rfl, hb5, e5, hT⟩
          have n5 : b5 ≠ bm := by have := hmk.lt; omega
          have n52 : b5 ≠ b2 := by have := e2.lt; omega
          have hb5w : wP.heap.size ≤ b5 := Nat.le_trans hP.size hb5
          replace hmk := hmk.up hT
          replace hsl := hsl.ext (X' := [b5, bm]) hT (by simp) (fun b h => by simp at h; rcases h with rfl | rfl; exact .inr hb5; exact .inl (by simp))
          replace hkv := hkv.ext (X' := [b5, bm]) hT (by simp) (fun b h => by simp at h; rcases h with rfl | rfl; exact .inr hb5; exact .inl (by simp))
          replace hP := hP.trans (hT.mono (by simp))
          replace e2 := e2.ext hT (by simp; try exact n2)
          replace hw := hw.ext hT (by simp) (fun _ h => .inl h)
          clear hT hb5
          refine D ?_
          refine WD_eff rfl trivial (OE_call rfl (evs2 rfl rfl) (Next_any bm (.slice p l.length c) l 1 30 _ (by decide) (by decide) hmk (hsl.wk (fun b h => by simp at h; simp [h])) hl)) (fun _ _ h => h.choose_spec.2.2.2.mono (by simp)) rfl ?_
          rintro _ wq ⟨q2, rfl, hq2, hmk, hT⟩
          replace hsl := hsl.ext hT (by simp) (fun _ h => .inl h)
          replace hkv := hkv.ext hT (by simp) (fun _ h => .inl h)
          replace hP := hP.trans (hT.mono (by simp))
          replace e2 := e2.ext hT (by simp; try exact n2)
          replace hw := hw.ext hT (by simp) (fun _ h => .inl h)
          replace e5 := e5.ext hT (by simp; try exact n5)
          clear hT
          refine D ?_
          refine WD_eff rfl trivial (OE_call rfl (evs2 rfl rfl) (Next_any bm (.slice p l.length c) l 2 7 _ (by decide) (by decide) hmk (hsl.wk (fun b h => by simp at h; simp [h])) hl)) (fun _ _ h => h.choose_spec.2.2.2.mono (by simp)) rfl ?_
          rintro _ wq ⟨q3, rfl, hq3, hmk, hT⟩
          replace hsl := hsl.ext hT (by simp) (fun _ h => .inl h)
          replace hkv := hkv.ext hT (by simp) (fun _ h => .inl h)
          replace hP := hP.trans (hT.mono (by simp))
          replace e2 := e2.ext hT (by simp; try exact n2)
          replace hw := hw.ext hT (by simp) (fun _ h => .inl h)
          replace e5 := e5.ext hT (by simp; try exact n5)
          clear hT
          have hq3n : q3 < kinds7.length := by show q3 < 7; omega
          refine D ?_
          try (refine WF_build rfl trivial (vs := [(0, str names4[q1]), (1, .int .i64 (739600 + (q2 : Int))), (2, str kinds7[q3])]) rfl (buildRl _ _ _) rfl ?_)
          refine D ?_
          refine WD_late0 rfl trivial (OE_storeA (us := rlC ⟨names4[q1], 739600 + (q2 : Int), kinds7[q3], nil4, nil4, [], []⟩ nilS nilS) rfl rfl rfl rfl (rlC_one _ (nilSlv [] wq) (nilSlv [] wq)) e5 rfl) rfl ?_
          rintro _ wz ⟨hZ, e5z⟩
          refine D ?_
          refine WQ_cut (b5, names4[q1], (q2 : Int), kinds7[q3]) ⟨rfl, rfl, rfl, rfl, trivial⟩ ⟨hmk.ext hZ (by simp; exact n5.symm), hsl.ext hZ (by simp) (fun _ h => .inl h), hkv.ext hZ (by simp) (fun _ h => .inl h), ⟨_, rfl, e2.ext hZ (by simp; exact n52.symm)⟩, e5z, List.getElem_mem _, by simp only; omega, List.getElem_mem _, n5, n52, hb5w, hP.own hZ (fun b hb => .inr (by simp at hb; omega))⟩
      · refine WD1_eff rfl trivial OE_alloc (fun _ _ h => h.choose_spec.2.2.2.mono (by simp)) rfl ?_
        rintro _ wq ⟨b5, rfl, hb5, e5, hT⟩
        have n5 : b5 ≠ bm := by have := hmk.lt; omega
        have n52 : b5 ≠ b2 := by have := e2.lt; omega
        have hb5w : wP.heap.size ≤ b5 := Nat.le_trans hP.size hb5
        replace hmk := hmk.up hT
        replace hsl := hsl.ext (X' := [b5, bm]) hT (by simp) (fun b h => by simp at h; rcases h with rfl | rfl; exact .inr hb5; exact .inl (by simp))
        replace hkv := hkv.ext (X' := [b5, bm]) hT (by simp) (fun b h => by simp at h; rcases h with rfl | rfl; exact .inr hb5; exact .inl (by simp))
        replace hP := hP.trans (hT.mono (by simp))
        replace e2 := e2.ext hT (by simp; try exact n2)
        replace hw := hw.ext hT (by simp) (fun _ h => .inl h)
        clear hT hb5
        refine D ?_
        refine WD_eff rfl trivial (OE_call rfl (evs2 rfl rfl) (Next_any bm (.slice p l.length c) l 0 4 _ (by decide) (by decide) hmk (hsl.wk (fun b h => by simp at h; simp [h])) hl)) (fun _ _ h => h.choose_spec.2.2.2.mono (by simp)) rfl ?_
        rintro _ wq ⟨q1, rfl, hq1, hmk, hT⟩
        replace hsl := hsl.ext hT (by simp) (fun _ h => .inl h)
        replace hkv := hkv.ext hT (by simp) (fun _ h => .inl h)
        replace hP := hP.trans (hT.mono (by simp))
        replace e2 := e2.ext hT (by simp; try exact n2)
        replace hw := hw.ext hT (by simp) (fun _ h => .inl h)
        replace e5 := e5.ext hT (by simp; try exact n5)
        clear hT
        have hq1n : q1 < names4.length := by show q1 < 4; omega
        refine D ?_
        refine WD_eff rfl trivial (OE_call rfl (evs2 rfl rfl) (Next_any bm (.slice p l.length c) l 1 30 _ (by decide) (by decide) hmk (hsl.wk (fun b h => by simp at h; simp [h])) hl)) (fun _ _ h => h.choose_spec.2.2.2.mono (by simp)) rfl ?_
        rintro _ wq ⟨q2, rfl, hq2, hmk, hT⟩
        replace hsl := hsl.ext hT (by simp) (fun _ h => .inl h)
        replace hkv := hkv.ext hT (by simp) (fun _ h => .inl h)
        replace hP := hP.trans (hT.mono (by simp))
        replace e2 := e2.ext hT (by simp; try exact n2)
        replace hw := hw.ext hT (by simp) (fun _ h => .inl h)
        replace e5 := e5.ext hT (by simp; try exact n5)
        clear hT
        refine D ?_
        refine WD_eff rfl trivial (OE_call rfl (evs2 rfl rfl) (Next_any bm (.slice p l.length c) l 2 7 _ (by decide) (by decide) hmk (hsl.wk (fun b h => by simp at h; simp [h])) hl)) (fun _ _ h => h.choose_spec.2.2.2.mono (by simp)) rfl ?_
        rintro _ wq ⟨q3, rfl, hq3, hmk, hT⟩
        replace hsl := hsl.ext hT (by simp) (fun _ h => .inl h)
        replace hkv := hkv.ext hT (by simp) (fun _ h => .inl h)
        replace hP := hP.trans (hT.mono (by simp))
        replace e2 := e2.ext hT (by simp; try exact n2)
        replace hw := hw.ext hT (by simp) (fun _ h => .inl h)
        replace e5 := e5.ext hT (by simp; try exact n5)
        clear hT
        have hq3n : q3 < kinds7.length := by show q3 < 7; omega
        refine D ?_
        try (refine WF_build rfl trivial (vs := [(0, str names4[q1]), (1, .int .i64 (739600 + (q2 : Int))), (2, str kinds7[q3])]) rfl (buildRl _ _ _) rfl ?_)
        refine D ?_
        refine WD_late0 rfl trivial (OE_storeA (us := rlC ⟨names4[q1], 739600 + (q2 : Int), kinds7[q3], nil4, nil4, [], []⟩ nilS nilS) rfl rfl rfl rfl (rlC_one _ (nilSlv [] wq) (nilSlv [] wq)) e5 rfl) rfl ?_
        rintro _ wz ⟨hZ, e5z⟩
        refine D ?_
        refine WQ_cut (b5, names4[q1], (q2 : Int), kinds7[q3]) ⟨rfl, rfl, rfl, rfl, trivial⟩ ⟨hmk.ext hZ (by simp; exact n5.symm), hsl.ext hZ (by simp) (fun _ h => .inl h), hkv.ext hZ (by simp) (fun _ h => .inl h), ⟨_, rfl, e2.ext hZ (by simp; exact n52.symm)⟩, e5z, List.getElem_mem _, by simp only; omega, List.getElem_mem _, n5, n52, hb5w, hP.own hZ (fun b hb => .inr (by simp at hb; omega))⟩
    · refine WD1_eff rfl trivial OE_alloc (fun _ _ h => h.choose_spec.2.2.2.mono (by simp)) rfl ?_
      rintro _ wq ⟨b5, rfl, hb5, e5, hT⟩
      have n5 : b5 ≠ bm := by have := hmk.lt; omega
      have n52 : b5 ≠ b2 := by have := e2.lt; omega
      have hb5w : wP.heap.size ≤ b5 := Nat.le_trans hP.size hb5
      replace hmk := hmk.up hT
      replace hsl := hsl.ext (X' := [b5, bm]) hT (by simp) (fun b h => by simp at h; rcases h with rfl | rfl; exact .inr hb5; exact .inl (by simp))
      replace hkv := hkv.ext (X' := [b5, bm]) hT (by simp) (fun b h => by simp at h; rcases h with rfl | rfl; exact .inr hb5; exact .inl (by simp))
      replace hP := hP.trans (hT.mono (by simp))
      replace e2 := e2.ext hT (by simp; try exact n2)
      clear hT hb5
      refine D ?_
      refine WD_eff rfl trivial (OE_call rfl (evs1 rfl) (words_any [bm] [97, 32, 98, 32, 99, 49, 48, 32, 97, 110, 115, 119, 101, 114] _ (fun b h => by simp at h; rw [h]; exact hmk.lt) (by decide))) (fun _ _ h => h.2.mono (by simp)) rfl ?_
      rintro wv wq ⟨hrw, hT⟩
      rw [show wordsOf [97, 32, 98, 32, 99, 49, 48, 32, 97, 110, 115, 119, 101, 114] = names4 by decide +kernel] at hrw
      have hw := hrw.slv (X := [bm]) (fun b h => by simp at h; rw [h]; exact hmk.lt)
      replace hmk := hmk.up hT
      replace hsl := hsl.ext hT (by simp) (fun _ h => .inl h)
      replace hkv := hkv.ext hT (by simp) (fun _ h => .inl h)
      replace hP := hP.trans (hT.mono (by simp))
      replace e2 := e2.ext hT (by simp; try exact n2)
      replace e5 := e5.ext hT (by simp; try exact n5)
      clear hT hrw
      refine D ?_
      refine WD_eff rfl trivial (OE_call rfl (evs2 rfl rfl) (Next_any bm (.slice p l.length c) l 0 4 _ (by decide) (by decide) hmk (hsl.wk (fun b h => by simp at h; simp [h])) hl)) (fun _ _ h => h.choose_spec.2.2.2.mono (by simp)) rfl ?_
      rintro _ wq ⟨q1, rfl, hq1, hmk, hT⟩
      replace hsl := hsl.ext hT (by simp) (fun _ h => .inl h)
      replace hkv := hkv.ext hT (by simp) (fun _ h => .inl h)
      replace hP := hP.trans (hT.mono (by simp))
      replace e2 := e2.ext hT (by simp; try exact n2)
      replace hw := hw.ext hT (by simp) (fun _ h => .inl h)
      replace e5 := e5.ext hT (by simp; try exact n5)
      clear hT
      have hq1n : q1 < names4.length := by show q1 < 4; omega
      refine D ?_
      refine WD_eff rfl trivial (OE_call rfl (evs2 rfl rfl) (Next_any bm (.slice p l.length c) l 1 30 _ (by decide) (by decide) hmk (hsl.wk (fun b h => by simp at h; simp [h])) hl)) (fun _ _ h => h.choose_spec.2.2.2.mono (by simp)) rfl ?_
      rintro _ wq ⟨q2, rfl, hq2, hmk, hT⟩
      replace hsl := hsl.ext hT (by simp) (fun _ h => .inl h)
      replace hkv := hkv.ext hT (by simp) (fun _ h => .inl h)
      replace hP := hP.trans (hT.mono (by simp))
      replace e2 := e2.ext hT (by simp; try exact n2)
      replace hw := hw.ext hT (by simp) (fun _ h => .inl h)
      replace e5 := e5.ext hT (by simp; try exact n5)
      clear hT
      refine D ?_
      refine WD_eff rfl trivial (OE_call rfl (evs2 rfl rfl) (Next_any bm (.slice p l.length c) l 2 7 _ (by decide) (by decide) hmk (hsl.wk (fun b h => by simp at h; simp [h])) hl)) (fun _ _ h => h.choose_spec.2.2.2.mono (by simp)) rfl ?_
      rintro _ wq ⟨q3, rfl, hq3, hmk, hT⟩
      replace hsl := hsl.ext hT (by simp) (fun _ h => .inl h)
      replace hkv := hkv.ext hT (by simp) (fun _ h => .inl h)
      replace hP := hP.trans (hT.mono (by simp))
      replace e2 := e2.ext hT (by simp; try exact n2)
      replace hw := hw.ext hT (by simp) (fun _ h => .inl h)
      replace e5 := e5.ext hT (by simp; try exact n5)
      clear hT
      have hq3n : q3 < kinds7.length := by show q3 < 7; omega
      refine D ?_
      try (refine WF_build rfl trivial (vs := [(0, str names4[q1]), (1, .int .i64 (739600 + (q2 : Int))), (2, str kinds7[q3])]) rfl (buildRl _ _ _) rfl ?_)
      refine D ?_
      refine WD_late0 rfl trivial (OE_storeA (us := rlC ⟨names4[q1], 739600 + (q2 : Int), kinds7[q3], nil4, nil4, [], []⟩ nilS nilS) rfl rfl rfl rfl (rlC_one _ (nilSlv [] wq) (nilSlv [] wq)) e5 rfl) rfl ?_
      rintro _ wz ⟨hZ, e5z⟩
      refine D ?_
      refine WQ_cut (b5, names4[q1], (q2 : Int), kinds7[q3]) ⟨rfl, rfl, rfl, rfl, trivial⟩ ⟨hmk.ext hZ (by simp; exact n5.symm), hsl.ext hZ (by simp) (fun _ h => .inl h), hkv.ext hZ (by simp) (fun _ h => .inl h), ⟨_, rfl, e2.ext hZ (by simp; exact n52.symm)⟩, e5z, List.getElem_mem _, by simp only; omega, List.getElem_mem _, n5, n52, hb5w, hP.own hZ (fun b hb => .inr (by simp at hb; omega))⟩
  clear hmk hsl hkv e2
  rintro ⟨b5, a, f, o⟩ w3 ⟨hmk, hsl, hkv, ⟨cs2, hl2, e2⟩, e5, ha, hf, ho, n5, n52, hb5w, hP⟩
  dsimp only at hmk hsl hkv e2 e5 ha hf ho n5 n52 hb5w hP
  have z3 : szD 3 = 13 := by decide
  have z4 : szD 4 = 40 := by decide
  refine W ?_
  refine WL_eff (OE_call rfl (evs2 rfl rfl) (Next_any bm (.slice p l.length c) l 3 3 _ (by decide) (by omega) hmk (hsl.wk (fun b h => by simp at h; simp [h])) hl)) rfl ?_
  rintro _ w4 ⟨q, rfl, hq, hmk, hT⟩
  replace hsl := hsl.ext hT (by simp) (fun _ h => .inl h)
  replace hkv := hkv.ext hT (by simp) (fun _ h => .inl h)
  replace hP := hP.trans hT
  replace e2 := e2.ext hT (by simp; exact n2)
  replace e5 := e5.ext hT (by simp; exact n5)
  clear hT
  refine W ?_
  refine WC_cutQ (σ := Str × Nat) (fun _ => [(2, .pointer (some ⟨b2, 0, none⟩)), (3, .pointer (some ⟨bm, 0, none⟩)), (4, kv), (5, .pointer (some ⟨b5, 0, none⟩))])
    (fun q w' => Mk w' bm (.slice p l.length c) q.2 ∧ q.2 ≤ 5 ∧ SlV [b5, bm] w' (.slice p l.length c) l ∧ SlV [b5, bm] w' kv kinds7 ∧ Blk w' b2 50 cs2 ∧ Blk w' b5 50 (rlC ⟨a, 739600 + f, o, nil4, nil4, q.1, []⟩ nilS nilS) ∧ (q.1 = [] ∨ q.1 ∈ kinds7) ∧ Stp [bm] wP w') ?_ ?_
  · repeat' (first | refine W1 ?_ | (exfalso; omega) | refine WL_split rfl rfl (fun hg => ?_) (fun hg => ?_) | refine WL_splitB rfl rfl (fun hg => ?_) (fun hg => ?_) | refine WC_cond rfl (fun hc => ?_) (fun hc => ?_) | refine WC_condB rfl (fun hc => ?_) (fun hc => ?_))
    · refine WL_eff (OE_call rfl (evs2 rfl rfl) (Next_any bm (.slice p l.length c) l _ 7 _ (by decide) (by omega) hmk (hsl.wk (fun b h => by simp at h; simp [h])) hl)) rfl ?_
      rintro _ w4 ⟨z, rfl, hz, hmk, hT⟩
      replace hsl := hsl.ext hT (by simp) (fun _ h => .inl h)
      replace hkv := hkv.ext hT (by simp) (fun _ h => .inl h)
      replace hP := hP.trans hT
      replace e2 := e2.ext hT (by simp; exact n2)
      replace e5 := e5.ext hT (by simp; exact n5)
      clear hT
      have hqn : z < kinds7.length := by show z < 7; omega
      refine W ?_
      refine WL_eff0 (OE_store1 (u := str kinds7[z]) rfl rfl rfl rfl e5 (by simp)) ?_
      rintro _ w6 ⟨hT, e5⟩
      replace hmk := hmk.ext hT (by simp; exact n5.symm)
      replace hsl := hsl.ext hT (by simp) (fun _ h => .inl h)
      replace hkv := hkv.ext hT (by simp) (fun _ h => .inl h)
      replace hP := hP.own hT (fun b hb => .inr (by simp at hb; omega))
      replace e2 := e2.ext hT (by simp; exact n52.symm)
      clear hT
      refine W ?_
      exact WQ_cut (kinds7[z], _) ⟨rfl, rfl, rfl, rfl, trivial⟩ ⟨hmk, by simp only; omega, hsl, hkv, e2, e5, .inr (List.getElem_mem _), hP⟩
    · exact WQ_cut ([], _) ⟨rfl, rfl, rfl, rfl, trivial⟩ ⟨hmk, by simp only; omega, hsl, hkv, e2, e5, .inl rfl, hP⟩
  clear hmk hsl hkv e2 e5 hP
  rintro ⟨u, iu⟩ w3 ⟨hmk, hiu, hsl, hkv, e2, e5, hu, hP⟩
  dsimp only at hmk hiu hsl hkv e2 e5 hu hP
  refine W ?_
  refine WL_eff (OE_call rfl (evs2 rfl rfl) (Next_any bm (.slice p l.length c) l _ 3 _ (by decide) (by omega) hmk (hsl.wk (fun b h => by simp at h; simp [h])) hl)) rfl ?_
  rintro _ w4 ⟨q, rfl, hq, hmk, hT⟩
  replace hsl := hsl.ext hT (by simp) (fun _ h => .inl h)
  replace hkv := hkv.ext hT (by simp) (fun _ h => .inl h)
  replace hP := hP.trans hT
  replace e2 := e2.ext hT (by simp; exact n2)
  replace e5 := e5.ext hT (by simp; exact n5)
  clear hT
  refine W ?_
  refine WC_cutQ (σ := Str × Nat) (fun _ => [(2, .pointer (some ⟨b2, 0, none⟩)), (3, .pointer (some ⟨bm, 0, none⟩)), (4, kv), (5, .pointer (some ⟨b5, 0, none⟩))])
    (fun q w' => Mk w' bm (.slice p l.length c) q.2 ∧ q.2 ≤ 7 ∧ SlV [b5, bm] w' (.slice p l.length c) l ∧ SlV [b5, bm] w' kv kinds7 ∧ Blk w' b2 50 cs2 ∧ Blk w' b5 50 (rlC ⟨a, 739600 + f, o, nil4, nil4, u, q.1⟩ nilS nilS) ∧ (q.1 = [] ∨ q.1 ∈ kinds7) ∧ Stp [bm] wP w') ?_ ?_
  · repeat' (first | refine W1 ?_ | (exfalso; omega) | refine WL_split rfl rfl (fun hg => ?_) (fun hg => ?_) | refine WL_splitB rfl rfl (fun hg => ?_) (fun hg => ?_) | refine WC_cond rfl (fun hc => ?_) (fun hc => ?_) | refine WC_condB rfl (fun hc => ?_) (fun hc => ?_))
    · refine WL_eff (OE_call rfl (evs2 rfl rfl) (Next_any bm (.slice p l.length c) l _ 7 _ (by decide) (by omega) hmk (hsl.wk (fun b h => by simp at h; simp [h])) hl)) rfl ?_
      rintro _ w4 ⟨z, rfl, hz, hmk, hT⟩
      replace hsl := hsl.ext hT (by simp) (fun _ h => .inl h)
      replace hkv := hkv.ext hT (by simp) (fun _ h => .inl h)
      replace hP := hP.trans hT
      replace e2 := e2.ext hT (by simp; exact n2)
      replace e5 := e5.ext hT (by simp; exact n5)
      clear hT
      have hqn : z < kinds7.length := by show z < 7; omega
      refine W ?_
      refine WL_eff0 (OE_store1 (u := str kinds7[z]) rfl rfl rfl rfl e5 (by simp)) ?_
      rintro _ w6 ⟨hT, e5⟩
      replace hmk := hmk.ext hT (by simp; exact n5.symm)
      replace hsl := hsl.ext hT (by simp) (fun _ h => .inl h)
      replace hkv := hkv.ext hT (by simp) (fun _ h => .inl h)
      replace hP := hP.own hT (fun b hb => .inr (by simp at hb; omega))
      replace e2 := e2.ext hT (by simp; exact n52.symm)
      clear hT
      refine W ?_
      exact WQ_cut (kinds7[z], _) ⟨rfl, rfl, rfl, rfl, trivial⟩ ⟨hmk, by simp only; omega, hsl, hkv, e2, e5, .inr (List.getElem_mem _), hP⟩
    · exact WQ_cut ([], _) ⟨rfl, rfl, rfl, rfl, trivial⟩ ⟨hmk, by simp only; omega, hsl, hkv, e2, e5, .inl rfl, hP⟩
  clear hmk hsl hkv e2 e5 hP
  rintro ⟨v, iv⟩ w3 ⟨hmk, hiv, hsl, hkv, e2, e5, hv, hP⟩
  dsimp only at hmk hiv hsl hkv e2 e5 hv hP
  refine W ?_
  have hX3 : ∀ b ∈ b5 :: b2 :: bm :: X, b < w3.heap.size := fun b hb => by
    have h1 := e5.lt; have h2 := e2.lt; have h3 := hmk.lt; have h4 := hS.size; have h5 := hP.size
    simp only [List.mem_cons] at hb
    rcases hb with rfl | rfl | rfl | h
    · omega
    · omega
    · omega
    · have := hX b h; omega
  refine WL_eff (OE_call rfl (evs2 rfl rfl) ((gens 3 (by decide) (by decide)).2.1 (b5 :: b2 :: bm :: X) _ bm _ l _ _ rfl hmk (hsl.wk (fun b h => by simp at h; simp [h])) hl (by rw [z3]; omega) hX3)) rfl ?_
  clear hX3
  rintro _ w3 ⟨y, iy, ⟨ky, rfl, hy⟩, hsy, ⟨hty, hny⟩, hmk, hiy, hT⟩
  replace hsl := hsl.ext hT (by simp) (fun _ h => .inl h)
  replace hkv := hkv.ext hT (by simp) (fun _ h => .inl h)
  replace hP := hP.trans hT
  replace e2 := e2.ext hT (by simp; exact n2)
  replace e5 := e5.ext hT (by simp; exact n5)
  clear hT
  refine W ?_
  refine WL_eff0 (OE_store (us := ndC y ky) rfl rfl rfl rfl (ndC_one hy) e5 (by simp)) ?_
  rintro _ w3 ⟨hT, e5⟩
  replace e5 : Blk w3 b5 50 (rlC ⟨a, 739600 + f, o, y, nil4, u, v⟩ ky nilS) := e5
  replace hy := hy.ext hT (by simp) (fun _ h => .inl h)
  replace hmk := hmk.ext hT (by simp; exact n5.symm)
  replace hsl := hsl.ext hT (by simp) (fun _ h => .inl h)
  replace hkv := hkv.ext hT (by simp) (fun _ h => .inl h)
  replace hP := hP.own hT (fun b hb => .inr (by simp at hb; omega))
  replace e2 := e2.ext hT (by simp; exact n52.symm)
  clear hT
  refine W ?_
  have hX3 : ∀ b ∈ b5 :: b2 :: bm :: X, b < w3.heap.size := fun b hb => by
    have h1 := e5.lt; have h2 := e2.lt; have h3 := hmk.lt; have h4 := hS.size; have h5 := hP.size
    simp only [List.mem_cons] at hb
    rcases hb with rfl | rfl | rfl | h
    · omega
    · omega
    · omega
    · have := hX b h; omega
  refine WL_eff (OE_call rfl (evs2 rfl rfl) ((gens 4 (by decide) (by decide)).2.2 (b5 :: b2 :: bm :: X) _ bm _ l _ _ rfl hmk (hsl.wk (fun b h => by simp at h; simp [h])) hl (by rw [z4]; omega) hX3)) rfl ?_
  clear hX3
  rintro _ w3 ⟨x, ix, ⟨kx, rfl, hx⟩, hsx, ⟨htx, hnx⟩, hmk, hix, hT⟩
  replace hy := hy.ext hT (by simp) (fun _ h => .inl h)
  replace hsl := hsl.ext hT (by simp) (fun _ h => .inl h)
  replace hkv := hkv.ext hT (by simp) (fun _ h => .inl h)
  replace hP := hP.trans hT
  replace e2 := e2.ext hT (by simp; exact n2)
  replace e5 := e5.ext hT (by simp; exact n5)
  clear hT
  refine W ?_
  refine WL_eff0 (OE_store (us := ndC x kx) rfl rfl rfl rfl (ndC_one hx) e5 (by simp)) ?_
  rintro _ w3 ⟨hT, e5⟩
  replace e5 : Blk w3 b5 50 (rlC ⟨a, 739600 + f, o, y, x, u, v⟩ ky kx) := e5
  replace hy := hy.ext hT (by simp) (fun _ h => .inl h)
  replace hx := hx.ext hT (by simp) (fun _ h => .inl h)
  replace hmk := hmk.ext hT (by simp; exact n5.symm)
  replace hsl := hsl.ext hT (by simp) (fun _ h => .inl h)
  replace hkv := hkv.ext hT (by simp) (fun _ h => .inl h)
  replace hP := hP.own hT (fun b hb => .inr (by simp at hb; omega))
  replace e2 := e2.ext hT (by simp; exact n52.symm)
  clear hT
  refine W ?_
  try (apply WL_pure (PR_loadN_blk (us := rlC ⟨a, 739600 + f, o, y, x, u, v⟩ ky kx) rfl rfl e5 rfl rfl) rfl)
  try refine W ?_
  refine WL_eff0 (OE_storeA (us := rlC ⟨a, 739600 + f, o, y, x, u, v⟩ ky kx) rfl rfl rfl rfl (rlC_one ⟨a, 739600 + f, o, y, x, u, v⟩ hy hx) e2 (by rw [hl2]; rfl)) ?_
  rintro _ w4 ⟨hT, e2⟩
  refine W ?_
  refine WQ_retc rfl rfl rfl e2 rfl ?_
  refine .mk ⟨⟨a, 739600 + f, o, y, x, u, v⟩, ⟨ky, kx, rfl, (hy.ext hT (by simp) (fun _ h => .inl h)).wk (fun b h => by simp [h]), (hx.ext hT (by simp) (fun _ h => .inl h)).wk (fun b h => by simp [h])⟩, by simp only; omega, by simp only; omega, check_ok ha ho hu hv hf hty hny htx hnx, ?_⟩
  exact (hS.own hP (fun b hb => .inr (by simp at hb; omega))).own hT (fun b hb => .inr (by simp at hb; omega))
end Go.Proofs.YtfjmlobgjdmecaaDoor
/-
slices.Sort at this dump (written by the kit's lay-plain for this claim).
-/
namespace Go.Proofs
open Go.Shelf
def Tryd.lays189_ren : Go.Shelf.Ren := ⟨fun | 189 => 91 | 125 => 120 | 257 => 119 | 128 => 137 | 129 => 138 | 294 => 128 | 295 => 129 | 296 => 130 | 297 => 131 | 298 => 132 | 299 => 133 | 216 => 134 | 300 => 135 | 301 => 136 | 328 => 140 | 329 => 141 | 330 => 142 | 331 => 143 | 332 => 144 | 215 => 145 | 343 => 150 | n => n, fun | 28 => 25 | 3 => 3 | 46 => 138 | 0 => 0 | 51 => 170 | 53 => 137 | 4 => 4 | 183 => 163 | 182 => 162 | 131 => 167 | 5 => 5 | 9 => 9 | 218 => 172 | 222 => 176 | 228 => 179 | 229 => 180 | n => n, fun | n => n⟩
theorem Tryd.lays189 : Go.Proofs.Lays.n189 Tryd.prog Tryd.lays189_ren := {
  mixed := by kernel_rfl
  f125 := Tryd.func120.trans (congrArg some (by kernel_rfl))
  f128 := Tryd.func137.trans (congrArg some (by kernel_rfl))
  f129 := Tryd.func138.trans (congrArg some (by kernel_rfl))
  f189 := Tryd.func91.trans (congrArg some (by kernel_rfl))
  f215 := Tryd.func145.trans (congrArg some (by kernel_rfl))
  f216 := Tryd.func134.trans (congrArg some (by kernel_rfl))
  f257 := Tryd.func119.trans (congrArg some (by kernel_rfl))
  f294 := Tryd.func128.trans (congrArg some (by kernel_rfl))
  f295 := Tryd.func129.trans (congrArg some (by kernel_rfl))
  f296 := Tryd.func130.trans (congrArg some (by kernel_rfl))
  f297 := Tryd.func131.trans (congrArg some (by kernel_rfl))
  f298 := Tryd.func132.trans (congrArg some (by kernel_rfl))
  f299 := Tryd.func133.trans (congrArg some (by kernel_rfl))
  f300 := Tryd.func135.trans (congrArg some (by kernel_rfl))
  f301 := Tryd.func136.trans (congrArg some (by kernel_rfl))
  f328 := Tryd.func140.trans (congrArg some (by kernel_rfl))
  f329 := Tryd.func141.trans (congrArg some (by kernel_rfl))
  f330 := Tryd.func142.trans (congrArg some (by kernel_rfl))
  f331 := Tryd.func143.trans (congrArg some (by kernel_rfl))
  f332 := Tryd.func144.trans (congrArg some (by kernel_rfl))
  f343 := Tryd.func150.trans (congrArg some (by kernel_rfl))
  t0 := Tryd.underlying0
  a0 := Tryd.isAgg0
  z0 := Tryd.sizeOf0
  v0 := Tryd.zeroValue0
  t3 := Tryd.underlying3
  a3 := Tryd.isAgg3
  z3 := Tryd.sizeOf3
  v3 := Tryd.zeroValue3
  t4 := Tryd.underlying4
  a4 := Tryd.isAgg4
  z4 := Tryd.sizeOf4
  v4 := Tryd.zeroValue4
  t5 := Tryd.underlying5
  a5 := Tryd.isAgg5
  z5 := Tryd.sizeOf5
  v5 := Tryd.zeroValue5
  t9 := Tryd.underlying9
  a9 := Tryd.isAgg9
  z9 := Tryd.sizeOf9
  v9 := Tryd.zeroValue9
  t28 := Tryd.underlying25
  a28 := Tryd.isAgg25
  z28 := Tryd.sizeOf25
  v28 := Tryd.zeroValue25
  t46 := Tryd.underlying138
  a46 := Tryd.isAgg138
  z46 := Tryd.sizeOf138
  v46 := Tryd.zeroValue138
  t51 := Tryd.underlying170
  a51 := Tryd.isAgg170
  z51 := Tryd.sizeOf170
  v51 := Tryd.zeroValue170
  t53 := Tryd.underlying137
  a53 := Tryd.isAgg137
  z53 := Tryd.sizeOf137
  v53 := Tryd.zeroValue137
  t131 := Tryd.underlying167
  a131 := Tryd.isAgg167
  z131 := Tryd.sizeOf167
  v131 := Tryd.zeroValue167
  t182 := Tryd.underlying162
  a182 := Tryd.isAgg162
  z182 := Tryd.sizeOf162
  v182 := Tryd.zeroValue162
  t183 := Tryd.underlying163
  a183 := Tryd.isAgg163
  z183 := Tryd.sizeOf163
  v183 := Tryd.zeroValue163
  t218 := Tryd.underlying172
  a218 := Tryd.isAgg172
  z218 := Tryd.sizeOf172
  v218 := Tryd.zeroValue172
  t222 := Tryd.underlying176
  a222 := Tryd.isAgg176
  z222 := Tryd.sizeOf176
  v222 := Tryd.zeroValue176
  t228 := Tryd.underlying179
  a228 := Tryd.isAgg179
  z228 := Tryd.sizeOf179
  v228 := Tryd.zeroValue179
  t229 := Tryd.underlying180
  a229 := Tryd.isAgg180
  z229 := Tryd.sizeOf180
  v229 := Tryd.zeroValue180 }
open Go.Sort Go.RowKit in
theorem Tryd.slices_Sort_int (blk off cap : Nat) (zs : List Int) (w : World) (hH : Holds (Value.int .i64) w blk off zs.toArray) (hblk : blk < w.heap.size) (hsz : zs.length < 4611686018427387904) :
    Calls Tryd.prog 91 #[.slice (some ⟨blk, off, none⟩) zs.length cap] w fun e w' =>
      e = .returned (.tuple #[]) ∧ ∃ n os, w' = grow (putRow (Value.int .i64) (Sort.ahead w n) blk off (zs.mergeSort fun x y => decide (x ≤ y)).toArray) os := Any.slices_Sort_int Tryd.lays189 blk off cap zs w hH hblk hsz
open Go.RowKit Go.Sort in
theorem Tryd.slices_Sort_int_none (p : Option Addr) (cap : Nat) (w : World) :
    Calls Tryd.prog 91 #[.slice p 0 cap] w fun e w' => e = .returned (.tuple #[]) ∧ w' = w := Any.slices_Sort_int_none Tryd.lays189 p cap w
end Go.Proofs
namespace Go.Eng
open Go Go.RowKit
set_option linter.unusedVariables false
variable {X : List Nat} {w w' : World} {base T : Nat} {v : Value} {zs ys : List Int}
/-- an own row of numbers, in the heap's words -/
def RowI (w : World) (base T : Nat) (v : Value) (zs : List Int) : Prop := (v = .slice none 0 0 ∧ zs = []) ∨ ∃ g cap cur, v = .slice (some ⟨g, 0, none⟩) zs.length cap ∧ base ≤ g ∧ w.heap[g]? = some (.cells cur T (0, 0)) ∧ zs.length ≤ cap ∧ cap ≤ maxLen ∧ cur.size = cap ∧ cur.toList.take zs.length = zs.map (Value.int .i64)
theorem Row.toI (h : Row X w base T v zs) : RowI w base T v zs := by
  obtain ⟨css, hl, hr, hx, ho⟩ := h
  have hc : css = zs.map (fun x => [Value.int .i64 x]) := by
    apply List.ext_getElem (by simpa using hl)
    intro i h1 h2
    have : css[i] = [Value.int .i64 zs[i]] := hr i (by omega) h1
    simp [this]
  rcases ho with ⟨rfl, hn⟩ | ⟨g, cap, cur, rfl, hb, hg, hnc, hcm, hcs, ht⟩
  · exact .inl ⟨rfl, List.length_eq_zero_iff.1 hn⟩
  · refine .inr ⟨g, cap, cur, rfl, hb, hg, hnc, hcm, by simpa [GoRep.k, Flat.k] using hcs, ?_⟩
    have h2 : cur.toList.take (zs.length * 1) = css.flatten := ht
    rw [Nat.mul_one] at h2
    rw [h2, hc]
    clear h2 ht hx hr hl hc hnc hg hcs
    induction zs with
    | nil => rfl
    | cons a l ih => simp at ih ⊢; exact ih
theorem RowI.toRow (h : RowI w base T v zs) : Row X w base T v zs := by
  rcases h with ⟨rfl, rfl⟩ | ⟨g, cap, cur, rfl, hb, hg, hnc, hcm, hcs, ht⟩
  · exact Row.nil
  · refine ⟨zs.map (fun x => [Value.int .i64 x]), by simp, fun i h1 h2 => by simp; rfl, ?_⟩
    have hf : (zs.map (fun x => [Value.int .i64 x])).flatten = zs.map (Value.int .i64) := by
      clear ht hnc
      induction zs with
      | nil => rfl
      | cons a l ih => simp at ih ⊢; exact ih
    rw [hf]
    refine ⟨by simp [GoRep.k, Flat.k], .inr ⟨g, cap, cur, rfl, hb, hg, hnc, hcm, by simpa [GoRep.k, Flat.k] using hcs, by simpa [GoRep.k, Flat.k] using ht⟩⟩
theorem compact_spec {zs : List Int} (hs : zs.Pairwise (· ≤ ·)) : (Lib.compact zs).Pairwise (· < ·) ∧ ∀ y, y ∈ Lib.compact zs ↔ y ∈ zs := by
  have hd : ∀ i j, i ≤ j → j < zs.length → zs.toArray[i]! ≤ zs.toArray[j]! := by
    intro i j hij hj
    rcases Nat.lt_or_eq_of_le hij with h | rfl
    · have := List.pairwise_iff_getElem.1 hs i j (by omega) hj h
      simpa [getElem!_pos, hj, show i < zs.length by omega] using this
    · exact Int.le_refl _
  have key : ∀ m, m ≤ zs.length → (Lib.compactUpTo zs.toArray m).Pairwise (· < ·) ∧ ∀ y, y ∈ Lib.compactUpTo zs.toArray m ↔ ∃ i, i < m ∧ y = zs.toArray[i]! := by
    intro m
    induction m with
    | zero => intro _; refine ⟨by simp [Lib.compactUpTo], fun y => by simp [Lib.compactUpTo]⟩
    | succ m ih =>
      intro hm
      obtain ⟨i1, i2⟩ := ih (by omega)
      rw [Lib.compactUpTo_succ]
      by_cases hk : Lib.keeps zs.toArray m = true
      · rw [if_pos hk]
        refine ⟨List.pairwise_append.2 ⟨i1, List.pairwise_singleton _ _, fun a ha b hb => ?_⟩, fun y => ?_⟩
        · obtain ⟨i, hi, rfl⟩ := (i2 a).1 ha
          rw [List.mem_singleton.1 hb]
          have hk' : m = 0 ∨ zs.toArray[m]! ≠ zs.toArray[m - 1]! := by simpa [Lib.keeps] using hk
          have h1 := hd i (m - 1) (by omega) (by omega)
          have h2 := hd (m - 1) m (by omega) (by omega)
          have h3 := hk'.resolve_left (by omega)
          omega
        · rw [List.mem_append, i2, List.mem_singleton]
          constructor
          · rintro (⟨i, hi, rfl⟩ | rfl)
            · exact ⟨i, by omega, rfl⟩
            · exact ⟨m, by omega, rfl⟩
          · rintro ⟨i, hi, rfl⟩
            by_cases hi' : i < m
            · exact .inl ⟨i, hi', rfl⟩
            · exact .inr (by rw [show i = m by omega])
      · rw [if_neg hk, List.append_nil]
        have hk' : ¬ (m = 0 ∨ zs.toArray[m]! ≠ zs.toArray[m - 1]!) := by simpa [Lib.keeps] using hk
        have hm0 : m ≠ 0 := fun h => hk' (.inl h)
        have he : zs.toArray[m]! = zs.toArray[m - 1]! := Decidable.byContradiction fun h => hk' (.inr h)
        refine ⟨i1, fun y => ?_⟩
        rw [i2]
        constructor
        · rintro ⟨i, hi, rfl⟩
          exact ⟨i, by omega, rfl⟩
        · rintro ⟨i, hi, rfl⟩
          by_cases hi' : i < m
          · exact ⟨i, hi', rfl⟩
          · exact ⟨m - 1, by omega, by rw [show i = m by omega, he]⟩
  obtain ⟨h1, h2⟩ := key zs.length (Nat.le_refl _)
  refine ⟨h1, fun y => ?_⟩
  show y ∈ Lib.compactUpTo zs.toArray zs.length ↔ _
  rw [h2]
  constructor
  · rintro ⟨i, hi, rfl⟩
    simp [getElem!_pos, hi]
  · intro h
    obtain ⟨i, hi, rfl⟩ := List.getElem_of_mem h
    exact ⟨i, hi, by simp [getElem!_pos, hi]⟩
/-- two ascending lists of the same members -/
theorem asc_eq : ∀ {a b : List Int}, a.Pairwise (· < ·) → b.Pairwise (· < ·) → (∀ y, y ∈ a ↔ y ∈ b) → a = b
  | [], [], _, _, _ => rfl
  | [], y :: b, _, _, h => absurd ((h y).2 (by simp)) (by simp)
  | x :: a, [], _, _, h => absurd ((h x).1 (by simp)) (by simp)
  | x :: a, y :: b, ha, hb, h => by
    rw [List.pairwise_cons] at ha hb
    have hxy : x = y := by
      have h1 := (h x).1 (by simp)
      have h2 := (h y).2 (by simp)
      rcases List.mem_cons.1 h1 with e | h1
      · exact e
      · rcases List.mem_cons.1 h2 with e | h2
        · exact e.symm
        · have := hb.1 x h1
          have := ha.1 y h2
          omega
    subst hxy
    congr 1
    refine asc_eq ha.2 hb.2 fun z => ?_
    constructor
    · intro hz
      rcases List.mem_cons.1 ((h z).1 (List.mem_cons_of_mem _ hz)) with e | h1
      · have := ha.1 z hz; omega
      · exact h1
    · intro hz
      rcases List.mem_cons.1 ((h z).2 (List.mem_cons_of_mem _ hz)) with e | h1
      · have := hb.1 z hz; omega
      · exact h1
/-- sorted and compacted -/
def sortU (zs : List Int) : List Int := Lib.compact (zs.mergeSort fun x y => decide (x ≤ y))
theorem sortU_spec (zs : List Int) : (sortU zs).Pairwise (· < ·) ∧ ∀ y, y ∈ sortU zs ↔ y ∈ zs := by
  have hp : (zs.mergeSort fun x y => decide (x ≤ y)).Pairwise (· ≤ ·) := by
    have := List.pairwise_mergeSort (le := fun (x y : Int) => decide (x ≤ y)) (fun a b c h1 h2 => by simp at *; omega) (fun a b => by simp; omega) zs
    exact this.imp (fun h => by simpa using h)
  obtain ⟨h1, h2⟩ := compact_spec hp
  exact ⟨h1, fun y => by unfold sortU; rw [h2]; exact (List.mergeSort_perm zs _).mem_iff⟩
theorem put_heap {g q : Nat} {cur : Array Value} (os : Array Obj) (h : w.heap[g]? = some (.cells cur T (0, 0))) (hl : ys.length ≤ cur.size) :
    Stp [g] w (Go.Sort.grow (Go.Sort.putRow (Value.int .i64) (Go.Sort.ahead w q) g 0 ys.toArray) os) ∧
    ∃ cur', (Go.Sort.grow (Go.Sort.putRow (Value.int .i64) (Go.Sort.ahead w q) g 0 ys.toArray) os).heap[g]? = some (.cells cur' T (0, 0)) ∧ cur'.size = cur.size ∧ cur'.toList.take ys.length = ys.map (Value.int .i64) := by
  have hlt : g < w.heap.size := (Array.getElem?_eq_some_iff.1 h).1
  have hh : (Go.Sort.grow (Go.Sort.putRow (Value.int .i64) (Go.Sort.ahead w q) g 0 ys.toArray) os).heap = w.heap.modify g (Go.Sort.onCells (Go.Sort.putCells (Value.int .i64) 0 ys.toArray)) ++ os := rfl
  refine ⟨⟨rfl, rfl, rfl, by rw [hh]; simp, fun b hb hn => ?_⟩, Go.Sort.putCells (Value.int .i64) 0 ys.toArray cur, ?_, by simp [Go.Sort.putCells], ?_⟩
  · rw [hh, Array.getElem?_append_left (by simpa using hb), Array.getElem?_modify, if_neg (by simp at hn; exact fun e => hn e.symm)]
  · rw [hh, Array.getElem?_append_left (by simpa using hlt), Array.getElem?_modify, if_pos rfl, h]
    rfl
  · apply List.ext_getElem
    · simp [Go.Sort.putCells]; omega
    · intro i h1 h2
      have hi : i < ys.length := by simpa using h2
      simp [Go.Sort.putCells, hi]
theorem holds_row {g : Nat} {cur : Array Value} (h : w.heap[g]? = some (.cells cur T (0, 0))) (ht : cur.toList.take zs.length = zs.map (Value.int .i64)) : Go.Sort.Holds (Value.int .i64) w g 0 zs.toArray := by
  intro j hj
  have hj' : j < zs.length := by simpa using hj
  have hc : cur[j]? = some (.int .i64 zs[j]) := by
    have h1 : (cur.toList.take zs.length)[j]? = some (.int .i64 zs[j]) := by rw [ht]; simp [hj']
    rw [List.getElem?_take, if_pos hj'] at h1
    simpa using h1
  constructor
  · simp [World.cell?, h, hc, hj']
  · simp [World.frozen?, h]
end Go.Eng
namespace Go.Proofs.YtfjmlobgjdmecaaDoor
open Go Go.Eng Go.RowKit
set_option linter.unusedVariables false
theorem Sort_row {X : List Nat} {base T : Nat} {v : Value} {zs : List Int} (w : World) (h : Row X w base T v zs) (hsz : zs.length < 4611686018427387904) :
    Calls Tryd.prog 91 #[v] w (Ret fun r w' => r = .tuple #[] ∧ Row X w' base T v (zs.mergeSort fun x y => decide (x ≤ y)) ∧ Stp (ob v) w w') := by
  rcases h.toI with ⟨rfl, rfl⟩ | ⟨g, cap, cur, rfl, hb, hg, hnc, hcm, hcs, ht⟩
  · refine (Tryd.slices_Sort_int_none none 0 w).mono ?_
    rintro _ _ ⟨rfl, rfl⟩
    exact .mk ⟨rfl, by simpa using Row.nil, Stp.refl _ _⟩
  · have hlt : g < w.heap.size := (Array.getElem?_eq_some_iff.1 hg).1
    refine (Tryd.slices_Sort_int g 0 cap zs w (holds_row hg ht) hlt hsz).mono ?_
    rintro _ _ ⟨rfl, q, os, rfl⟩
    have hl : (zs.mergeSort fun x y => decide (x ≤ y)).length = zs.length := List.length_mergeSort zs
    obtain ⟨hS, cur', h1, h2, h3⟩ := put_heap (q := q) os hg (ys := zs.mergeSort fun x y => decide (x ≤ y)) (by omega)
    refine .mk ⟨rfl, RowI.toRow (.inr ⟨g, cap, cur', by rw [hl], hb, h1, by omega, hcm, by omega, h3⟩), hS⟩
theorem Compact_row {X : List Nat} {base T : Nat} {v : Value} {zs : List Int} (w : World) (h : Row X w base T v zs) (hsz : zs.length ≤ 9223372036854775807) :
    Calls Tryd.prog 92 #[v] w (Ret fun r w' => Row X w' base T r (Lib.compact zs) ∧ Stp (ob v) w w' ∧ ob r = ob v) := by
  rcases h.toI with ⟨rfl, rfl⟩ | ⟨g, cap, cur, rfl, hb, hg, hnc, hcm, hcs, ht⟩
  · refine (Tryd.slices_Compact_int_empty none 0 w).mono ?_
    rintro _ _ ⟨rfl, rfl⟩
    exact .mk ⟨by rw [show Lib.compact ([] : List Int) = [] from rfl]; exact Row.nil, Stp.refl _ _, rfl⟩
  · refine (Tryd.slices_Compact_int g 0 cap zs w (holds_row hg ht) hsz hnc).mono ?_
    rintro _ _ ⟨rfl, q, rfl⟩
    have hcl : (Lib.compact zs).length ≤ zs.length := by
      unfold Lib.compact Lib.compactUpTo
      rw [List.length_map]
      exact Nat.le_trans (List.length_filter_le _ _) (by simp)
    have e : ∀ W : World, W = Go.Sort.grow W #[] := fun W => by simp [Go.Sort.grow]
    rw [e (Go.Sort.putRow _ _ _ _ _)]
    obtain ⟨hS, cur', h1, h2, h3⟩ := put_heap (q := q) #[] hg (ys := Lib.compact zs ++ List.replicate (zs.length - (Lib.compact zs).length) 0) (by simp; omega)
    refine .mk ⟨RowI.toRow (.inr ⟨g, cap, cur', rfl, hb, h1, by omega, hcm, by omega, ?_⟩), hS, rfl⟩
    have h4 := congrArg (List.take (Lib.compact zs).length) h3
    rw [List.take_take, Nat.min_eq_left (by simp)] at h4
    rw [h4]
    simp
end Go.Proofs.YtfjmlobgjdmecaaDoor
namespace Go.Proofs.YtfjmlobgjdmecaaDoor
open Go Go.Eng Go.RowKit
set_option linter.unusedVariables false

/-! ### the fields that an expression uses -/
def ownU (k : Int) (s : Str) : List Int := if (fieldF s).2.2 = true ∧ k = 4 then [(fieldF s).1] else []
def usesF : Nd → List Int
  | .mk k n s l => sortU (ownU k s ++ (l.map usesF).flatten)
theorem usesF_eq (k n : Int) (s : Str) (l : List Nd) : usesF (.mk k n s l) = sortU (ownU k s ++ (l.map usesF).flatten) := by rw [usesF]
def usesT (nm : Str) : Nd → Bool
  | .mk k n s l => (decide (k = 4) && decide (s = nm)) || (l.map (usesT nm)).any id
theorem usesT_eq (nm : Str) (k n : Int) (s : Str) (l : List Nd) : usesT nm (.mk k n s l) = ((decide (k = 4) && decide (s = nm)) || (l.map (usesT nm)).any id) := by rw [usesT]
def usesR (x : Nd) : List Int := ((List.range 7).filter (fun i => usesT (fieldNames.getD i []) x)).map (fun (i : Nat) => (i : Int))
theorem field_spec (s : Str) (y : Int) : ((fieldF s).2.2 = true ∧ y = (fieldF s).1) ↔ ∃ i, i < 7 ∧ s = fieldNames.getD i [] ∧ y = (i : Int) := by
  by_cases h0 : s = [100, 97, 121]
  · subst h0
    have e : fieldF [100, 97, 121] = (0, 3, true) := by decide +kernel
    have u : ∀ i, i < 7 → [100, 97, 121] = fieldNames.getD i [] → i = 0 := by decide +kernel
    rw [e]
    constructor
    · rintro ⟨-, rfl⟩; exact ⟨0, by decide, by decide +kernel, rfl⟩
    · rintro ⟨i, hi, he, rfl⟩; rw [u i hi he]; exact ⟨rfl, rfl⟩
  by_cases h1 : s = [115, 101, 114, 118, 101, 100]
  · subst h1
    have e : fieldF [115, 101, 114, 118, 101, 100] = (1, 3, true) := by decide +kernel
    have u : ∀ i, i < 7 → [115, 101, 114, 118, 101, 100] = fieldNames.getD i [] → i = 1 := by decide +kernel
    rw [e]
    constructor
    · rintro ⟨-, rfl⟩; exact ⟨1, by decide, by decide +kernel, rfl⟩
    · rintro ⟨i, hi, he, rfl⟩; rw [u i hi he]; exact ⟨rfl, rfl⟩
  by_cases h2 : s = [101, 120, 116, 114, 97]
  · subst h2
    have e : fieldF [101, 120, 116, 114, 97] = (2, 1, true) := by decide +kernel
    have u : ∀ i, i < 7 → [101, 120, 116, 114, 97] = fieldNames.getD i [] → i = 2 := by decide +kernel
    rw [e]
    constructor
    · rintro ⟨-, rfl⟩; exact ⟨2, by decide, by decide +kernel, rfl⟩
    · rintro ⟨i, hi, he, rfl⟩; rw [u i hi he]; exact ⟨rfl, rfl⟩
  by_cases h3 : s = [98, 121]
  · subst h3
    have e : fieldF [98, 121] = (3, 1, true) := by decide +kernel
    have u : ∀ i, i < 7 → [98, 121] = fieldNames.getD i [] → i = 3 := by decide +kernel
    rw [e]
    constructor
    · rintro ⟨-, rfl⟩; exact ⟨3, by decide, by decide +kernel, rfl⟩
    · rintro ⟨i, hi, he, rfl⟩; rw [u i hi he]; exact ⟨rfl, rfl⟩
  by_cases h4 : s = [116, 111]
  · subst h4
    have e : fieldF [116, 111] = (4, 1, true) := by decide +kernel
    have u : ∀ i, i < 7 → [116, 111] = fieldNames.getD i [] → i = 4 := by decide +kernel
    rw [e]
    constructor
    · rintro ⟨-, rfl⟩; exact ⟨4, by decide, by decide +kernel, rfl⟩
    · rintro ⟨i, hi, he, rfl⟩; rw [u i hi he]; exact ⟨rfl, rfl⟩
  by_cases h5 : s = [99, 111, 117, 114, 116]
  · subst h5
    have e : fieldF [99, 111, 117, 114, 116] = (5, 1, true) := by decide +kernel
    have u : ∀ i, i < 7 → [99, 111, 117, 114, 116] = fieldNames.getD i [] → i = 5 := by decide +kernel
    rw [e]
    constructor
    · rintro ⟨-, rfl⟩; exact ⟨5, by decide, by decide +kernel, rfl⟩
    · rintro ⟨i, hi, he, rfl⟩; rw [u i hi he]; exact ⟨rfl, rfl⟩
  by_cases h6 : s = [97, 109, 111, 117, 110, 116]
  · subst h6
    have e : fieldF [97, 109, 111, 117, 110, 116] = (6, 1, true) := by decide +kernel
    have u : ∀ i, i < 7 → [97, 109, 111, 117, 110, 116] = fieldNames.getD i [] → i = 6 := by decide +kernel
    rw [e]
    constructor
    · rintro ⟨-, rfl⟩; exact ⟨6, by decide, by decide +kernel, rfl⟩
    · rintro ⟨i, hi, he, rfl⟩; rw [u i hi he]; exact ⟨rfl, rfl⟩
  constructor
  · rintro ⟨h, -⟩
    exfalso
    have hn : fieldNames.findIdx? (isS s) = none := List.findIdx?_eq_none_iff.2 fun x hx => by
      simp only [fieldNames, List.mem_cons, List.not_mem_nil, or_false] at hx
      rcases hx with rfl | rfl | rfl | rfl | rfl | rfl | rfl <;> simp only [isS, decide_eq_false_iff_not] <;> intro e <;> first | exact (absurd e h0) | exact (absurd e.symm h0) | exact (absurd e h1) | exact (absurd e.symm h1) | exact (absurd e h2) | exact (absurd e.symm h2) | exact (absurd e h3) | exact (absurd e.symm h3) | exact (absurd e h4) | exact (absurd e.symm h4) | exact (absurd e h5) | exact (absurd e.symm h5) | exact (absurd e h6) | exact (absurd e.symm h6) | skip
    simp [fieldF, idx, hn] at h
  · rintro ⟨i, hi, he, -⟩
    exfalso
    match i, hi with
    | 0, _ => exact h0 he
    | 1, _ => exact h1 he
    | 2, _ => exact h2 he
    | 3, _ => exact h3 he
    | 4, _ => exact h4 he
    | 5, _ => exact h5 he
    | 6, _ => exact h6 he
theorem usesR_asc (x : Nd) : (usesR x).Pairwise (· < ·) := by
  unfold usesR
  rw [List.pairwise_map]
  exact (List.pairwise_lt_range.filter _).imp (fun h => by omega)
theorem mem_usesR (x : Nd) (y : Int) : y ∈ usesR x ↔ ∃ i, i < 7 ∧ usesT (fieldNames.getD i []) x = true ∧ y = (i : Int) := by
  unfold usesR
  simp only [List.mem_map, List.mem_filter, List.mem_range]
  constructor
  · rintro ⟨i, ⟨h1, h2⟩, rfl⟩; exact ⟨i, h1, h2, rfl⟩
  · rintro ⟨i, h1, h2, rfl⟩; exact ⟨i, ⟨h1, h2⟩, rfl⟩
theorem uses_eq (x : Nd) : usesF x = usesR x := by
  induction x using Nd.ind with
  | h k n s l ih =>
  rw [usesF_eq]
  refine asc_eq (sortU_spec _).1 (usesR_asc _) fun y => ?_
  rw [(sortU_spec _).2, mem_usesR, List.mem_append]
  have h1 : y ∈ ownU k s ↔ k = 4 ∧ ∃ i, i < 7 ∧ s = fieldNames.getD i [] ∧ y = (i : Int) := by
    rw [← field_spec]
    unfold ownU
    by_cases h : (fieldF s).2.2 = true ∧ k = 4
    · rw [if_pos h, List.mem_singleton]; exact ⟨fun e => ⟨h.2, h.1, e⟩, fun e => e.2.2⟩
    · rw [if_neg h]; exact ⟨fun e => (by cases e), fun e => absurd ⟨e.2.1, e.1⟩ h⟩
  rw [h1]
  constructor
  · rintro (⟨rfl, i, hi, he, rfl⟩ | h)
    · exact ⟨i, hi, by rw [usesT_eq, ← he]; simp, rfl⟩
    · obtain ⟨z, hz, hy⟩ := List.mem_flatten.1 h
      obtain ⟨c, hc, rfl⟩ := List.mem_map.1 hz
      rw [ih c hc, mem_usesR] at hy
      obtain ⟨i, hi, hu, rfl⟩ := hy
      refine ⟨i, hi, ?_, rfl⟩
      rw [usesT_eq, Bool.or_eq_true]
      exact .inr (List.any_eq_true.2 ⟨_, List.mem_map.2 ⟨c, hc, rfl⟩, hu⟩)
  · rintro ⟨i, hi, hu, rfl⟩
    rw [usesT_eq, Bool.or_eq_true] at hu
    rcases hu with hu | hu
    · simp only [Bool.and_eq_true, decide_eq_true_eq] at hu
      exact .inl ⟨hu.1, i, hi, hu.2, rfl⟩
    · obtain ⟨z, hz, hz2⟩ := List.any_eq_true.1 hu
      obtain ⟨c, hc, rfl⟩ := List.mem_map.1 hz
      exact .inr (List.mem_flatten.2 ⟨usesF c, List.mem_map.2 ⟨c, hc, rfl⟩, by rw [ih c hc, mem_usesR]; exact ⟨i, hi, hz2, rfl⟩⟩)
theorem usesF_len (x : Nd) : (usesF x).length ≤ 7 := by
  rw [uses_eq, usesR, List.length_map]
  exact Nat.le_trans (List.length_filter_le _ _) (by simp)
theorem ownU_len (k : Int) (s : Str) : (ownU k s).length ≤ 1 := by
  unfold ownU
  split <;> simp
theorem flat_len (l : List Nd) : ((l.map usesF).flatten).length ≤ 7 * l.length := by
  induction l with
  | nil => simp
  | cons a l ih =>
    have := usesF_len a
    simp only [List.map_cons, List.flatten_cons, List.length_append, List.length_cons]
    omega
set_option maxHeartbeats 1000000 in
theorem Uses_any (x : Nd) : ∀ (v : Value) (w : World), okN x = true → NdV [] w v x → SlV [] w flds fieldNames →
    Calls Tryd.prog 50 #[v] w (Ret fun r w' => Row [] w' w.heap.size 3 r (usesF x) ∧ Stp [] w w') := by
  induction x using Nd.ind with
  | h k n s l ih =>
  intro v w hok hx hF
  obtain ⟨hk1, hk2⟩ := (okN_iff _).1 hok
  replace hk1 : l.length ≤ 1000 := hk1
  replace hk2 : ∀ y ∈ l, okN y = true := hk2
  obtain ⟨kv, rfl, hs⟩ := hx
  replace hs : SlV [] w kv l := hs
  have hmax := hs.max
  have hsW := hs
  have hol := ownU_len k s
  rw [usesF_eq]
  refine calls_of_WC1 (n := 42) Tryd.func50 rfl rfl rfl ?_
  refine W ?_
  refine WL_eff (OE_box rfl) rfl ?_
  rintro _ w1 ⟨b, rfl, hbb, hblk, hS⟩
  replace hblk : Blk w1 b _ (ndL k n s kv) := hblk
  replace hs := hs.up hS
  refine W ?_
  refine WL_eff (OE_call rfl (evs1 rfl) (Field_any s _ (hF.up hS))) rfl ?_
  rintro _ w2 ⟨rfl, hT⟩
  replace hblk := hblk.up hT
  replace hs := hs.up hT
  replace hS := hS.trans hT
  clear hT hbb
  have hwb := hS.size
  refine W ?_
  refine WL_cutQ (σ := Bool) (fun q => [(1, .pointer (some ⟨b, 0, none⟩)), (3, .slice none 0 0), (4, .int .i64 (fieldF s).1), (21, .bool q)]) (fun q w' => w' = w2 ∧ q = decide ((fieldF s).2.2 = true ∧ k = 4)) ?_ ?_
  · repeat' (first | refine W1 ?_ | (exfalso; omega) | refine WL_split rfl rfl (fun hg => ?_) (fun hg => ?_) | refine WL_splitB rfl rfl (fun hg => ?_) (fun hg => ?_) | refine WC_cond rfl (fun hc => ?_) (fun hc => ?_) | refine WC_condB rfl (fun hc => ?_) (fun hc => ?_))
    all_goals exact WQ_cut _ ⟨rfl, rfl, rfl, rfl, trivial⟩ ⟨rfl, by simp [*]⟩
  rintro q _ ⟨rfl, hq⟩
  try dsimp only at hq ⊢
  refine W ?_
  refine WC_cutQ (σ := Value) (fun u => [(1, .pointer (some ⟨b, 0, none⟩)), (3, u)]) (fun u w' => Row [] w' w.heap.size 3 u (ownU k s) ∧ Blk w' b 24 (ndL k n s kv) ∧ SlV [] w' kv l ∧ Stp [] w w') ?_ ?_
  · cases q with
    | false =>
      have hno : ownU k s = [] := by unfold ownU; rw [if_neg (by simpa using hq.symm)]
      repeat' (first | refine W1 ?_ | (exfalso; omega) | refine WL_split rfl rfl (fun hg => ?_) (fun hg => ?_) | refine WL_splitB rfl rfl (fun hg => ?_) (fun hg => ?_) | refine WC_cond rfl (fun hc => ?_) (fun hc => ?_) | refine WC_condB rfl (fun hc => ?_) (fun hc => ?_))
      exact WQ_cut (.slice none 0 0) ⟨rfl, rfl, trivial⟩ ⟨by rw [hno]; exact Row.nil, hblk, hs, hS⟩
    | true =>
      have hno : ownU k s = [(fieldF s).1] := by unfold ownU; rw [if_pos (by simpa using hq.symm)]
      repeat' (first | refine W1 ?_ | (exfalso; omega) | refine WL_split rfl rfl (fun hg => ?_) (fun hg => ?_) | refine WL_splitB rfl rfl (fun hg => ?_) (fun hg => ?_) | refine WC_cond rfl (fun hc => ?_) (fun hc => ?_) | refine WC_condB rfl (fun hc => ?_) (fun hc => ?_))
      refine WL_eff (OE_buildSlice (vs := [(0, .int .i64 (fieldF s).1)]) rfl (buildSI1 _)) rfl ?_
      rintro bv w4 hN
      have hbv : SlV (ob (.slice none 0 0) ++ []) w4 bv [(fieldF s).1] := hN.slv (fun b hb => by simp [ob] at hb) rfl rfl (by simp [maxLen])
      have hS4 := NewSl.stp hN
      clear hN
      replace hblk := hblk.up hS4
      replace hs := hs.up hS4
      replace hS := hS.trans hS4
      have hwb4 := hS.size
      refine WL_eff (OE_append (X := []) (base := w.heap.size) rfl (by decide) rfl rfl Row.nil hbv (by simp only [List.length_cons, List.length_nil]; omega) (by simp only [List.length_cons, List.length_nil, maxLen]; omega) hwb4) rfl ?_
      rintro u' w5 ⟨hrow', hS5, _⟩
      replace hS5 : Stp [] w4 w5 := hS5.mono (by simp [ob])
      refine W ?_
      exact WQ_cut u' ⟨rfl, rfl, trivial⟩ ⟨by rw [hno]; exact hrow', hblk.up hS5, hs.up hS5, hS.trans hS5⟩
  clear hq q hS hblk hs hwb
  rintro u w1 ⟨hrow, hblk, hs, hS⟩
  try dsimp only at hrow hblk hs hS ⊢
  refine W ?_
  refine WC_loop (σ := Nat × Value) (fun q => [(3, q.2), (27, kv), (28, .int .i64 (l.length : Int)), (29, .int .i64 (q.1 : Int))]) (fun q w' => q.1 ≤ l.length ∧ Row [] w' w.heap.size 3 q.2 (ownU k s ++ ((l.take q.1).map usesF).flatten) ∧ Stp [] w w') (fun q => l.length - q.1) (0, u) ⟨rfl, rfl, rfl, rfl, trivial⟩ ⟨Nat.zero_le _, by simpa using hrow, hS⟩ ?_
  clear hs hblk hrow hS
  rintro ⟨j, u⟩ w2 ⟨hj, hrow, hS⟩
  dsimp only at hj hrow ⊢
  have hs := hsW.up hS
  have hfl := flat_len (l.take j)
  rw [List.length_take, Nat.min_eq_left hj] at hfl
  by_cases hlt : j < l.length
  · obtain ⟨kv2, hs2, hc2⟩ := hs.nd hlt
    have hul := usesF_len l[j]
    repeat' (first | refine W1 ?_ | (exfalso; omega) | refine WL_split rfl rfl (fun hg => ?_) (fun hg => ?_) | refine WL_splitB rfl rfl (fun hg => ?_) (fun hg => ?_) | refine WC_cond rfl (fun hc => ?_) (fun hc => ?_) | refine WC_condB rfl (fun hc => ?_) (fun hc => ?_))
    apply WL_pure (PR_loadNd rfl rfl hs hlt hc2) rfl
    refine WL_eff OE_alloc rfl ?_
    rintro _ w4 ⟨b8, rfl, hb8, e8, hT⟩
    refine WL_eff0 (OE_storeA (us := ndC l[j] kv2) rfl rfl rfl rfl (ndC_one hs2) e8 rfl) ?_
    rintro _ w5 ⟨hT2, e8'⟩
    have hT3 := hT.own hT2 (fun b hb => .inr (by simp at hb; omega))
    clear hT hT2 e8 hb8
    replace hrow := hrow.up hT3
    replace hS := hS.trans hT3
    replace hs2 := hs2.up hT3
    clear hT3
    refine W ?_
    refine WL_eff (OE_call rfl (evs1 rfl) (ih l[j] (List.getElem_mem hlt) _ _ (hk2 _ (List.getElem_mem hlt)) ⟨kv2, rfl, hs2⟩ (hF.up hS))) rfl ?_
    rintro rv w6 ⟨hr, hS6⟩
    have hrv : SlV (ob u ++ []) w6 rv (usesF l[j]) := (RowI.toRow hr.toI).slv (fun b hb => (hrow.ob_le b (by simpa using hb)).2)
    replace hrow := hrow.up hS6
    replace hS := hS.trans hS6
    have hbase := hS.size
    clear hr hS6
    refine WL_eff (OE_append (X := []) (base := w.heap.size) rfl (by decide) rfl rfl hrow hrv (by rw [List.length_append]; omega) (by rw [List.length_append]; simp only [maxLen]; omega) hbase) rfl ?_
    rintro u' w7 ⟨hrow', hS7, _⟩
    refine W ?_
    refine WQ_loop (j + 1, u') ⟨rfl, rfl, rfl, rfl, trivial⟩ ⟨by dsimp only; omega, ?_, hS.own hS7 (fun c hc => .inr (hrow.ob_le c hc).1)⟩ (by dsimp only; omega)
    · dsimp only
      rw [List.take_succ_eq_append_getElem hlt, List.map_append, List.flatten_append, ← List.append_assoc]
      simpa using hrow'
  · have hje : j = l.length := by omega
    subst hje
    rw [List.take_length] at hrow hfl
    have hll : (ownU k s ++ (l.map usesF).flatten).length ≤ 8000 := by rw [List.length_append]; omega
    repeat' (first | refine W1 ?_ | (exfalso; omega) | refine WL_split rfl rfl (fun hg => ?_) (fun hg => ?_) | refine WL_splitB rfl rfl (fun hg => ?_) (fun hg => ?_) | refine WC_cond rfl (fun hc => ?_) (fun hc => ?_) | refine WC_condB rfl (fun hc => ?_) (fun hc => ?_))
    refine WL_eff (OE_call rfl (evs1 rfl) (Sort_row _ hrow (by omega))) rfl ?_
    rintro _ w7 ⟨rfl, hrow2, hS7⟩
    refine W ?_
    refine WL_eff (OE_call rfl (evs1 rfl) (Compact_row _ hrow2 (by rw [List.length_mergeSort]; omega))) rfl ?_
    rintro rv w8 ⟨hrow3, hS8, hob⟩
    refine W ?_
    first | refine WQ_ret1 rfl rfl ?_ | refine WQ_ret2 rfl rfl rfl ?_ | refine WQ_ret3 rfl rfl rfl rfl ?_ | refine WQ_ret0 rfl ?_ | refine WQ_end0 rfl ?_
    exact .mk ⟨hrow3, (hS.own hS7 (fun c hc => .inr (hrow.ob_le c hc).1)).own hS8 (fun c hc => .inr (hrow.ob_le c hc).1)⟩
end Go.Proofs.YtfjmlobgjdmecaaDoor
namespace Go.Proofs.YtfjmlobgjdmecaaDoor
open Go Go.Eng Go.RowKit
set_option linter.unusedVariables false

theorem fieldL_any (s : Str) (w : World) : Calls Tryd.prog 85 #[str s] w (Ret fun r w' => (∀ X, NdV X w' r (.mk 4 0 s [])) ∧ Stp [] w w') := by
  refine calls_of_WC1 (n := 5) Tryd.func85 rfl rfl rfl ?_
  refine W ?_
  refine WL_eff OE_alloc rfl ?_
  rintro _ w1 ⟨b, rfl, hb, hblk, hS⟩
  refine W ?_
  apply WL_build (vs := [(0, .int .i64 4), (2, str s)]) rfl (buildN02 _ _) rfl
  refine WL_eff0 (OE_storeA (us := ndC (.mk 4 0 s []) (.slice none 0 0)) rfl rfl rfl rfl (ndC_one (x := .mk 4 0 s []) (nilSlv (α := Nd) [] w)) hblk rfl) ?_
  rintro _ w2 ⟨hS2, hblk2⟩
  refine W ?_
  refine WQ_retc rfl rfl rfl hblk2 rfl ?_
  exact .mk ⟨fun X => ⟨_, rfl, nilSlv _ _⟩, hS.own hS2 (fun c hc => .inr (by simp at hc; omega))⟩
theorem numberL_any (n : Int) (w : World) : Calls Tryd.prog 42 #[.int .i64 n] w (Ret fun r w' => (∀ X, NdV X w' r (.mk 1 n [] [])) ∧ Stp [] w w') := by
  refine calls_of_WC1 (n := 5) Tryd.func42 rfl rfl rfl ?_
  refine W ?_
  refine WL_eff OE_alloc rfl ?_
  rintro _ w1 ⟨b, rfl, hb, hblk, hS⟩
  refine W ?_
  apply WL_build (vs := [(0, .int .i64 1), (1, .int .i64 n)]) rfl (buildN01 _ _) rfl
  refine WL_eff0 (OE_storeA (us := ndC (.mk 1 n [] []) (.slice none 0 0)) rfl rfl rfl rfl (ndC_one (x := .mk 1 n [] []) (nilSlv (α := Nd) [] w)) hblk rfl) ?_
  rintro _ w2 ⟨hS2, hblk2⟩
  refine W ?_
  refine WQ_retc rfl rfl rfl hblk2 rfl ?_
  exact .mk ⟨fun X => ⟨_, rfl, nilSlv _ _⟩, hS.own hS2 (fun c hc => .inr (by simp at hc; omega))⟩
theorem twoL_any (X : List Nat) (k : Int) (s : Str) (u0 u1 : Value) (y0 y1 : Nd) (w : World) (hX0 : ∀ b ∈ X, b < w.heap.size) (h0 : NdV X w u0 y0) (h1 : NdV X w u1 y1) :
    Calls Tryd.prog 41 #[.int .i64 k, str s, u0, u1] w (Ret fun r w' => NdV X w' r (.mk k 0 s [y0, y1]) ∧ Stp [] w w') := by
  obtain ⟨k0, rfl, s0⟩ := h0
  obtain ⟨k1, rfl, s1⟩ := h1
  obtain ⟨p0, c0, rfl, -⟩ := id s0
  obtain ⟨p1, c1, rfl, -⟩ := id s1
  refine calls_of_WC4 (n := 15) Tryd.func41 rfl rfl rfl ?_
  refine W ?_
  refine WL_eff (OE_box rfl) rfl ?_
  rintro _ w1 ⟨b1, rfl, hb1, e1, hS1⟩
  replace e1 : Blk w1 b1 _ (ndC y0 (.slice p0 y0.kids.length c0)) := e1
  refine WL_eff (OE_box rfl) rfl ?_
  rintro _ w2 ⟨b2, rfl, hb2, e2, hS2⟩
  replace e2 : Blk w2 b2 _ (ndC y1 (.slice p1 y1.kids.length c1)) := e2
  replace e1 := e1.up hS2
  have hS := hS1.trans hS2
  clear hS1 hS2
  refine WL_eff OE_alloc rfl ?_
  rintro _ w3 ⟨b, rfl, hb, hblk, hS3⟩
  replace e1 := e1.up hS3
  replace e2 := e2.up hS3
  have hz := hS.size
  replace hS := hS.trans hS3
  have hw : ∀ c ∈ b :: X, c ∈ X ∨ w.heap.size ≤ c := fun c hc => by
    rcases List.mem_cons.1 hc with rfl | h
    · right; omega
    · exact .inl h
  replace s0 := s0.ext hS (by simp) hw
  replace s1 := s1.ext hS (by simp) hw
  have hX : ∀ c ∈ b :: X, c < w3.heap.size := fun c hc => by
    rcases List.mem_cons.1 hc with rfl | h
    · exact hblk.lt
    · exact Nat.lt_of_lt_of_le (hX0 c h) hS.size
  refine W ?_
  refine WL_eff (OE_buildSlice (vs := [(0, .agg #[.int .i64 y0.kind, .int .i64 y0.num, str y0.word, .slice p0 y0.kids.length c0]), (1, .agg #[.int .i64 y1.kind, .int .i64 y1.num, str y1.word, .slice p1 y1.kids.length c1])]) rfl (buildSN2 _ _ _ _ _ _ _ _ _ _ _ _)) rfl ?_
  rintro bv w4 hN
  have hbv : SlV (b :: X) w4 bv [y0, y1] := hN.slvG (css := [ndC y0 _, ndC y1 _]) hX rfl rfl rfl (reps2 s0 s1) (by simp [maxLen])
  have hT := NewSl.stp hN
  clear hN
  replace hblk := hblk.up hT
  replace hS := hS.trans hT
  obtain ⟨p, c, rfl, -⟩ := id hbv
  apply WL_build (vs := [(0, .int .i64 k), (2, str s), (3, .slice p 2 c)]) rfl (buildN023 _ _ _ _ _) rfl
  have hlt := hblk.lt
  refine WL_eff0 (OE_storeA (us := ndC (.mk k 0 s [y0, y1]) (.slice p 2 c)) rfl rfl rfl rfl (ndC_one (x := .mk k 0 s [y0, y1]) hbv) hblk rfl) ?_
  rintro _ w5 ⟨hS5, hblk5⟩
  refine W ?_
  refine WQ_retc rfl rfl rfl hblk5 rfl ?_
  refine .mk ⟨⟨_, rfl, ?_⟩, hS.own hS5 (fun c hc => .inr (by simp at hc; omega))⟩
  exact (hbv.ext (X' := b :: X) hS5 (by simp) (fun _ h => .inl h)).wk (fun c hc => List.mem_cons_of_mem _ hc)
theorem SameIntsL_any (va vb : Value) (xs ys : List Int) (w : World) (ha : SlV [] w va xs) (hb : SlV [] w vb ys) :
    Calls Tryd.prog 49 #[va, vb] w (Ret fun r w' => r = .bool (decide (xs = ys)) ∧ Stp [] w w') := by
  have hma := ha.max
  have hmb := hb.max
  refine calls_of_WC2 (n := 26) Tryd.func49 rfl rfl rfl ?_
  refine W ?_
  by_cases hl : xs.length = ys.length
  case neg =>
    repeat' (first | refine W1 ?_ | (exfalso; omega) | refine WL_split rfl rfl (fun hg => ?_) (fun hg => ?_) | refine WL_splitB rfl rfl (fun hg => ?_) (fun hg => ?_) | refine WC_cond rfl (fun hc => ?_) (fun hc => ?_) | refine WC_condB rfl (fun hc => ?_) (fun hc => ?_))
    first | refine WQ_ret1 rfl rfl ?_ | refine WQ_ret2 rfl rfl rfl ?_ | refine WQ_ret3 rfl rfl rfl rfl ?_ | refine WQ_ret0 rfl ?_ | refine WQ_end0 rfl ?_
    exact .mk ⟨by congr 1; rw [eq_comm, decide_eq_false_iff_not]; exact fun h => hl (by rw [h]), Stp.refl _ _⟩
  repeat' (first | refine W1 ?_ | (exfalso; omega) | refine WL_split rfl rfl (fun hg => ?_) (fun hg => ?_) | refine WL_splitB rfl rfl (fun hg => ?_) (fun hg => ?_) | refine WC_cond rfl (fun hc => ?_) (fun hc => ?_) | refine WC_condB rfl (fun hc => ?_) (fun hc => ?_))
  refine WC_loop (σ := Nat) (fun j => [(0, va), (1, vb), (4, .bool false), (5, .int .i64 (j : Int))]) (fun j w' => j ≤ xs.length ∧ Stp [] w w' ∧ ∀ i (h : i < xs.length), i < j → xs[i] = ys[i]'(by omega)) (fun j => xs.length - j) 0 ⟨rfl, rfl, rfl, rfl, trivial⟩ ⟨Nat.zero_le _, Stp.refl _ _, fun i _ h => absurd h (Nat.not_lt_zero _)⟩ ?_
  rintro j w2 ⟨hj, hS, heq⟩
  try dsimp only at hj heq ⊢
  replace ha := ha.up hS
  replace hb := hb.up hS
  by_cases hlt : j < xs.length
  · have hlt' : j < ys.length := by omega
    repeat' (first | refine W1 ?_ | (exfalso; omega) | refine WL_split rfl rfl (fun hg => ?_) (fun hg => ?_) | refine WL_splitB rfl rfl (fun hg => ?_) (fun hg => ?_) | refine WC_cond rfl (fun hc => ?_) (fun hc => ?_) | refine WC_condB rfl (fun hc => ?_) (fun hc => ?_))
    refine WC_drawn 9 [] [] [(0, 0), (1, 0), (2, 0), (3, 1), (4, 0), (5, 0), (6, 0), (7, 1), (8, 0)] rfl mixed (by kernel_rfl) (by kernel_rfl) (by kernel_rfl) (fun w1 hS1 => ?_)
    replace ha := ha.up hS1
    replace hb := hb.up hS1
    replace hS := hS.trans hS1
    refine D ?_
    by_cases he : xs[j] = ys[j]
    · have hk : ∀ i (h : i < xs.length), i < j + 1 → xs[i] = ys[i]'(by omega) := fun i h hi => by
        by_cases hij : i = j
        · subst hij; exact he
        · exact heq i h (by omega)
      repeat' (first | refine W1 ?_ | (exfalso; omega) | refine WL_split rfl rfl (fun hg => ?_) (fun hg => ?_) | refine WL_splitB rfl rfl (fun hg => ?_) (fun hg => ?_) | refine WC_cond rfl (fun hc => ?_) (fun hc => ?_) | refine WC_condB rfl (fun hc => ?_) (fun hc => ?_))
      exact WQ_loop (j + 1) ⟨rfl, rfl, rfl, rfl, trivial⟩ ⟨hlt, hS, hk⟩ (Nat.sub_lt_sub_left hlt (Nat.lt_succ_self j))
    · repeat' (first | refine W1 ?_ | (exfalso; omega) | refine WL_split rfl rfl (fun hg => ?_) (fun hg => ?_) | refine WL_splitB rfl rfl (fun hg => ?_) (fun hg => ?_) | refine WC_cond rfl (fun hc => ?_) (fun hc => ?_) | refine WC_condB rfl (fun hc => ?_) (fun hc => ?_))
      first | refine WQ_ret1 rfl rfl ?_ | refine WQ_ret2 rfl rfl rfl ?_ | refine WQ_ret3 rfl rfl rfl rfl ?_ | refine WQ_ret0 rfl ?_ | refine WQ_end0 rfl ?_
      exact .mk ⟨by congr 1; rw [eq_comm, decide_eq_false_iff_not]; exact fun h => he (by simp [h]), hS⟩
  · have hje : j = xs.length := by omega
    subst hje
    repeat' (first | refine W1 ?_ | (exfalso; omega) | refine WL_split rfl rfl (fun hg => ?_) (fun hg => ?_) | refine WL_splitB rfl rfl (fun hg => ?_) (fun hg => ?_) | refine WC_cond rfl (fun hc => ?_) (fun hc => ?_) | refine WC_condB rfl (fun hc => ?_) (fun hc => ?_))
    first | refine WQ_ret1 rfl rfl ?_ | refine WQ_ret2 rfl rfl rfl ?_ | refine WQ_ret3 rfl rfl rfl rfl ?_ | refine WQ_ret0 rfl ?_ | refine WQ_end0 rfl ?_
    exact .mk ⟨by congr 1; rw [eq_comm, decide_eq_true_eq]; exact List.ext_getElem hl (fun i h h' => heq i h h), hS⟩
abbrev yA : Nd := .mk 7 0 [100, 97, 121, 115] [(.mk 4 0 [100, 97, 121] []), (.mk 1 3 [] [])]
abbrev yB : Nd := .mk 6 0 [62] [.mk 10 0 [98, 101, 116, 119, 101, 101, 110] [(.mk 4 0 [100, 97, 121] []), (.mk 4 0 [115, 101, 114, 118, 101, 100] [])], (.mk 1 14 [] [])]
abbrev yC1 : Nd := .mk 6 0 [61] [(.mk 4 0 [101, 120, 116, 114, 97] []), (.mk 1 0 [] [])]
abbrev yC : Nd := .mk 9 0 [] [yC1, (.mk 4 0 [100, 97, 121] []), (.mk 4 0 [115, 101, 114, 118, 101, 100] [])]
abbrev yD : Nd := .mk 6 0 [43] [(.mk 4 0 [97, 109, 111, 117, 110, 116] []), (.mk 4 0 [100, 97, 121] [])]
theorem ofA : nestN yA = 2 ∧ typeT yA = 3 ∧ sizeN yA = 3 := by
  refine ⟨?_, ?_, ?_⟩
  · simp only [yA, nestN_eq, Nd.kids, List.map_cons, List.map_nil]; rfl
  · simp only [yA, typeT_eq, Nd.kids, Nd.kind, Nd.num, Nd.word, List.map_cons, List.map_nil]; rfl
  · simp only [yA, sizeN_eq, Nd.kids, List.map_cons, List.map_nil]; rfl
theorem ofB : nestN yB = 3 ∧ typeT yB = 2 ∧ sizeN yB = 5 := by
  refine ⟨?_, ?_, ?_⟩
  · simp only [yB, nestN_eq, Nd.kids, List.map_cons, List.map_nil]; rfl
  · simp only [yB, typeT_eq, Nd.kids, Nd.kind, Nd.num, Nd.word, List.map_cons, List.map_nil]; rfl
  · simp only [yB, sizeN_eq, Nd.kids, List.map_cons, List.map_nil]; rfl
theorem ofC : nestN yC = 3 ∧ typeT yC = 3 ∧ sizeN yC = 6 := by
  refine ⟨?_, ?_, ?_⟩
  · simp only [yC, yC1, nestN_eq, Nd.kids, List.map_cons, List.map_nil]; rfl
  · simp only [yC, yC1, typeT_eq, Nd.kids, Nd.kind, Nd.num, Nd.word, List.map_cons, List.map_nil]; rfl
  · simp only [yC, yC1, sizeN_eq, Nd.kids, List.map_cons, List.map_nil]; rfl
theorem ofD : nestN yD = 2 ∧ typeT yD = 0 ∧ sizeN yD = 3 := by
  refine ⟨?_, ?_, ?_⟩
  · simp only [yD, nestN_eq, Nd.kids, List.map_cons, List.map_nil]; rfl
  · simp only [yD, typeT_eq, Nd.kids, Nd.kind, Nd.num, Nd.word, List.map_cons, List.map_nil]; rfl
  · simp only [yD, sizeN_eq, Nd.kids, List.map_cons, List.map_nil]; rfl
theorem usC : usesF yC = [0, 1, 2] := by
  rw [uses_eq]
  simp only [yC, yC1, usesR, usesT_eq, List.map_cons, List.map_nil, List.any_cons, List.any_nil]
  decide +kernel
abbrev rlA : Rul := ⟨[97, 110, 115, 119, 101, 114], 0, [109, 111, 116, 105, 111, 110], yB, yA, [], []⟩
abbrev rlB : Rul := ⟨[97, 110, 115, 119, 101, 114], 0, [109, 111, 116, 105, 111, 110], yB, (.mk 1 3 [] []), [], []⟩
abbrev rlD : Rul := ⟨[105, 102], 0, [109, 111, 116, 105, 111, 110], yB, yA, [], []⟩
theorem ckA : checkT rlA = 0 := by
  have h : namesT rlA = true := by decide +kernel
  have m1 : mustF yB 2 = 0 := by unfold mustF; rw [ofB.1, ofB.2.1]; decide
  have m2 : mustF yA 3 = 0 := by unfold mustF; rw [ofA.1, ofA.2.1]; decide
  unfold checkT
  rw [h, if_neg (by decide), if_neg (by decide), m1, m2]
  decide
theorem ckB : checkT rlB = 21 := by
  have h : namesT rlB = true := by decide +kernel
  have m1 : mustF yB 2 = 0 := by unfold mustF; rw [ofB.1, ofB.2.1]; decide
  have m2 : mustF (.mk 1 3 [] []) 3 = 21 := by unfold mustF; rw [show nestN (.mk 1 3 [] []) = 1 by simp only [nestN_eq, Nd.kids, List.map_nil]; rfl, show typeT (.mk 1 3 [] []) = 1 by simp only [typeT_eq, Nd.kids, Nd.kind, Nd.num, Nd.word, List.map_nil]; rfl]; decide
  unfold checkT
  rw [h, if_neg (by decide), if_neg (by decide), m1, m2]
  decide
theorem ckD : checkT rlD = 7 := by
  have h : namesT rlD = false := by decide +kernel
  unfold checkT
  rw [if_pos h]
theorem fdS : fieldF [115, 101, 114, 118, 101, 100] = (1, 3, true) := by decide +kernel
end Go.Proofs.YtfjmlobgjdmecaaDoor
namespace Go.Proofs.YtfjmlobgjdmecaaDoor
open Go Go.Eng Go.RowKit
set_option linter.unusedVariables false
theorem OfL_any (v : Value) (x : Nd) (t e : Int) (w : World) (hx : NdV [] w v x) (hF : SlV [] w flds fieldNames) (h1 : (if nestN x ≤ 12 then typeT x else 0) = t) (h2 : (if nestN x ≤ 12 then (if typeT x = 0 then 21 else 0) else 2) = e) :
    Calls Tryd.prog 36 #[v] w (Ret fun r w' => r = .tuple #[.int .i64 t, .int .i64 e] ∧ Stp [] w w') := by
  have := Of_any [] [] v x w hx hF
  rw [h1, h2] at this
  exact this
theorem CheckL_any (v : Value) (r : Rul) (c m : Int) (w : World) (hv : RulV [] w v r) (hF : SlV [] w flds fieldNames) (hm : w.cell? ⟨1, 0, none⟩ = some (.int .i64 m)) (h : checkT r = c) :
    Calls Tryd.prog 44 #[v] w (Ret fun r' w' => r' = .int .i64 c ∧ Stp [] w w') := by
  have := Check14_any v r m w hv hF hm
  rw [h] at this
  exact this
theorem buildN03 (k : Int) (p : Option Addr) (l c : Nat) (w : World) : (Instr.build 24 #[(0, .int .i64 k), (3, .slice p l c)]).run Tryd.prog w = .ok (.agg #[.int .i64 k, .int .i64 0, str [], .slice p l c]) w := by kernel_rfl
theorem buildRlL (a o : Str) (k n : Int) (s : Str) (p : Option Addr) (l c : Nat) (k' n' : Int) (s' : Str) (p' : Option Addr) (l' c' : Nat) (w : World) : (Instr.build 50 #[(0, str a), (2, str o), (3, .agg #[.int .i64 k, .int .i64 n, str s, .slice p l c]), (4, .agg #[.int .i64 k', .int .i64 n', str s', .slice p' l' c'])]).run Tryd.prog w = .ok (.agg #[str a, .int .i64 0, str o, .int .i64 k, .int .i64 n, str s, .slice p l c, .int .i64 k', .int .i64 n', str s', .slice p' l' c', str [], str []]) w := by kernel_rfl
set_option maxHeartbeats 2000000 in
theorem lives14_any (m : Int) (w : World) (hF : SlV [] w flds fieldNames) (hm : w.cell? ⟨1, 0, none⟩ = some (.int .i64 m)) : Calls Tryd.prog 38 #[] w (Ret fun r w' => r = .bool true ∧ Stp [] w w') := by
  have oA1 : (if nestN yA ≤ 12 then typeT yA else 0) = 3 := by rw [ofA.1, ofA.2.1]; decide
  have oA2 : (if nestN yA ≤ 12 then (if typeT yA = 0 then 21 else 0) else 2) = (0 : Int) := by rw [ofA.1, ofA.2.1]; decide
  have oB1 : (if nestN yB ≤ 12 then typeT yB else 0) = 2 := by rw [ofB.1, ofB.2.1]; decide
  have oB2 : (if nestN yB ≤ 12 then (if typeT yB = 0 then 21 else 0) else 2) = (0 : Int) := by rw [ofB.1, ofB.2.1]; decide
  have oC1 : (if nestN yC ≤ 12 then typeT yC else 0) = 3 := by rw [ofC.1, ofC.2.1]; decide
  have oC2 : (if nestN yC ≤ 12 then (if typeT yC = 0 then 21 else 0) else 2) = (0 : Int) := by rw [ofC.1, ofC.2.1]; decide
  have oD1 : (if nestN yD ≤ 12 then typeT yD else 0) = 0 := by rw [ofD.1, ofD.2.1]; decide
  have oD2 : (if nestN yD ≤ 12 then (if typeT yD = 0 then 21 else 0) else 2) = (21 : Int) := by rw [ofD.1, ofD.2.1]; decide
  have kC : okN yC = true := okN_of_size yC (by rw [ofC.2.2]; decide)
  have hS : Stp [] w w := Stp.refl _ _
  refine calls_of_WC0 (n := 127) Tryd.func38 rfl rfl ?_
  refine W ?_
  refine WL_eff (OE_call rfl (evs1 rfl) (fieldL_any [100, 97, 121] _)) rfl ?_
  rintro rh1 w1 ⟨h1, hT⟩
  replace hS := hS.trans hT
  clear hT
  replace h1 := h1 []
  refine W ?_
  refine WL_eff (OE_call rfl (evs1 rfl) (numberL_any 3 _)) rfl ?_
  rintro rh2 w1 ⟨h2, hT⟩
  replace h1 := h1.up hT
  replace hS := hS.trans hT
  clear hT
  replace h2 := h2 []
  refine W ?_
  refine WL_eff (OE_call rfl (evs4 rfl rfl rfl rfl) (twoL_any [] 7 [100, 97, 121, 115] _ _ _ _ _ (by simp) h1 h2)) rfl ?_
  rintro rh3 w1 ⟨h3, hT⟩
  replace hS := hS.trans hT
  clear hT
  clear h1 h2
  obtain ⟨ka, rfl, sa⟩ := h3
  refine W ?_
  refine WL_eff OE_alloc rfl ?_
  rintro _ w1 ⟨b1, rfl, hb, e0, hT⟩
  refine WL_eff0 (OE_storeA (us := ndC yA ka) rfl rfl rfl rfl (ndC_one sa) e0 rfl) ?_
  rintro _ w2 ⟨hT2, e1⟩
  replace hT := hT.own hT2 (fun b hb => .inr (by simp at hb; omega))
  clear hT2 e0 hb
  replace sa := sa.up hT
  replace hS := hS.trans hT
  clear hT
  refine W ?_
  refine WL_eff (OE_call rfl (evs1 rfl) (fieldL_any [100, 97, 121] _)) rfl ?_
  rintro rh1 w1 ⟨h1, hT⟩
  replace sa := sa.up hT
  replace e1 := e1.up hT
  replace hS := hS.trans hT
  clear hT
  replace h1 := h1 []
  refine W ?_
  refine WL_eff (OE_call rfl (evs1 rfl) (fieldL_any [115, 101, 114, 118, 101, 100] _)) rfl ?_
  rintro rh2 w1 ⟨h2, hT⟩
  replace sa := sa.up hT
  replace e1 := e1.up hT
  replace h1 := h1.up hT
  replace hS := hS.trans hT
  clear hT
  replace h2 := h2 []
  refine W ?_
  refine WL_eff (OE_call rfl (evs4 rfl rfl rfl rfl) (twoL_any [] 10 [98, 101, 116, 119, 101, 101, 110] _ _ _ _ _ (by simp) h1 h2)) rfl ?_
  rintro rh3 w1 ⟨h3, hT⟩
  replace sa := sa.up hT
  replace e1 := e1.up hT
  replace hS := hS.trans hT
  clear hT
  clear h1 h2
  refine W ?_
  refine WL_eff (OE_call rfl (evs1 rfl) (numberL_any 14 _)) rfl ?_
  rintro rh4 w1 ⟨h4, hT⟩
  replace sa := sa.up hT
  replace e1 := e1.up hT
  replace h3 := h3.up hT
  replace hS := hS.trans hT
  clear hT
  replace h4 := h4 []
  refine W ?_
  refine WL_eff (OE_call rfl (evs4 rfl rfl rfl rfl) (twoL_any [] 6 [62] _ _ _ _ _ (by simp) h3 h4)) rfl ?_
  rintro rh5 w1 ⟨h5, hT⟩
  replace sa := sa.up hT
  replace e1 := e1.up hT
  replace hS := hS.trans hT
  clear hT
  clear h3 h4
  obtain ⟨kb, rfl, sb⟩ := h5
  refine W ?_
  refine WL_eff OE_alloc rfl ?_
  rintro _ w1 ⟨b2, rfl, hb, e0, hT⟩
  refine WL_eff0 (OE_storeA (us := ndC yB kb) rfl rfl rfl rfl (ndC_one sb) e0 rfl) ?_
  rintro _ w2 ⟨hT2, e2⟩
  replace hT := hT.own hT2 (fun b hb => .inr (by simp at hb; omega))
  clear hT2 e0 hb
  replace sa := sa.up hT
  replace e1 := e1.up hT
  replace sb := sb.up hT
  replace hS := hS.trans hT
  clear hT
  refine W ?_
  refine WL_eff (OE_call rfl (evs1 rfl) (fieldL_any [101, 120, 116, 114, 97] _)) rfl ?_
  rintro rh1 w1 ⟨h1, hT⟩
  replace sa := sa.up hT
  replace e1 := e1.up hT
  replace sb := sb.up hT
  replace e2 := e2.up hT
  replace hS := hS.trans hT
  clear hT
  replace h1 := h1 []
  refine W ?_
  refine WL_eff (OE_call rfl (evs1 rfl) (numberL_any 0 _)) rfl ?_
  rintro rh2 w1 ⟨h2, hT⟩
  replace sa := sa.up hT
  replace e1 := e1.up hT
  replace sb := sb.up hT
  replace e2 := e2.up hT
  replace h1 := h1.up hT
  replace hS := hS.trans hT
  clear hT
  replace h2 := h2 []
  refine W ?_
  refine WL_eff (OE_call rfl (evs4 rfl rfl rfl rfl) (twoL_any [] 6 [61] _ _ _ _ _ (by simp) h1 h2)) rfl ?_
  rintro rh3 w1 ⟨h3, hT⟩
  replace sa := sa.up hT
  replace e1 := e1.up hT
  replace sb := sb.up hT
  replace e2 := e2.up hT
  replace hS := hS.trans hT
  clear hT
  clear h1 h2
  refine W ?_
  refine WL_eff (OE_call rfl (evs1 rfl) (fieldL_any [100, 97, 121] _)) rfl ?_
  rintro rh4 w1 ⟨h4, hT⟩
  replace sa := sa.up hT
  replace e1 := e1.up hT
  replace sb := sb.up hT
  replace e2 := e2.up hT
  replace h3 := h3.up hT
  replace hS := hS.trans hT
  clear hT
  replace h4 := h4 []
  refine W ?_
  refine WL_eff (OE_call rfl (evs1 rfl) (fieldL_any [115, 101, 114, 118, 101, 100] _)) rfl ?_
  rintro rh5 w1 ⟨h5, hT⟩
  replace sa := sa.up hT
  replace e1 := e1.up hT
  replace sb := sb.up hT
  replace e2 := e2.up hT
  replace h3 := h3.up hT
  replace h4 := h4.up hT
  replace hS := hS.trans hT
  clear hT
  replace h5 := h5 []
  obtain ⟨k0, rfl, s0⟩ := h3
  obtain ⟨k1, rfl, s1⟩ := h4
  obtain ⟨k2, rfl, s2⟩ := h5
  obtain ⟨p0, c0, rfl, -⟩ := id s0
  obtain ⟨p1, c1, rfl, -⟩ := id s1
  obtain ⟨p2, c2, rfl, -⟩ := id s2
  refine W ?_
  refine WL_eff (OE_buildSlice (vs := [(0, .agg #[.int .i64 6, .int .i64 0, str [61], .slice p0 2 c0]), (1, .agg #[.int .i64 4, .int .i64 0, str [100, 97, 121], .slice p1 0 c1]), (2, .agg #[.int .i64 4, .int .i64 0, str [115, 101, 114, 118, 101, 100], .slice p2 0 c2])]) rfl (buildSN3 _ _ _ _ _ _ _ _ _ _ _ _ _ _ _ _ _ _)) rfl ?_
  rintro bv w3 hN
  have hbv : SlV [] w3 bv yC.kids := hN.slvG (X := []) (css := [ndC yC1 _, ndC (.mk 4 0 [100, 97, 121] []) _, ndC (.mk 4 0 [115, 101, 114, 118, 101, 100] []) _]) (by simp) rfl rfl rfl (reps3 (y0 := yC1) (y1 := .mk 4 0 [100, 97, 121] []) (y2 := .mk 4 0 [115, 101, 114, 118, 101, 100] []) s0 s1 s2) (show 3 ≤ maxLen by decide)
  have hT := NewSl.stp hN
  clear hN s0 s1 s2
  replace sa := sa.up hT
  replace e1 := e1.up hT
  replace sb := sb.up hT
  replace e2 := e2.up hT
  replace hS := hS.trans hT
  clear hT
  obtain ⟨p, c, rfl, -⟩ := id hbv
  apply WL_build (vs := [(0, .int .i64 9), (3, .slice p 3 c)]) rfl (buildN03 _ _ _ _) rfl
  refine W ?_
  refine WL_eff OE_alloc rfl ?_
  rintro _ w1 ⟨b3, rfl, hb, e0, hT⟩
  refine WL_eff0 (OE_storeA (us := ndC yC (.slice p 3 c)) rfl rfl rfl rfl (ndC_one (x := yC) hbv) e0 rfl) ?_
  rintro _ w2 ⟨hT2, e3⟩
  replace hT := hT.own hT2 (fun b hb => .inr (by simp at hb; omega))
  clear hT2 e0 hb
  replace sa := sa.up hT
  replace e1 := e1.up hT
  replace sb := sb.up hT
  replace e2 := e2.up hT
  replace hbv := hbv.up hT
  replace hS := hS.trans hT
  clear hT
  refine W ?_
  refine WL_eff (OE_call rfl (evs1 rfl) (OfL_any _ yA _ _ _ ⟨ka, rfl, sa⟩ (hF.up hS) oA1 oA2)) rfl ?_
  rintro _ w1 ⟨rfl, hT⟩
  replace sa := sa.up hT
  replace e1 := e1.up hT
  replace sb := sb.up hT
  replace e2 := e2.up hT
  replace hbv := hbv.up hT
  replace e3 := e3.up hT
  replace hS := hS.trans hT
  clear hT
  refine W ?_
  refine WL_eff (OE_call rfl (evs1 rfl) (OfL_any _ yB _ _ _ ⟨kb, rfl, sb⟩ (hF.up hS) oB1 oB2)) rfl ?_
  rintro _ w1 ⟨rfl, hT⟩
  replace sa := sa.up hT
  replace e1 := e1.up hT
  replace sb := sb.up hT
  replace e2 := e2.up hT
  replace hbv := hbv.up hT
  replace e3 := e3.up hT
  replace hS := hS.trans hT
  clear hT
  refine W ?_
  refine WL_eff (OE_call rfl (evs1 rfl) (fieldL_any [97, 109, 111, 117, 110, 116] _)) rfl ?_
  rintro rh1 w1 ⟨h1, hT⟩
  replace sa := sa.up hT
  replace e1 := e1.up hT
  replace sb := sb.up hT
  replace e2 := e2.up hT
  replace hbv := hbv.up hT
  replace e3 := e3.up hT
  replace hS := hS.trans hT
  clear hT
  replace h1 := h1 []
  refine W ?_
  refine WL_eff (OE_call rfl (evs1 rfl) (fieldL_any [100, 97, 121] _)) rfl ?_
  rintro rh2 w1 ⟨h2, hT⟩
  replace sa := sa.up hT
  replace e1 := e1.up hT
  replace sb := sb.up hT
  replace e2 := e2.up hT
  replace hbv := hbv.up hT
  replace e3 := e3.up hT
  replace h1 := h1.up hT
  replace hS := hS.trans hT
  clear hT
  replace h2 := h2 []
  refine W ?_
  refine WL_eff (OE_call rfl (evs4 rfl rfl rfl rfl) (twoL_any [] 6 [43] _ _ _ _ _ (by simp) h1 h2)) rfl ?_
  rintro rh3 w1 ⟨h3, hT⟩
  replace sa := sa.up hT
  replace e1 := e1.up hT
  replace sb := sb.up hT
  replace e2 := e2.up hT
  replace hbv := hbv.up hT
  replace e3 := e3.up hT
  replace hS := hS.trans hT
  clear hT
  clear h1 h2
  refine W ?_
  refine WL_eff (OE_call rfl (evs1 rfl) (OfL_any _ yD _ _ _ h3 (hF.up hS) oD1 oD2)) rfl ?_
  rintro _ w1 ⟨rfl, hT⟩
  replace sa := sa.up hT
  replace e1 := e1.up hT
  replace sb := sb.up hT
  replace e2 := e2.up hT
  replace hbv := hbv.up hT
  replace e3 := e3.up hT
  replace hS := hS.trans hT
  clear hT
  clear h3
  refine W ?_
  refine WL_eff (OE_call rfl (evs1 rfl) (OfL_any _ yC _ _ _ ⟨_, rfl, hbv⟩ (hF.up hS) oC1 oC2)) rfl ?_
  rintro _ w1 ⟨rfl, hT⟩
  replace sa := sa.up hT
  replace e1 := e1.up hT
  replace sb := sb.up hT
  replace e2 := e2.up hT
  replace hbv := hbv.up hT
  replace e3 := e3.up hT
  replace hS := hS.trans hT
  clear hT
  obtain ⟨p0, c0, rfl, -⟩ := id sb
  obtain ⟨p1, c1, rfl, -⟩ := id sa
  refine W ?_
  apply WL_build (vs := [(0, str [97, 110, 115, 119, 101, 114]), (2, str [109, 111, 116, 105, 111, 110]), (3, .agg (ndC yB (.slice p0 2 c0)).toArray), (4, .agg (ndC yA (.slice p1 2 c1)).toArray)]) rfl (buildRlL _ _ _ _ _ _ _ _ _ _ _ _ _ _) rfl
  refine W ?_
  refine WL_eff OE_alloc rfl ?_
  rintro _ w1 ⟨b12, rfl, hb, e0, hT⟩
  refine WL_eff0 (OE_storeA (us := rlC rlA (.slice p0 2 c0) (.slice p1 2 c1)) rfl rfl rfl rfl (rlC_one rlA sb sa) e0 rfl) ?_
  rintro _ w2 ⟨hT2, e12⟩
  replace hT := hT.own hT2 (fun b hb => .inr (by simp at hb; omega))
  clear hT2 e0 hb
  replace sa := sa.up hT
  replace e1 := e1.up hT
  replace sb := sb.up hT
  replace e2 := e2.up hT
  replace hbv := hbv.up hT
  replace e3 := e3.up hT
  replace hS := hS.trans hT
  clear hT
  refine W ?_
  refine WL_eff OE_alloc rfl ?_
  rintro _ w1 ⟨b13, rfl, hb, e0, hT⟩
  refine WL_eff0 (OE_storeA (us := rlC rlA (.slice p0 2 c0) (.slice p1 2 c1)) rfl rfl rfl rfl (rlC_one rlA sb sa) e0 rfl) ?_
  rintro _ w2 ⟨hT2, e13⟩
  have hbw : w.heap.size ≤ b13 := Nat.le_trans hS.size hb
  replace sa := (sa.ext (X' := [b13]) hT (by simp) (fun b h => by simp at h; subst h; exact .inr hb)).ext hT2 (by simp) (fun _ h => .inl h)
  have n1 : b1 ≠ b13 := by have := e1.lt; omega
  replace sb := (sb.ext (X' := [b13]) hT (by simp) (fun b h => by simp at h; subst h; exact .inr hb)).ext hT2 (by simp) (fun _ h => .inl h)
  have n2 : b2 ≠ b13 := by have := e2.lt; omega
  replace hbv := (hbv.ext (X' := [b13]) hT (by simp) (fun b h => by simp at h; subst h; exact .inr hb)).ext hT2 (by simp) (fun _ h => .inl h)
  have n3 : b3 ≠ b13 := by have := e3.lt; omega
  have n12 : b12 ≠ b13 := by have := e12.lt; omega
  replace hT := hT.own hT2 (fun b hb => .inr (by simp at hb; omega))
  replace e1 := e1.up hT
  replace e2 := e2.up hT
  replace e3 := e3.up hT
  replace e12 := e12.up hT
  replace hS := hS.trans hT
  clear hT hT2 e0 hb
  refine W ?_
  refine WL_eff (OE_call rfl (evs1 rfl) (numberL_any 3 _)) rfl ?_
  rintro _ w1 ⟨h1, hT⟩
  obtain ⟨k3, rfl, s3⟩ := h1 [b13]
  clear h1
  replace sa := sa.up hT
  replace e1 := e1.up hT
  replace sb := sb.up hT
  replace e2 := e2.up hT
  replace hbv := hbv.up hT
  replace e3 := e3.up hT
  replace e12 := e12.up hT
  replace e13 := e13.up hT
  replace hS := hS.trans hT
  clear hT
  refine W ?_
  refine WL_eff0 (OE_store (us := ndC (.mk 1 3 [] []) k3) rfl rfl rfl rfl (ndC_one (x := .mk 1 3 [] []) s3) e13 (by simp)) ?_
  rintro _ w2 ⟨hT, e13⟩
  replace e13 : Blk w2 b13 50 (rlC rlB (.slice p0 2 c0) k3) := e13
  replace sa := (sa.ext hT (by simp) (fun _ h => .inl h)).wk (X' := []) (by simp)
  replace e1 := e1.ext hT (by simp; exact n1)
  replace sb := (sb.ext hT (by simp) (fun _ h => .inl h)).wk (X' := []) (by simp)
  replace e2 := e2.ext hT (by simp; exact n2)
  replace hbv := (hbv.ext hT (by simp) (fun _ h => .inl h)).wk (X' := []) (by simp)
  replace e3 := e3.ext hT (by simp; exact n3)
  replace e12 := e12.ext hT (by simp; exact n12)
  replace s3 := (s3.ext hT (by simp) (fun _ h => .inl h)).wk (X' := []) (by simp)
  replace hS := hS.own hT (fun b hb => .inr (by simp at hb; omega))
  clear hT hbw
  refine W ?_
  refine WL_eff OE_alloc rfl ?_
  rintro _ w1 ⟨b14, rfl, hb, e0, hT⟩
  refine WL_eff0 (OE_storeA (us := rlC rlA (.slice p0 2 c0) (.slice p1 2 c1)) rfl rfl rfl rfl (rlC_one rlA sb sa) e0 rfl) ?_
  rintro _ w2 ⟨hT2, e14⟩
  have hbw : w.heap.size ≤ b14 := Nat.le_trans hS.size hb
  replace sa := (sa.ext (X' := [b14]) hT (by simp) (fun b h => by simp at h; subst h; exact .inr hb)).ext hT2 (by simp) (fun _ h => .inl h)
  have n1 : b1 ≠ b14 := by have := e1.lt; omega
  replace sb := (sb.ext (X' := [b14]) hT (by simp) (fun b h => by simp at h; subst h; exact .inr hb)).ext hT2 (by simp) (fun _ h => .inl h)
  have n2 : b2 ≠ b14 := by have := e2.lt; omega
  replace hbv := (hbv.ext (X' := [b14]) hT (by simp) (fun b h => by simp at h; subst h; exact .inr hb)).ext hT2 (by simp) (fun _ h => .inl h)
  have n3 : b3 ≠ b14 := by have := e3.lt; omega
  have n12 : b12 ≠ b14 := by have := e12.lt; omega
  have n13 : b13 ≠ b14 := by have := e13.lt; omega
  replace s3 := (s3.ext (X' := [b14]) hT (by simp) (fun b h => by simp at h; subst h; exact .inr hb)).ext hT2 (by simp) (fun _ h => .inl h)
  replace hT := hT.own hT2 (fun b hb => .inr (by simp at hb; omega))
  replace e1 := e1.up hT
  replace e2 := e2.up hT
  replace e3 := e3.up hT
  replace e12 := e12.up hT
  replace e13 := e13.up hT
  replace hS := hS.trans hT
  clear hT hT2 e0 hb
  refine W ?_
  refine WL_eff0 (OE_store1 (o := 0) (u := str [105, 102]) rfl rfl rfl rfl e14 (by simp)) ?_
  rintro _ w2 ⟨hT, e14⟩
  replace e14 : Blk w2 b14 50 (rlC rlD (.slice p0 2 c0) (.slice p1 2 c1)) := e14
  replace sa := (sa.ext hT (by simp) (fun _ h => .inl h)).wk (X' := []) (by simp)
  replace e1 := e1.ext hT (by simp; exact n1)
  replace sb := (sb.ext hT (by simp) (fun _ h => .inl h)).wk (X' := []) (by simp)
  replace e2 := e2.ext hT (by simp; exact n2)
  replace hbv := (hbv.ext hT (by simp) (fun _ h => .inl h)).wk (X' := []) (by simp)
  replace e3 := e3.ext hT (by simp; exact n3)
  replace e12 := e12.ext hT (by simp; exact n12)
  replace e13 := e13.ext hT (by simp; exact n13)
  replace s3 := (s3.ext hT (by simp) (fun _ h => .inl h)).wk (X' := []) (by simp)
  replace hS := hS.own hT (fun b hb => .inr (by simp at hb; omega))
  clear hT hbw
  refine W ?_
  refine WL_eff (OE_call rfl (evs1 rfl) (Field_any [115, 101, 114, 118, 101, 100] _ (hF.up hS))) rfl ?_
  rintro _ w1 ⟨rfl, hT⟩
  rw [fdS]
  replace sa := sa.up hT
  replace e1 := e1.up hT
  replace sb := sb.up hT
  replace e2 := e2.up hT
  replace hbv := hbv.up hT
  replace e3 := e3.up hT
  replace e12 := e12.up hT
  replace e13 := e13.up hT
  replace s3 := s3.up hT
  replace e14 := e14.up hT
  replace hS := hS.trans hT
  clear hT
  repeat' (first | refine W1 ?_ | (exfalso; omega) | refine WL_split rfl rfl (fun hg => ?_) (fun hg => ?_) | refine WL_splitB rfl rfl (fun hg => ?_) (fun hg => ?_) | refine WC_cond rfl (fun hc => ?_) (fun hc => ?_) | refine WC_condB rfl (fun hc => ?_) (fun hc => ?_))
  all_goals try (exfalso; first | (apply absurd rfl; assumption) | (simp at hc; done) | (simp at hg; done))
  repeat' (first | refine W1 ?_ | (exfalso; omega) | refine WL_split rfl rfl (fun hg => ?_) (fun hg => ?_) | refine WL_splitB rfl rfl (fun hg => ?_) (fun hg => ?_) | refine WC_cond rfl (fun hc => ?_) (fun hc => ?_) | refine WC_condB rfl (fun hc => ?_) (fun hc => ?_))
  all_goals try (exact absurd rfl (by assumption))
  refine WL_eff (OE_call rfl (evs1 rfl) (Uses_any yC _ _ kC ⟨_, rfl, hbv⟩ (hF.up hS))) rfl ?_
  rintro ru w1 ⟨hr, hT⟩
  rw [usC] at hr
  have hru := hr.slv0
  clear hr
  replace sa := sa.up hT
  replace e1 := e1.up hT
  replace sb := sb.up hT
  replace e2 := e2.up hT
  replace hbv := hbv.up hT
  replace e3 := e3.up hT
  replace e12 := e12.up hT
  replace e13 := e13.up hT
  replace s3 := s3.up hT
  replace e14 := e14.up hT
  replace hS := hS.trans hT
  clear hT
  refine W ?_
  refine WL_eff (OE_buildSlice (vs := [(0, .int .i64 0), (1, .int .i64 1), (2, .int .i64 2)]) rfl (buildSI3 _ _ _)) rfl ?_
  rintro rv w1 hN
  have hrv := hN.slv (X := []) (ys := [(0 : Int), 1, 2]) (by simp) rfl rfl (by simp [maxLen])
  have hT := NewSl.stp hN
  clear hN
  replace sa := sa.up hT
  replace e1 := e1.up hT
  replace sb := sb.up hT
  replace e2 := e2.up hT
  replace hbv := hbv.up hT
  replace e3 := e3.up hT
  replace e12 := e12.up hT
  replace e13 := e13.up hT
  replace s3 := s3.up hT
  replace e14 := e14.up hT
  replace hru := hru.up hT
  replace hS := hS.trans hT
  clear hT
  refine W ?_
  refine WL_eff (OE_call rfl (evs2 rfl rfl) (SameIntsL_any _ _ _ _ _ hru hrv)) rfl ?_
  rintro _ w1 ⟨rfl, hT⟩
  clear hru hrv
  replace sa := sa.up hT
  replace e1 := e1.up hT
  replace sb := sb.up hT
  replace e2 := e2.up hT
  replace hbv := hbv.up hT
  replace e3 := e3.up hT
  replace e12 := e12.up hT
  replace e13 := e13.up hT
  replace s3 := s3.up hT
  replace e14 := e14.up hT
  replace hS := hS.trans hT
  clear hT
  rw [decide_eq_true (rfl : [(0 : Int), 1, 2] = [0, 1, 2])]
  repeat' (first | refine W1 ?_ | (exfalso; omega) | refine WL_split rfl rfl (fun hg => ?_) (fun hg => ?_) | refine WL_splitB rfl rfl (fun hg => ?_) (fun hg => ?_) | refine WC_cond rfl (fun hc => ?_) (fun hc => ?_) | refine WC_condB rfl (fun hc => ?_) (fun hc => ?_))
  all_goals try (exact absurd rfl (by assumption))
  refine WL_eff (OE_call rfl (evs1 rfl) (CheckL_any _ rlA 0 m _ ⟨_, _, rfl, sb, sa⟩ (hF.up hS) (hS.cell (by simp) hm) ckA)) rfl ?_
  rintro _ w1 ⟨rfl, hT⟩
  replace sa := sa.up hT
  replace e1 := e1.up hT
  replace sb := sb.up hT
  replace e2 := e2.up hT
  replace hbv := hbv.up hT
  replace e3 := e3.up hT
  replace e12 := e12.up hT
  replace e13 := e13.up hT
  replace s3 := s3.up hT
  replace e14 := e14.up hT
  replace hS := hS.trans hT
  clear hT
  repeat' (first | refine W1 ?_ | (exfalso; omega) | refine WL_split rfl rfl (fun hg => ?_) (fun hg => ?_) | refine WL_splitB rfl rfl (fun hg => ?_) (fun hg => ?_) | refine WC_cond rfl (fun hc => ?_) (fun hc => ?_) | refine WC_condB rfl (fun hc => ?_) (fun hc => ?_))
  all_goals try (exact absurd rfl (by assumption))
  refine WL_eff (OE_call rfl (evs1 rfl) (CheckL_any _ rlB 21 m _ ⟨_, _, rfl, sb, s3⟩ (hF.up hS) (hS.cell (by simp) hm) ckB)) rfl ?_
  rintro _ w1 ⟨rfl, hT⟩
  replace sa := sa.up hT
  replace e1 := e1.up hT
  replace sb := sb.up hT
  replace e2 := e2.up hT
  replace hbv := hbv.up hT
  replace e3 := e3.up hT
  replace e12 := e12.up hT
  replace e13 := e13.up hT
  replace s3 := s3.up hT
  replace e14 := e14.up hT
  replace hS := hS.trans hT
  clear hT
  repeat' (first | refine W1 ?_ | (exfalso; omega) | refine WL_split rfl rfl (fun hg => ?_) (fun hg => ?_) | refine WL_splitB rfl rfl (fun hg => ?_) (fun hg => ?_) | refine WC_cond rfl (fun hc => ?_) (fun hc => ?_) | refine WC_condB rfl (fun hc => ?_) (fun hc => ?_))
  all_goals try (exact absurd rfl (by assumption))
  refine WL_eff (OE_call rfl (evs1 rfl) (CheckL_any _ rlD 7 m _ ⟨_, _, rfl, sb, sa⟩ (hF.up hS) (hS.cell (by simp) hm) ckD)) rfl ?_
  rintro _ w1 ⟨rfl, hT⟩
  replace sa := sa.up hT
  replace e1 := e1.up hT
  replace sb := sb.up hT
  replace e2 := e2.up hT
  replace hbv := hbv.up hT
  replace e3 := e3.up hT
  replace e12 := e12.up hT
  replace e13 := e13.up hT
  replace s3 := s3.up hT
  replace e14 := e14.up hT
  replace hS := hS.trans hT
  clear hT
  repeat' (first | refine W1 ?_ | (exfalso; omega) | refine WL_split rfl rfl (fun hg => ?_) (fun hg => ?_) | refine WL_splitB rfl rfl (fun hg => ?_) (fun hg => ?_) | refine WC_cond rfl (fun hc => ?_) (fun hc => ?_) | refine WC_condB rfl (fun hc => ?_) (fun hc => ?_))
  all_goals try (exact absurd rfl (by assumption))
  first | refine WQ_ret1 rfl rfl ?_ | refine WQ_ret2 rfl rfl rfl ?_ | refine WQ_ret3 rfl rfl rfl rfl ?_ | refine WQ_ret0 rfl ?_ | refine WQ_end0 rfl ?_
  exact .mk ⟨rfl, hS⟩
end Go.Proofs.YtfjmlobgjdmecaaDoor
/-
The walk engine, part 18: numbers of other kinds: conversions, bits, shifts; strings out of bytes; append of a string to bytes.
-/
namespace Go.Eng
open Go Go.RowKit Go.Proofs
set_option linter.unusedVariables false
section
variable {P : Program} {n : Nat} {e : Env} {w : World} {d : Option Nat} {ty : TypeId} {pos : String} {af : Array Edge} {g : Option (Nat × Bool)}
theorem PR_conv {src dst : TypeId} {k k' : IntKind} {x : Operand} {a : Int} {D : TypeDesc} [hs : Und P src D] [hd : Und P dst (.int k)] (hx : ev e x = some (.int k' a)) :
    PR P n ⟨d, .convert src dst x, ty, pos, af, g⟩ e w (.int k (k.wrap a)) :=
  ⟨fun c ha => by
    have hk : P.intKind dst = k := by simp [Program.intKind, hd.h]
    have := run_convert_int (P := P) w src dst k' a (by rw [hs.h]; rfl) (by rw [hk]; exact hd.h)
    simp [execOp, ha.ev hx, this, hk]⟩
theorem PR_convTo {src dst : TypeId} {k k' : IntKind} {x : Operand} {a b : Int} {D : TypeDesc} [hs : Und P src D] [hd : Und P dst (.int k)] (hx : ev e x = some (.int k' a)) (hb : k.wrap a = b) :
    PR P n ⟨d, .convert src dst x, ty, pos, af, g⟩ e w (.int k b) := hb ▸ PR_conv hx
section
variable {x y : Operand} {t u : TypeId} {k : IntKind} {a b : Int}
theorem PR_and (hx : ev e x = some (.int k a)) (hy : ev e y = some (.int k b)) {r : Int} (hr : Go.bits .and k a b = r) : PR P n ⟨d, .binOp .and t x y u, ty, pos, af, g⟩ e w (.int k r) :=
  ⟨fun c ha => by simp only [execOp, ha.ev hx, ha.ev hy]; simp [go_sem, hr]⟩
theorem PR_or (hx : ev e x = some (.int k a)) (hy : ev e y = some (.int k b)) {r : Int} (hr : Go.bits .or k a b = r) : PR P n ⟨d, .binOp .or t x y u, ty, pos, af, g⟩ e w (.int k r) :=
  ⟨fun c ha => by simp only [execOp, ha.ev hx, ha.ev hy]; simp [go_sem, hr]⟩
theorem PR_xor (hx : ev e x = some (.int k a)) (hy : ev e y = some (.int k b)) {r : Int} (hr : Go.bits .xor k a b = r) : PR P n ⟨d, .binOp .xor t x y u, ty, pos, af, g⟩ e w (.int k r) :=
  ⟨fun c ha => by simp only [execOp, ha.ev hx, ha.ev hy]; simp [go_sem, hr]⟩
theorem PR_shl {yk : IntKind} {s : Nat} (hx : ev e x = some (.int k a)) (hy : ev e y = some (.int yk (s : Int))) (hs : s ≤ k.bits) {r : Int} (hr : k.wrap (a * 2 ^ s) = r) : PR P n ⟨d, .binOp .shl t x y u, ty, pos, af, g⟩ e w (.int k r) :=
  ⟨fun c ha => by
    have h := shift_shl k yk a (s : Int) (by omega) (by omega)
    rw [Int.toNat_natCast, hr] at h
    simp only [execOp, ha.ev hx, ha.ev hy]
    simp [go_sem, binOp, h]⟩
theorem PR_shr {yk : IntKind} {s : Nat} (hx : ev e x = some (.int k a)) (hy : ev e y = some (.int yk (s : Int))) (hs : s ≤ k.bits) {r : Int} (hr : a / 2 ^ s = r) : PR P n ⟨d, .binOp .shr t x y u, ty, pos, af, g⟩ e w (.int k r) :=
  ⟨fun c ha => by
    have h := shift_shr k yk a (s : Int) (by omega) (by omega)
    rw [Int.toNat_natCast, hr] at h
    simp only [execOp, ha.ev hx, ha.ev hy]
    simp [go_sem, binOp, h]⟩
theorem PR_addK (hx : ev e x = some (.int k a)) (hy : ev e y = some (.int k b)) {r : Int} (hr : k.wrap (a + b) = r) : PR P n ⟨d, .binOp .add t x y u, ty, pos, af, g⟩ e w (.int k r) :=
  ⟨fun c ha => by simp only [execOp, ha.ev hx, ha.ev hy]; simp [go_sem, Op.intArith, hr]⟩
theorem PR_subK (hx : ev e x = some (.int k a)) (hy : ev e y = some (.int k b)) {r : Int} (hr : k.wrap (a - b) = r) : PR P n ⟨d, .binOp .sub t x y u, ty, pos, af, g⟩ e w (.int k r) :=
  ⟨fun c ha => by simp only [execOp, ha.ev hx, ha.ev hy]; simp [go_sem, Op.intArith, hr]⟩
theorem PR_mulK (hx : ev e x = some (.int k a)) (hy : ev e y = some (.int k b)) {r : Int} (hr : k.wrap (a * b) = r) : PR P n ⟨d, .binOp .mul t x y u, ty, pos, af, g⟩ e w (.int k r) :=
  ⟨fun c ha => by simp only [execOp, ha.ev hx, ha.ev hy]; simp [go_sem, Op.intArith, hr]⟩
theorem PR_remK (hx : ev e x = some (.int k a)) (hy : ev e y = some (.int k b)) (hb : b ≠ 0) {r : Int} (hr : a.tmod b = r) : PR P n ⟨d, .binOp .rem t x y u, ty, pos, af, g⟩ e w (.int k r) :=
  ⟨fun c ha => by simp only [execOp, ha.ev hx, ha.ev hy]; simp [go_sem, Op.intDiv, hb]; try rw [hr]⟩
theorem PR_quoK (hx : ev e x = some (.int k a)) (hy : ev e y = some (.int k b)) (hb : b ≠ 0) {r : Int} (hr : k.wrap (a.tdiv b) = r) : PR P n ⟨d, .binOp .quo t x y u, ty, pos, af, g⟩ e w (.int k r) :=
  ⟨fun c ha => by simp only [execOp, ha.ev hx, ha.ev hy]; simp [go_sem, Op.intDiv, hb]; try rw [hr]⟩
end
/-- bytes as the cells of a string -/
theorem strCells_enc (s : Str) : Lib.strCells ⟨s.toArray⟩ = s.flatMap Flat.enc := by
  show s.map _ = _
  induction s with
  | nil => rfl
  | cons b s ih => rw [List.map_cons, ih, List.flatMap_cons]; rfl

theorem append_blockT {t tu T base : Nat} {i : TypeInfo} (ht : P.underlying t = some (.slice T)) (hu : P.underlying tu = some .string) (hi : P.info? T = some i) (hz : i.zero = some (.int .u8 0))
    (hsize : i.size = 1) (hby : i.bytes = 1) {v : Value} {m : Nat} {xs : List Value} (hown : w.ownsRow base T 1 v m xs) (s : ByteArray) (hlen : m + s.size ≤ 140737488355328) {v' : Value} {w' : World}
    (hr : (Builtin.append_ #[t, tu] ty #[v, .string s]).run P w = .ok v' w') : ∀ b ∈ ob v', b ∈ ob v ∨ w.heap.size ≤ b := by
  have hxl : xs.length = m := by simpa using hown.1
  rcases hown.2 with ⟨rfl, rfl⟩ | ⟨g, cap, cur, rfl, hbg, hg, hnc, hcm, hcs, htake⟩
  · by_cases hm : s.size = 0
    · have hf := Lib.run_firstCells_string (P := P) w 1 s
      rw [hm] at hf
      have : (Builtin.append_ #[t, tu] ty #[.slice none 0 0, .string s]).run P w = .ok (.slice none 0 0) w := by
        simp [Builtin.append_, run_underlying ht, run_underlying hu, sizeOf, typeInfo, hi, hsize, Builtin.lenOf, hm, hf]
      rw [this] at hr
      cases hr
      simp [ob]
    · have h := run_append_nil_string (P := P) w t tu ty T i (.int .u8 0) ht hu hi hz s (by omega) (by omega) (by rw [hby]; omega)
      rw [h] at hr
      cases hr
      simp [ob]
  · by_cases hroom : m + s.size ≤ cap
    · have hcs' : cur.size = cap := by simpa using hcs
      have h := Lib.run_append_room_string (P := P) w t tu ty T i ht hu hi hsize g m cap cur hg s hroom (by omega)
      rw [h] at hr
      cases hr
      simp [ob]
    · have holds : ∀ j u, xs[j]? = some u → w.cell? ((⟨g, 0, none⟩ : Addr).add j) = some u := hown.cells (g := g) rfl
      have h := Lib.run_append_grow_string (P := P) w t tu ty T i (.int .u8 0) ht hu hi hz ⟨g, 0, none⟩ m cap xs (by rw [hsize]; simpa using hxl) holds s (by omega) (by omega) (by rw [hby]; exact growslice_fits (by omega) (by omega))
      rw [h] at hr
      cases hr
      simp [ob]
/-- append of a string to a row of bytes -/
theorem OE_appendT {t tu T base : Nat} {X : List Nat} {x y : Operand} {v : Value} {xs : List UInt8} {s : Str} [ht : Und P t (.slice T)] [hu : Und P tu .string] [hk : Siz P T 1] [hb : Byt P T 1] [hz : Zer P T (.int .u8 0)]
    (hx : ev e x = some v) (hy : ev e y = some (str s)) (hrow : Row X w base T v xs) (hlen : xs.length + s.length ≤ 140737488355328) (hbase : base ≤ w.heap.size) :
    OE P n ⟨d, .call { callee := .builtin .append, args := #[x, y], argTypes := #[t, tu] }, ty, pos, af, g⟩ e w (fun v' w' => Row X w' base T v' (xs ++ s) ∧ Stp (ob v) w w' ∧ ∀ b ∈ ob v', b ∈ ob v ∨ w.heap.size ≤ b) := by
  obtain ⟨i, hi, hi1, hi2, hi3⟩ : ∃ i, P.info? T = some i ∧ i.size = 1 ∧ i.bytes = 1 ∧ i.zero = some (.int .u8 0) := by
    have a1 := hk.h
    have a2 := hb.h
    have a3 := hz.h
    cases hi : P.info? T with
    | none => simp [hi] at a1
    | some i => exact ⟨i, rfl, by simpa [hi] using a1, by simpa [hi] using a2, by simpa [hi] using a3⟩
  obtain ⟨css, hl, hr, ho⟩ := hrow
  have hcss : css = xs.map Flat.enc := by
    apply List.ext_getElem (by simp [hl])
    intro i h1 h2
    have : css[i] = Flat.enc xs[i] := hr i (by omega) h1
    simpa using this
  subst hcss
  have hsz : (⟨s.toArray⟩ : ByteArray).size = s.length := str_size s
  obtain ⟨v', w', hrun, h1, h2, h3⟩ := Lib.run_append_own_string (P := P) w base t tu ty T i ht.h hu.h hi hi3 hi1 hi2 v xs.length _ ho ⟨s.toArray⟩ (by rw [hsz]; unfold maxLen; omega) (by rw [hsz]; omega) hbase
  rw [hsz, strCells_enc] at h1
  have hblk := append_blockT (P := P) ht.h hu.h hi hi3 hi1 hi2 ho ⟨s.toArray⟩ (by rw [hsz]; exact hlen) hrun
  have hS : Stp (ob v) w w' := by rw [← ob_own]; exact Stp.of_grown h2
  refine OE_value (v := v') (w' := w') (fun a ha => ?_) ⟨⟨(xs ++ s).map Flat.enc, by simp, fun i hi hi' => (List.getElem_map _ : ((xs ++ s).map Flat.enc)[i] = Flat.enc (xs ++ s)[i]), ?_⟩, hS, hblk⟩
  · simp [execOp, resolve, invoke, builtin, ha.ev hx, ha.ev hy, hrun]
  · have e1 : ((xs ++ s).map Flat.enc).flatten = (xs.map Flat.enc).flatten ++ s.flatMap Flat.enc := by rw [List.map_append, List.flatten_append, List.flatMap_def]
    rw [e1, List.length_append]
    exact h1

theorem PR_eqlNil {t u el : TypeId} {x y : Operand} {p : Option Addr} {l c : Nat} [hu : Und P t (.slice el)] (hx : ev e x = some (.slice p l c)) (hy : ev e y = some (.slice none 0 0)) :
    PR P n ⟨d, .binOp .eql t x y u, ty, pos, af, g⟩ e w (.bool p.isNone) :=
  ⟨fun a ha => by
    have h := run_equal_slice_nil (P := P) w t el p l c hu.h
    simp only [execOp, ha.ev hx, ha.ev hy]
    simp [go_sem, binOp, h]⟩
theorem PR_neqNil {t u el : TypeId} {x y : Operand} {p : Option Addr} {l c : Nat} [hu : Und P t (.slice el)] (hx : ev e x = some (.slice p l c)) (hy : ev e y = some (.slice none 0 0)) :
    PR P n ⟨d, .binOp .neq t x y u, ty, pos, af, g⟩ e w (.bool (!p.isNone)) :=
  ⟨fun a ha => by
    have h := run_equal_slice_nil (P := P) w t el p l c hu.h
    simp only [execOp, ha.ev hx, ha.ev hy]
    simp [go_sem, binOp, h]⟩
/-- a string of bytes -/
theorem PR_convB {src dst el : TypeId} {x : Operand} {v : Value} {X : List Nat} {xs : List UInt8} [hs : Und P src (.slice el)] [hd : Und P dst .string] [he : Und P el (.int .u8)] (hx : ev e x = some v) (hv : SlV X w v xs) :
    PR P n ⟨d, .convert src dst x, ty, pos, af, g⟩ e w (str xs) := by
  obtain ⟨p, c, rfl, hl, hm, hn, hc⟩ := hv
  refine ⟨fun a ha => ?_⟩
  have key : (convert src dst (.slice p xs.length c)).run P w = .ok (str xs) w := by
    cases p with
    | none =>
      have hx0 : xs = [] := by
        cases xs with
        | nil => rfl
        | cons b r =>
          obtain ⟨_, _, _, h, _⟩ := hc 0 (by simp)
          cases h
      subst hx0
      have := run_convert_bytes_nil (P := P) w src el hs.h he.h 0 c dst hd.h
      rw [List.length_nil, this]
      rfl
    | some a =>
      by_cases hx0 : xs = []
      · subst hx0
        have hl0 : (loadCells a 0).run P w = .ok ((([] : List Int).map (Value.int .u8)).toArray) w := by simp [loadCells, loadCellsFrom]
        have h2 := run_bytesToString (P := P) w a 0 c [] hl0
        rw [List.length_nil, run_convert_bytes_string w src dst el _ 0 c hs.h he.h hd.h, h2]
        rfl
      · have h0 : 0 < xs.length := List.length_pos_iff.2 hx0
        obtain ⟨b, o, cs, hp, _⟩ := hc 0 h0
        simp only [Option.some.injEq] at hp
        subst hp
        have h2 := run_convert_bytes_arg (P := P) w src el hs.h he.h b o xs.length c (xs.map fun x => (x.toNat : Int)) (by simp) (fun i hi => by
          obtain ⟨b', o', cs', hp', _, _, hr, hcell⟩ := hc i hi
          simp only [Option.some.injEq, Addr.mk.injEq, and_true] at hp'
          obtain ⟨rfl, rfl⟩ := hp'
          have hr' : cs' = Flat.enc xs[i] := hr
          subst hr'
          have := hcell 0 (.int .u8 (xs[i].toNat : Int)) rfl
          rw [show o + i * GoRep.k UInt8 + 0 = o + i by show o + i * 1 + 0 = o + i; omega] at this
          rw [this]
          simp [List.getD, List.getElem?_eq_getElem hi]) dst hd.h
        rw [h2]
        congr 2
        simp only [strOfNums, List.map_map]
        congr 2
        conv => rhs; rw [← List.map_id xs]
        apply List.map_congr_left
        intro x _
        simp
  simp [execOp, ha.ev hx, key]
end
end Go.Eng
/-
The walk engine, part 19: a drawn region in which some operations 'alloc' hang free beside a chain of others: they may come at any time before the operations that join them.
-/
namespace Go.Eng
open Go Go.RowKit Go.Proofs
set_option linter.unusedVariables false

/-- an 'alloc' that hangs free: its number, its slot, its type, the zero value -/
structure Fl where
  i : Nat
  d : Nat
  T : Nat
  z : Value
structure FlOk (P : Program) (n : Nat) (ops : Array Oper) (F : List Fl) : Prop where
  op : ∀ f ∈ F, ∃ ty pos af, ops[f.i]? = some ⟨some f.d, .alloc f.T, ty, pos, af, none⟩
  zero : ∀ f ∈ F, Zer P f.T f.z
  small : ∀ f ∈ F, Nat.blt f.d n = true
  idx : (F.map Fl.i).Nodup
  dst : ∀ f ∈ F, ∀ g ∈ F, f.d = g.d → f = g

def checkP (ops : Array Oper) (Lt : List Nat) (is : List Nat) : List (Nat × Nat) → List (Nat × Nat) → Array Bool → Bool
  | [], join, listed => (subs is).all (fun rem => rem.isEmpty || Region.ready .any ops (lst listed is rem) == rem) && checkD ops Lt join (lst listed is [])
  | (i, 0) :: r, join, listed => (subs is).all (fun rem => (Region.ready .any ops (lst listed is rem)).contains i && Region.free .any ops (lst listed is rem) i) && !is.contains i && checkP ops Lt is r join (listed.setIfInBounds i true)
  | (i, 1) :: r, join, listed => (subs is).all (fun rem => (Region.ready .any ops (lst listed is rem)).contains i && Region.free .any ops (lst listed is rem) i) && bound ops Lt i && !is.contains i && checkP ops Lt is r join (listed.setIfInBounds i true)
  | (i, 2) :: r, join, listed => (subs is).all (fun rem => (Region.ready .any ops (lst listed is rem)).contains i && (Region.ready .any ops (lst listed is rem)).all (fun j => j == i || rem.contains j)) && !is.contains i && checkP ops Lt is r join (listed.setIfInBounds i true)
  | _ :: _, _, _ => false

theorem lst_set {listed : Array Bool} {is rem : List Nat} {i : Nat} (hi : is.contains i = false) : (lst listed is rem).setIfInBounds i true = lst (listed.setIfInBounds i true) is rem := by
  apply Array.ext
  · simp [lst]
  · intro m h1 h2
    have hm : m < listed.size := by simpa [lst] using h2
    rw [Array.getElem_setIfInBounds]
    · simp only [lst, Array.getElem_ofFn]
      by_cases e : i = m
      · subst e
        simp
      · rw [if_neg e]
        have : (listed.setIfInBounds i true)[m]'(by simpa using hm) = listed[m] := by rw [Array.getElem_setIfInBounds hm]; simp [e]
        simp [this]
    · simpa [lst] using hm
theorem Has.cons {n : Nat} {e : Env} {a : Act} {d : Nat} {v : Value} (h : Has n e a) (hv : a.tmps.getD d undef = v) : Has n ((d, v) :: e) a := by
  refine ⟨h.defers, h.size, fun t x hx => ?_⟩
  rw [look_cons] at hx
  by_cases hd : d = t
  · subst hd; simp at hx; subst hx; exact hv
  · rw [if_neg hd] at hx; exact h.vals _ _ hx
theorem put_other {a : Act} {d t : Nat} {v : Value} (h : d ≠ t) : (a.put (some d) v).tmps.getD t undef = a.tmps.getD t undef := by
  simp [Act.put, Array.getElem?_setIfInBounds_ne h]
theorem put_same {n : Nat} {e : Env} {a : Act} {d : Nat} {v : Value} (h : Has n e a) (hd : Nat.blt d n = true) : (a.put (some d) v).tmps.getD d undef = v := by
  have hlt : d < a.tmps.size := by rw [h.size]; exact Nat.le_of_ble_eq_true hd
  simp [Act.put, hlt]
theorem Has.beside {n : Nat} {e : Env} {a : Act} {d : Nat} {v : Value} (h : Has n e a) (hd : look e d = none) : Has n e (a.put (some d) v) := by
  refine ⟨h.defers, by simp [Act.put, h.size], fun t u hu => ?_⟩
  by_cases hdt : d = t
  · subst hdt; rw [hd] at hu; cases hu
  · rw [put_other hdt]; exact h.vals t u hu

/-- what stands while the operations F hang free: those of 'done' have their blocks, which lie in D -/
structure FlAt (F : List Fl) (rem : List Nat) (done : List (Fl × Nat)) (w : World) (D : List Nat) (a : Act) : Prop where
  all : ∀ f ∈ F, f.i ∈ rem ∨ ∃ b, (f, b) ∈ done
  blk : ∀ p ∈ done, Blk w p.2 p.1.T p.1.z.cells.toList
  mem : ∀ p ∈ done, p.1 ∈ F ∧ p.2 ∈ D
  val : ∀ p ∈ done, a.tmps.getD p.1.d undef = .pointer (some ⟨p.2, 0, none⟩)
  inj : ∀ p ∈ done, ∀ q ∈ done, p.2 = q.2 → p = q
  old : ∀ p ∈ done, ¬ p.1.i ∈ rem

structure WP (P : Program) (n : Nat) (ops : Array Oper) (Lt : List Nat) (Q : Exit → Act → World → Prop) (F : List Fl) (main join : List (Nat × Nat)) (e : Env) (J : World → List Nat → Prop) : Prop where
  h : ∀ listed : Array Bool, Region.noSelect ops = true → checkP ops Lt (F.map Fl.i) main join listed = true → (∀ f ∈ F, look e f.d = none) → ∀ rem : List Nat, rem.Sublist (F.map Fl.i) → ∀ done w D a, FlAt F rem done w D a → J w D → Has n e a →
    wpAnyE P .any ops [] (fun j => Lt.contains j) (fun a w => Q .normal a w) (wt main + rem.length + wt join) (lst listed (F.map Fl.i) rem) a w
/-- J stands in every later world that leaves the old blocks -/
def Keeps (J : World → List Nat → Prop) : Prop := ∀ w w' D D', J w D → Stp [] w w' → (∀ b ∈ D', b ∈ D ∨ (w.heap.size ≤ b ∧ b < w'.heap.size)) → J w' D'

section rules
variable {P : Program} {n : Nat} {ops : Array Oper} {Lt : List Nat} {Q : Exit → Act → World → Prop} {F : List Fl} {rest join : List (Nat × Nat)} {e : Env} {J : World → List Nat → Prop}
variable {i d : Nat} {op : Op} {ty : TypeId} {pos : String} {af : Array Edge} {gd : Option (Nat × Bool)} {v : Value}

theorem FlAt.put {rem : List Nat} {done : List (Fl × Nat)} {w : World} {D : List Nat} {a : Act} (h : FlAt F rem done w D a) (hd : F.all (fun f => f.d != d) = true) : FlAt F rem done w D (a.put (some d) v) :=
  ⟨h.all, h.blk, h.mem, fun p hp => by
    have := List.all_eq_true.1 hd p.1 (h.mem p hp).1
    rw [put_other (by simp at this; exact fun h => this h.symm)]
    exact h.val p hp, h.inj, h.old⟩
theorem FlAt.world {rem : List Nat} {done : List (Fl × Nat)} {w w' : World} {D D' : List Nat} {a : Act} (h : FlAt F rem done w D a) (hS : Stp [] w w') (hD : ∀ b ∈ D, b ∈ D') : FlAt F rem done w' D' a :=
  ⟨h.all, fun p hp => (h.blk p hp).up hS, fun p hp => ⟨(h.mem p hp).1, hD _ (h.mem p hp).2⟩, h.val, h.inj, h.old⟩
/-- one of the free ones comes -/
theorem FlAt.next (hF : FlOk P n ops F) {rem : List Nat} {done : List (Fl × Nat)} {w w' : World} {D : List Nat} {a : Act} (h : FlAt F rem done w D a) {f : Fl} (hf : f ∈ F) (hr : f.i ∈ rem) (hnd : rem.Nodup) {b : Nat} (hb : w.heap.size ≤ b) (hB : Blk w' b f.T f.z.cells.toList) (hS : Stp [] w w') (ha : Has n e a) :
    FlAt F (rem.erase f.i) ((f, b) :: done) w' (b :: D) (a.put (some f.d) (.pointer (some ⟨b, 0, none⟩))) := by
  have hone : ∀ g ∈ F, g.i = f.i → g = f := by
    intro g hg hi
    have := hF.idx
    obtain ⟨x, hx, rfl⟩ := List.getElem_of_mem hf
    obtain ⟨y, hy, rfl⟩ := List.getElem_of_mem hg
    have h1 : (F.map Fl.i)[y]'(by simpa using hy) = (F.map Fl.i)[x]'(by simpa using hx) := by simpa using hi
    have h2 := (List.getElem_inj this).1 h1
    subst h2
    rfl
  have hne : ∀ p ∈ done, p.1 ≠ f := fun p hp hpf => h.old p hp (hpf ▸ hr)
  refine ⟨fun g hg => ?_, fun p hp => ?_, fun p hp => ?_, fun p hp => ?_, fun p hp q hq hpq => ?_, fun p hp => ?_⟩
  · by_cases hi : g.i = f.i
    · obtain rfl := hone g hg hi
      exact .inr ⟨b, by simp⟩
    · rcases h.all g hg with h1 | ⟨b', h1⟩
      · exact .inl ((List.mem_erase_of_ne hi).2 h1)
      · exact .inr ⟨b', by simp [h1]⟩
  · rcases List.mem_cons.1 hp with rfl | hp
    · exact hB
    · exact (h.blk p hp).up hS
  · rcases List.mem_cons.1 hp with rfl | hp
    · exact ⟨hf, by simp⟩
    · exact ⟨(h.mem p hp).1, by simp [(h.mem p hp).2]⟩
  · rcases List.mem_cons.1 hp with rfl | hp
    · exact put_same ha (hF.small _ hf)
    · rw [put_other (fun hd => hne p hp (hF.dst f hf p.1 (h.mem p hp).1 hd).symm)]
      exact h.val p hp
  · rcases List.mem_cons.1 hp with rfl | hp <;> rcases List.mem_cons.1 hq with rfl | hq
    · rfl
    · have := (h.blk q hq).lt; simp only at hpq; omega
    · have := (h.blk p hp).lt; simp only at hpq; omega
    · exact h.inj p hp q hq hpq
  · rcases List.mem_cons.1 hp with rfl | hp
    · exact hnd.not_mem_erase
    · exact fun hm => h.old p hp (List.mem_of_mem_erase hm)

theorem look_fresh (hd : F.all (fun f => f.d != d) = true) (hE : ∀ f ∈ F, look e f.d = none) : ∀ f ∈ F, look ((d, v) :: e) f.d = none := by
  intro f hf
  rw [look_cons]
  have := List.all_eq_true.1 hd f hf
  rw [if_neg (by simp at this; exact fun h => this h.symm)]
  exact hE f hf

theorem WP_step0 {o : Oper} (hi : ops[i]? = some o) (hd : o.dst = some d) (hY : ∀ w D a, J w D → Has n e a → YE P ops (fun _ _ => True) o v a w) (hdn : Nat.blt d n = true) (hdF : F.all (fun f => f.d != d) = true)
    (k : WP P n ops Lt Q F rest join ((d, v) :: e) J) : WP P n ops Lt Q F ((i, 0) :: rest) join e J := by
  refine ⟨fun listed hs hB hE rem hrem done w D a hat hJ ha => ?_⟩
  simp only [checkP, Bool.and_eq_true] at hB
  obtain ⟨⟨h1, hni⟩, h3⟩ := hB
  have hni' : (F.map Fl.i).contains i = false := by simpa using hni
  have h2 := List.all_eq_true.1 h1 rem (subs_mem hrem)
  simp only [Bool.and_eq_true] at h2
  have hk := k.h _ hs h3 (look_fresh hdF hE) rem hrem done w D _ (hat.put hdF) hJ (ha.put (v := v) hdn)
  rw [← lst_set hni', ← hd] at hk
  rw [wt_small (by decide), show wt rest + 1 + rem.length + wt join = (wt rest + rem.length + wt join) + 1 by omega]
  exact first_E (R := fun _ _ => True) (fun _ => trivial) (fun _ _ _ _ _ => trivial) hi (fun _ _ _ _ _ _ _ _ => trivial) (Region.noSelect_spec hs) _ _ _ _ (Region.free_spec hi h2.2) (fun _ => trivial) (by simpa using h2.1) (hY w D a hJ ha) hk
theorem WP_step1 {o : Oper} (hi : ops[i]? = some o) (hd : o.dst = some d) (hY : ∀ w D a, J w D → Has n e a → YE P ops (Stp []) o v a w) (hdn : Nat.blt d n = true) (hdF : F.all (fun f => f.d != d) = true)
    (k : WP P n ops Lt Q F rest join ((d, v) :: e) J) : WP P n ops Lt Q F ((i, 1) :: rest) join e J := by
  refine ⟨fun listed hs hB hE rem hrem done w D a hat hJ ha => ?_⟩
  simp only [checkP, Bool.and_eq_true] at hB
  obtain ⟨⟨⟨h1, hb⟩, hni⟩, h3⟩ := hB
  have hni' : (F.map Fl.i).contains i = false := by simpa using hni
  have h2 := List.all_eq_true.1 h1 rem (subs_mem hrem)
  simp only [Bool.and_eq_true] at h2
  have hk := k.h _ hs h3 (look_fresh hdF hE) rem hrem done w D _ (hat.put hdF) hJ (ha.put (v := v) hdn)
  rw [← lst_set hni', ← hd] at hk
  rw [wt_small (by decide), show wt rest + 1 + rem.length + wt join = (wt rest + rem.length + wt join) + 1 by omega]
  refine first_E (R := Stp []) (fun w => Stp.refl _ w) (fun _ _ _ h k => h.trans k) hi (fun j oj hj hn hji w w' hs => ?_) (Region.noSelect_spec hs) _ _ _ _ (Region.free_spec hi h2.2) (fun _ => trivial) (by simpa using h2.1) (hY w D a hJ ha) hk
  rcases hs with hs | hs
  · exact hs
  · rw [bound_spec hb hj hn hji] at hs; cases hs
/-- an operation that looks at no memory -/
theorem WP_free (hi : ops[i]? = some ⟨some d, op, ty, pos, af, gd⟩) (hg : gdOk ops e gd) (hp : ∀ w', PR P n ⟨some d, op, ty, pos, af, gd⟩ e w' v) (hdn : Nat.blt d n = true) (hdF : F.all (fun f => f.d != d) = true)
    (k : WP P n ops Lt Q F rest join ((d, v) :: e) J) : WP P n ops Lt Q F ((i, 0) :: rest) join e J :=
  WP_step0 hi rfl (fun w D a hJ ha => .inl ⟨wanted_ok ha hg, fun w' _ => (hp w').h a ha⟩) hdn hdF k
/-- one that reads old memory -/
theorem WP_read (hK : Keeps J) (hi : ops[i]? = some ⟨some d, op, ty, pos, af, gd⟩) (hg : gdOk ops e gd) (hp : ∀ w D, J w D → PR P n ⟨some d, op, ty, pos, af, gd⟩ e w v) (hdn : Nat.blt d n = true) (hdF : F.all (fun f => f.d != d) = true)
    (k : WP P n ops Lt Q F rest join ((d, v) :: e) J) : WP P n ops Lt Q F ((i, 1) :: rest) join e J :=
  WP_step1 hi rfl (fun w D a hJ ha => .inl ⟨wanted_ok ha hg, fun w' hw => (hp w' D (hK w w' D D hJ hw (fun b hb => .inl hb))).h a ha⟩) hdn hdF k

/-- what one of the free ones does -/
theorem alloc_free (hF : FlOk P n ops F) {f : Fl} (hf : f ∈ F) {w : World} {a : Act} {K : Act → World → Prop}
    (hk : ∀ b w', w.heap.size ≤ b → Blk w' b f.T f.z.cells.toList → Stp [] w w' → K (a.put (some f.d) (.pointer (some ⟨b, 0, none⟩))) w') (ha : Has n e a) : wpOp P ops (fun _ _ _ => False) f.i K a w := by
  obtain ⟨ty, pos, af, hop⟩ := hF.op f hf
  have := hF.zero f hf
  have hoe : OE P n ⟨some f.d, .alloc f.T, ty, pos, af, none⟩ e w (NewBlk w f.T f.z.cells.toList) := OE_alloc
  unfold wpOp
  simp only [hop]
  rw [if_pos (by simp [Region.wanted])]
  refine .inl (Oper.wp_mono ?_ (hoe.h a ha _))
  rintro a' w' ⟨_, rfl, b, rfl, hb, hB, hS⟩
  exact hk b w' hb hB hS
theorem mem_idx {f : Nat} (h : f ∈ F.map Fl.i) : ∃ g ∈ F, g.i = f := by simpa using h

/-- an effect: the only one that is ready but for those that hang free -/
theorem WP_eff (hF : FlOk P n ops F) (hK : Keeps J) {J' : Value → World → List Nat → Prop} (hi : ops[i]? = some ⟨some d, op, ty, pos, af, gd⟩) (hg : gdOk ops e gd) (hp : ∀ w D, J w D → OE P n ⟨some d, op, ty, pos, af, gd⟩ e w (fun v w' => Stp [] w w' ∧ J' v w' D)) (hdn : Nat.blt d n = true) (hdF : F.all (fun f => f.d != d) = true)
    (k : ∀ v, WP P n ops Lt Q F rest join ((d, v) :: e) (J' v)) : WP P n ops Lt Q F ((i, 2) :: rest) join e J := by
  refine ⟨fun listed hs hB hE => ?_⟩
  simp only [checkP, Bool.and_eq_true] at hB
  obtain ⟨⟨h1, hni⟩, h3⟩ := hB
  have hni' : (F.map Fl.i).contains i = false := by simpa using hni
  have key : ∀ (m : Nat) (rem : List Nat), rem.length = m → rem.Sublist (F.map Fl.i) → ∀ done w D a, FlAt F rem done w D a → J w D → Has n e a →
      wpAnyE P .any ops [] (fun j => Lt.contains j) (fun a w => Q .normal a w) (wt ((i, 2) :: rest) + rem.length + wt join) (lst listed (F.map Fl.i) rem) a w := by
    intro m
    induction m with
    | zero =>
      intro rem hl hrem done w D a hat hJ ha
      have h2 := List.all_eq_true.1 h1 rem (subs_mem hrem)
      simp only [Bool.and_eq_true] at h2
      rw [wt_small (by decide), show wt rest + 1 + rem.length + wt join = (wt rest + rem.length + wt join) + 1 by omega]
      refine ⟨fun h0 => by rw [h0] at h2; simp at h2, fun j hj => ?_⟩
      have hj2 := List.all_eq_true.1 h2.2 j hj
      obtain rfl := List.length_eq_zero_iff.1 hl
      obtain rfl : j = i := by simpa using hj2
      unfold wpOp
      simp only [hi]
      rw [if_pos (wanted_ok ha hg)]
      refine .inl (Oper.wp_mono ?_ ((hp w D hJ).h a ha _))
      rintro a' w' ⟨v, rfl, hS, hJ'⟩
      refine ⟨.inl hS, ?_⟩
      rw [lst_set hni']
      exact (k v).h _ hs h3 (look_fresh hdF hE) [] hrem done w' D _ ((hat.put hdF).world hS (fun b hb => hb)) hJ' (ha.put (v := v) hdn)
    | succ m ih =>
      intro rem hl hrem done w D a hat hJ ha
      have h2 := List.all_eq_true.1 h1 rem (subs_mem hrem)
      simp only [Bool.and_eq_true] at h2
      rw [wt_small (by decide), show wt rest + 1 + rem.length + wt join = (wt rest + rem.length + wt join) + 1 by omega]
      refine ⟨fun h0 => by rw [h0] at h2; simp at h2, fun j hj => ?_⟩
      have hj2 := List.all_eq_true.1 h2.2 j hj
      by_cases hji : j = i
      · subst hji
        unfold wpOp
        simp only [hi]
        rw [if_pos (wanted_ok ha hg)]
        refine .inl (Oper.wp_mono ?_ ((hp w D hJ).h a ha _))
        rintro a' w' ⟨v, rfl, hS, hJ'⟩
        refine ⟨.inl hS, ?_⟩
        rw [lst_set hni']
        exact (k v).h _ hs h3 (look_fresh hdF hE) rem hrem done w' D _ ((hat.put hdF).world hS (fun b hb => hb)) hJ' (ha.put (v := v) hdn)
      · have hjr : j ∈ rem := by simpa [hji] using hj2
        obtain ⟨f, hf, rfl⟩ := mem_idx (hrem.subset hjr)
        refine alloc_free hF hf (fun b w' hb hB hS => ?_) ha
        refine ⟨.inl hS, ?_⟩
        rw [lst_step (hrem.nodup hF.idx) hrem hjr]
        have hlen : (rem.erase f.i).length = m := by rw [List.length_erase_of_mem hjr]; omega
        have := ih (rem.erase f.i) hlen (List.erase_sublist.trans hrem) _ w' (b :: D) _ (hat.next hF hf hjr (hrem.nodup hF.idx) hb hB hS ha) (hK w w' D (b :: D) hJ hS (fun c hc => by
          rcases List.mem_cons.1 hc with rfl | hc
          · exact .inr ⟨hb, hB.lt⟩
          · exact .inl hc)) (ha.beside (hE f hf))
        rw [wt_small (by decide)] at this
        rw [show wt rest + rem.length + wt join = wt rest + 1 + (rem.erase f.i).length + wt join by omega]
        exact this
  intro rem hrem done w D a hat hJ ha
  exact key rem.length rem rfl hrem done w D a hat hJ ha

theorem WP_ex {σ : Type} {main : List (Nat × Nat)} {J : σ → World → List Nat → Prop} (h : ∀ s, WP P n ops Lt Q F main join e (J s)) : WP P n ops Lt Q F main join e (fun w D => ∃ s, J s w D) :=
  ⟨fun listed hs hB hE rem hrem done w D a hat ⟨s, hJ⟩ ha => (h s).h listed hs hB hE rem hrem done w D a hat hJ ha⟩
theorem WP_and {main : List (Nat × Nat)} {p : Prop} (h : p → WP P n ops Lt Q F main join e J) : WP P n ops Lt Q F main join e (fun w D => p ∧ J w D) :=
  ⟨fun listed hs hB hE rem hrem done w D a hat ⟨hp, hJ⟩ ha => (h hp).h listed hs hB hE rem hrem done w D a hat hJ ha⟩
theorem WP_mono {main : List (Nat × Nat)} {J' : World → List Nat → Prop} (hJ : ∀ w D, J w D → J' w D) (h : WP P n ops Lt Q F main join e J') : WP P n ops Lt Q F main join e J :=
  ⟨fun listed hs hB hE rem hrem done w D a hat hJ' ha => h.h listed hs hB hE rem hrem done w D a hat (hJ _ _ hJ') ha⟩
/-- all have come -/
theorem WP_join (hF : FlOk P n ops F) (hK : Keeps J)
    (fin : ∀ w D done a, FlAt F [] done w D a → J w D → Has n e a → ∃ e', Has n e' a ∧ WD P n ops [] Lt Q join e' w) : WP P n ops Lt Q F [] join e J := by
  refine ⟨fun listed hs hB hE => ?_⟩
  simp only [checkP, Bool.and_eq_true] at hB
  obtain ⟨h1, h3⟩ := hB
  have key : ∀ (m : Nat) (rem : List Nat), rem.length = m → rem.Sublist (F.map Fl.i) → ∀ done w D a, FlAt F rem done w D a → J w D → Has n e a →
      wpAnyE P .any ops [] (fun j => Lt.contains j) (fun a w => Q .normal a w) (wt [] + rem.length + wt join) (lst listed (F.map Fl.i) rem) a w := by
    intro m
    induction m with
    | zero =>
      intro rem hl hrem done w D a hat hJ ha
      obtain rfl := List.length_eq_zero_iff.1 hl
      obtain ⟨e', he', hk⟩ := fin w D done a hat hJ ha
      have := hk.h _ hs h3 a he'
      simpa [wt] using this
    | succ m ih =>
      intro rem hl hrem done w D a hat hJ ha
      have h2 := List.all_eq_true.1 h1 rem (subs_mem hrem)
      have hne : rem ≠ [] := fun h => by subst h; simp at hl
      have h2' : Region.ready .any ops (lst listed (F.map Fl.i) rem) = rem := by
        cases rem with
        | nil => exact absurd rfl hne
        | cons x r => simpa using h2
      rw [show wt [] + rem.length + wt join = (m + wt join) + 1 by simp [wt]; omega]
      refine ⟨fun h0 => absurd (h2'.symm.trans h0) hne, fun j hj => ?_⟩
      rw [h2'] at hj
      obtain ⟨f, hf, rfl⟩ := mem_idx (hrem.subset hj)
      refine alloc_free hF hf (fun b w' hb hB hS => ?_) ha
      refine ⟨.inl hS, ?_⟩
      rw [lst_step (hrem.nodup hF.idx) hrem hj]
      have hlen : (rem.erase f.i).length = m := by rw [List.length_erase_of_mem hj]; omega
      have := ih (rem.erase f.i) hlen (List.erase_sublist.trans hrem) _ w' (b :: D) _ (hat.next hF hf hj (hrem.nodup hF.idx) hb hB hS ha) (hK w w' D (b :: D) hJ hS (fun c hc => by
        rcases List.mem_cons.1 hc with rfl | hc
        · exact .inr ⟨hb, hB.lt⟩
        · exact .inl hc)) (ha.beside (hE f hf))
      rw [show m + wt join = wt [] + (rem.erase f.i).length + wt join by simp [wt]; omega]
      exact this
  intro rem hrem done w D a hat hJ ha
  exact key rem.length rem rfl hrem done w D a hat hJ ha
/-- two have come -/
theorem WP_join2 {f g : Fl} (hF : FlOk P n ops [f, g]) (hK : Keeps J) (hfg : f.i ≠ g.i)
    (fin : ∀ w D b c, J w D → b ∈ D → c ∈ D → b ≠ c → Blk w b f.T f.z.cells.toList → Blk w c g.T g.z.cells.toList → WD P n ops [] Lt Q join ((f.d, .pointer (some ⟨b, 0, none⟩)) :: (g.d, .pointer (some ⟨c, 0, none⟩)) :: e) w) : WP P n ops Lt Q [f, g] [] join e J := by
  refine WP_join hF hK (fun w D done a hat hJ ha => ?_)
  obtain ⟨b, hb⟩ : ∃ b, (f, b) ∈ done := by simpa using hat.all f (by simp)
  obtain ⟨c, hc⟩ : ∃ c, (g, c) ∈ done := by simpa using hat.all g (by simp)
  have hbc : b ≠ c := fun h => hfg (by
    have := hat.inj _ hb _ hc h
    exact congrArg (fun p => p.1.i) this)
  exact ⟨_, (ha.cons (hat.val _ hc)).cons (hat.val _ hb), fin w D b c hJ (hat.mem _ hb).2 (hat.mem _ hc).2 hbc (hat.blk _ hb) (hat.blk _ hc)⟩
theorem WP_join1 {f : Fl} (hF : FlOk P n ops [f]) (hK : Keeps J)
    (fin : ∀ w D b, J w D → b ∈ D → Blk w b f.T f.z.cells.toList → WD P n ops [] Lt Q join ((f.d, .pointer (some ⟨b, 0, none⟩)) :: e) w) : WP P n ops Lt Q [f] [] join e J := by
  refine WP_join hF hK (fun w D done a hat hJ ha => ?_)
  obtain ⟨b, hb⟩ : ∃ b, (f, b) ∈ done := by simpa using hat.all f (by simp)
  exact ⟨_, ha.cons (hat.val _ hb), fin w D b hJ (hat.mem _ hb).2 (hat.blk _ hb)⟩
theorem WP_with {main : List (Nat × Nat)} (hF : FlOk P n ops F) (h : FlOk P n ops F → WP P n ops Lt Q F main join e J) : WP P n ops Lt Q F main join e J := h hF
/-- such a region -/
theorem WC_drawnP {id : Nat} {l : List Oper} (m : Nat) (F : List Fl) (Lt : List Nat) (main join : List (Nat × Nat)) {w : World} (J : World → List Nat → Prop) (hlm : l.length = m) (hm : P.follows .mixedOrders = true) (hs : Region.noSelect l.toArray = true)
    (hl : Nat.beq (wt main + F.length + wt join) l.length = true) (hB : checkP l.toArray Lt (F.map Fl.i) main join (Array.replicate m false) = true) (hE : ∀ f ∈ F, look e f.d = none)
    (h0 : ∀ w', Stp [] w w' → J w' []) (h : WP P n l.toArray Lt Q F main join e J) : WC P n (.region id l.toArray true) Q e w := by
  subst hlm
  refine ⟨fun a ha => wp_region_any hm ?_⟩
  have hall : lst (Array.replicate l.length false) (F.map Fl.i) (F.map Fl.i) = Array.replicate l.length false := lst_all _ _
  have h1 := h.h _ hs hB hE (F.map Fl.i) (List.Sublist.refl _) [] { w with drawn := w.drawn + 1 } [] a ⟨fun f hf => .inl (List.mem_map.2 ⟨f, hf, rfl⟩), by simp, by simp, by simp, by simp, by simp⟩ (h0 _ (Stp.drew [] w)) ha
  rw [hall, List.length_map] at h1
  have h2 := wpAny_of_E (Q := Q) (fun a w hz => hz) _ _ _ _ h1
  rw [Nat.eq_of_beq_eq_true hl] at h2
  simpa using h2
end rules
end Go.Eng
namespace Go.Eng
open Go Go.RowKit Go.Proofs
set_option linter.unusedVariables false
section post
variable {P : Program} {n : Nat} {fn : Func} {R : Ending → World → Prop} {e : Env} {w : World} {Q : Exit → Act → World → Prop}
/-- two results that are structs -/
theorem WQ_retcc {t u b c T U T' U' m k : Nat} {D E : TypeDesc} {cs ds : List Value} (hr : fn.results = #[.cell t T', .cell u U']) [hu : Und P T' D] [hu2 : Und P U' E] (hA : aggB D = true) (hA2 : aggB E = true) [hs : Siz P T' m] [hs2 : Siz P U' k] (ht : look e t = some (.pointer (some ⟨b, 0, none⟩))) (hb : Blk w b T cs) (hl : cs.length = m)
    (ht2 : look e u = some (.pointer (some ⟨c, 0, none⟩))) (hb2 : Blk w c U ds) (hl2 : ds.length = k) (h : R (.returned (.tuple #[.agg cs.toArray, .agg ds.toArray])) w) : WQ n (bodyPost P fn R) .ret e w :=
  ⟨fun a ha => ⟨ha.defers, .tuple #[.agg cs.toArray, .agg ds.toArray], by
    have h1 := ha.vals _ _ ht
    have h2 := ha.vals _ _ ht2
    rw [Array.getD_eq_getD_getElem?] at h1 h2
    simp [results, hr, h1, h2, asAddr, loadVar_blk hA hb hl, loadVar_blk hA2 hb2 hl2], h⟩⟩
end post
end Go.Eng
namespace Go.Proofs.YtfjmlobgjdmecaaDoor
open Go Go.Eng Go.RowKit
set_option linter.unusedVariables false
theorem Size_any (x : Nd) : ∀ (X : List Nat) (v : Value) (w : World), sizeN x ≤ 1000000000 → NdV X w v x →
    Calls Tryd.prog 81 #[v] w (Ret fun r w' => r = .int .i64 (sizeN x : Int) ∧ Stp [] w w') := by
  induction x using Nd.ind with
  | h k n s l ih =>
  intro X v w hb hx
  generalize hxe : Nd.mk k n s l = x at *
  have ih' : ∀ y ∈ x.kids, ∀ (X : List Nat) (v : Value) (w : World), sizeN y ≤ 1000000000 → NdV X w v y → Calls Tryd.prog 81 #[v] w (Ret fun r w' => r = .int .i64 (sizeN y : Int) ∧ Stp [] w w') := by
    subst hxe; exact ih
  clear ih hxe k n s l
  obtain ⟨kv, rfl, hs⟩ := hx
  have hmax := hs.max
  have hall := sizeN_eq x
  refine calls_of_WC1 (n := 21) Tryd.func81 rfl rfl rfl ?_
  refine W ?_
  refine WL_eff (OE_box rfl) rfl ?_
  rintro _ w1 ⟨b, rfl, hbb, hblk, hS⟩
  replace hblk : Blk w1 b _ (ndC x kv) := hblk
  replace hs := hs.up hS
  refine W ?_
  have hs0 := hs
  have hblk0 := hblk
  refine WC_loop (σ := Nat) (fun k => [(1, .pointer (some ⟨b, 0, none⟩)), (3, .int .i64 ((1 + ((x.kids.take k).map sizeN).sum : Nat) : Int)), (4, .int .i64 k)]) (fun k w' => k ≤ x.kids.length ∧ Stp [] w1 w') (fun k => x.kids.length - k) 0 ⟨rfl, rfl, rfl, trivial⟩ ⟨Nat.zero_le _, Stp.refl _ _⟩ ?_
  clear hs hblk
  rintro k w2 ⟨hk, hS2⟩
  have hs := hs0.up hS2
  have hblk := hblk0.up hS2
  by_cases hlt : k < x.kids.length
  · obtain ⟨kv2, hs2, hc2⟩ := hs.nd hlt
    have hkid := size_kid (List.getElem_mem hlt)
    have hpre : ((x.kids.take (k + 1)).map sizeN).sum ≤ (x.kids.map sizeN).sum := by
      conv => rhs; rw [← List.take_append_drop (k + 1) x.kids]
      rw [List.map_append, List.sum_append]
      omega
    have hstep : ((x.kids.take (k + 1)).map sizeN).sum = ((x.kids.take k).map sizeN).sum + sizeN x.kids[k] := by
      rw [List.take_succ_eq_append_getElem hlt, List.map_append, List.sum_append]
      simp
    repeat' (first | refine W1 ?_ | (exfalso; omega) | refine WL_split rfl rfl (fun hg => ?_) (fun hg => ?_) | refine WL_splitB rfl rfl (fun hg => ?_) (fun hg => ?_) | refine WC_cond rfl (fun hc => ?_) (fun hc => ?_) | refine WC_condB rfl (fun hc => ?_) (fun hc => ?_))
    apply WL_pure (PR_loadNd rfl rfl hs hlt hc2) rfl
    refine WL_eff (OE_call rfl (evs1 rfl) (ih' x.kids[k] (List.getElem_mem hlt) X _ _ (by omega) ⟨kv2, rfl, hs2⟩)) rfl ?_
    rintro _ w3 ⟨rfl, hS3⟩
    refine W ?_
    refine WQ_loop (k + 1) ⟨rfl, ?_, rfl, trivial⟩ ⟨hlt, hS2.trans hS3⟩ (by omega)
    rw [hstep]
    show some _ = some _
    congr 2
    omega
  · have hke : k = x.kids.length := by omega
    subst hke
    rw [List.take_length]
    repeat' (first | refine W1 ?_ | (exfalso; omega) | refine WL_split rfl rfl (fun hg => ?_) (fun hg => ?_) | refine WL_splitB rfl rfl (fun hg => ?_) (fun hg => ?_) | refine WC_cond rfl (fun hc => ?_) (fun hc => ?_) | refine WC_condB rfl (fun hc => ?_) (fun hc => ?_))
    first | refine WQ_ret1 rfl rfl ?_ | refine WQ_ret2 rfl rfl rfl ?_ | refine WQ_ret3 rfl rfl rfl rfl ?_ | refine WQ_ret0 rfl ?_ | refine WQ_end0 rfl ?_
    refine .mk ⟨?_, hS.trans hS2⟩
    rw [hall]
/-- a part of a tree, and the tree in which it is replaced by m -/
inductive PartR (m : Nd) : Nd → Nd → Nd → Prop
  | here (n : Nd) : PartR m n n m
  | kid (n : Nd) (i : Nat) (hi : i < n.kids.length) (a b : Nd) (h : PartR m n.kids[i] a b) : PartR m n a (.mk n.kind n.num n.word (n.kids.set i b))
theorem sum_set (l : List Nat) (i : Nat) (h : i < l.length) (a : Nat) : (l.set i a).sum + l[i] = l.sum + a := by
  induction l generalizing i with
  | nil => simp at h
  | cons x l ih =>
    cases i with
    | zero => simp; omega
    | succ i =>
      have := ih i (by simpa using h)
      simp only [List.set_cons_succ, List.sum_cons, List.getElem_cons_succ]
      omega
theorem PartR.size {m n a b : Nd} (h : PartR m n a b) : sizeN a ≤ sizeN n ∧ sizeN b ≤ sizeN n + sizeN m := by
  induction h with
  | here n => exact ⟨Nat.le_refl _, by omega⟩
  | kid n i hi a b h ih =>
    have hk := size_kid (List.getElem_mem hi)
    refine ⟨by omega, ?_⟩
    rw [sizeN_eq (.mk _ _ _ _), sizeN_eq n]
    show 1 + ((n.kids.set i b).map sizeN).sum ≤ _
    rw [List.map_set]
    have := sum_set (n.kids.map sizeN) i (by simpa using hi) (sizeN b)
    simp only [List.getElem_map] at this
    omega
end Go.Proofs.YtfjmlobgjdmecaaDoor
namespace Go.Proofs.YtfjmlobgjdmecaaDoor
open Go Go.Eng Go.RowKit
set_option linter.unusedVariables false
/-- the sum of the sizes of the first kids -/
abbrev pre (l : List Nd) (j : Nat) : Nat := ((l.take j).map sizeN).sum
theorem pre_succ {l : List Nd} {j : Nat} (h : j < l.length) : pre l (j + 1) = pre l j + sizeN l[j] := by
  unfold pre
  rw [List.take_succ_eq_append_getElem h, List.map_append, List.sum_append]
  simp
theorem pre_le (l : List Nd) (j : Nat) : pre l j ≤ (l.map sizeN).sum := by
  unfold pre
  conv => rhs; rw [← List.take_append_drop j l]
  rw [List.map_append, List.sum_append]
  omega
theorem pre_all (l : List Nd) : pre l l.length = (l.map sizeN).sum := by unfold pre; rw [List.take_length]
/-- what the loop has found -/
def Fnd (m x : Nd) (at0 : Nat) (j : Nat) (p : Nd) (ks : List Nd) : Prop :=
  (pre x.kids j < at0 ∧ p = x ∧ ks = x.kids.take j) ∨ (at0 ≤ pre x.kids j ∧ ∃ i b, ∃ hi : i < x.kids.length, i < j ∧ PartR m x.kids[i] p b ∧ ks = (x.kids.set i b).take j)
theorem Fnd.len {m x p : Nd} {at0 j : Nat} {ks : List Nd} (h : Fnd m x at0 j p ks) (hj : j ≤ x.kids.length) : ks.length = j := by
  rcases h with ⟨_, _, rfl⟩ | ⟨_, i, b, hi, _, _, rfl⟩ <;> simp <;> omega
theorem Fnd.skip {m x p : Nd} {at0 j : Nat} {ks : List Nd} (h : Fnd m x at0 j p ks) (hj : j < x.kids.length) (hn : pre x.kids (j + 1) < at0 ∨ at0 ≤ pre x.kids j) : Fnd m x at0 (j + 1) p (ks ++ [x.kids[j]]) := by
  have hs := pre_succ hj
  have hp := size_pos x.kids[j]
  rcases h with ⟨h1, rfl, rfl⟩ | ⟨h1, i, b, hi, hij, hr, rfl⟩
  · left
    refine ⟨by omega, rfl, ?_⟩
    rw [List.take_succ_eq_append_getElem hj]
  · right
    refine ⟨by omega, i, b, hi, by omega, hr, ?_⟩
    rw [List.take_succ_eq_append_getElem (by simpa using hj), List.getElem_set_ne (by omega)]
theorem Fnd.hit {m x p a b : Nd} {at0 j : Nat} {ks : List Nd} (h : Fnd m x at0 j p ks) (hj : j < x.kids.length) (h1 : pre x.kids j < at0) (h2 : at0 ≤ pre x.kids (j + 1)) (hr : PartR m x.kids[j] a b) : Fnd m x at0 (j + 1) a (ks ++ [b]) := by
  rcases h with ⟨_, rfl, rfl⟩ | ⟨h1', _⟩
  · right
    refine ⟨h2, j, b, hj, by omega, hr, ?_⟩
    rw [List.take_succ_eq_append_getElem (by simpa using hj), List.getElem_set_self, List.take_set_of_le (by omega)]
  · omega
theorem Fnd.fin {m x p : Nd} {at0 : Nat} {ks : List Nd} (h : Fnd m x at0 x.kids.length p ks) (h1 : at0 < sizeN x) : PartR m x p (.mk x.kind x.num x.word ks) := by
  rw [sizeN_eq] at h1
  rcases h with ⟨h2, _⟩ | ⟨_, i, b, hi, _, hr, rfl⟩
  · rw [pre_all] at h2; omega
  · rw [List.take_of_length_le (by simp)]
    exact .kid x i hi _ _ hr
theorem NdV.parts {X : List Nat} {w : World} {v : Value} {x : Nd} (h : NdV X w v x) : ∃ p c, v = .agg #[.int .i64 x.kind, .int .i64 x.num, str x.word, .slice p x.kids.length c] ∧ SlV X w (.slice p x.kids.length c) x.kids := by
  obtain ⟨kv, rfl, hs⟩ := h
  obtain ⟨p, c, rfl, -⟩ := id hs
  exact ⟨p, c, rfl, hs⟩
theorem slv1 {X : List Nat} {w w' : World} {y : Nd} {p : Option Addr} {c : Nat} {bv : Value} (hN : NewSl w 24 1 [.int .i64 y.kind, .int .i64 y.num, str y.word, .slice p y.kids.length c] bv w') (hX : ∀ b ∈ X, b < w.heap.size) (hy : SlV X w (.slice p y.kids.length c) y.kids) : SlV X w' bv [y] :=
  hN.slvG (css := [ndC y _]) hX rfl rfl rfl (fun i hi hi' => by
    have : i = 0 := by simp at hi; exact hi
    subst this
    show NRep _ _ y _
    rw [y.eta]
    exact slv_nrep hy) (by simp [maxLen])
set_option maxHeartbeats 1600000 in
theorem Part_any (x : Nd) : ∀ (m : Nd) (X : List Nat) (v u : Value) (w : World) (a0 : Nat), a0 < sizeN x → sizeN x ≤ 1000000 → (∀ b ∈ X, b < w.heap.size) → NdV X w v x → NdV X w u m →
    Calls Tryd.prog 80 #[v, .int .i64 (a0 : Int), u] w (Ret fun r w' => ∃ va vb a b, r = .tuple #[va, vb] ∧ PartR m x a b ∧ NdV X w' va a ∧ NdV X w' vb b ∧ Stp [] w w') := by
  induction x using Nd.ind with
  | h k n s l ih =>
  intro m X v u w a0 ha0 hbig hX hx hu
  generalize hxe : Nd.mk k n s l = x at *
  have ih' : ∀ i (h : i < x.kids.length), ∀ (X : List Nat) (v u : Value) (w : World) (z : Int) (a0 : Nat), z = (a0 : Int) → a0 < sizeN x.kids[i] → sizeN x.kids[i] ≤ 1000000 → (∀ b ∈ X, b < w.heap.size) → NdV X w v x.kids[i] → NdV X w u m →
      Calls Tryd.prog 80 #[v, .int .i64 z, u] w (Ret fun r w' => ∃ va vb a b, r = .tuple #[va, vb] ∧ PartR m x.kids[i] a b ∧ NdV X w' va a ∧ NdV X w' vb b ∧ Stp [] w w') := by
    subst hxe
    rintro i h X v u w z a0 rfl
    exact ih _ (List.getElem_mem h) m X v u w a0
  clear ih hxe k n s l
  obtain ⟨kv, rfl, hs⟩ := hx
  obtain ⟨mv, rfl, hm⟩ := hu
  have hmax := hs.max
  have hall := sizeN_eq x
  have hlen := len_le_sum x.kids
  refine calls_of_WC3 (n := 81) Tryd.func80 rfl rfl rfl ?_
  refine W ?_
  refine WL_eff (OE_box rfl) rfl ?_
  rintro _ w1 ⟨b3, rfl, hb3, hblk3, hS⟩
  replace hblk3 : Blk w1 b3 24 (ndC x kv) := hblk3
  refine WL_eff (OE_box rfl) rfl ?_
  rintro _ w2 ⟨b5, rfl, hb5, hblk5, hT⟩
  replace hblk5 : Blk w2 b5 24 (ndC m mv) := hblk5
  have l3 := hblk3.lt
  replace hblk3 := hblk3.up hT
  have hsz := hS.size
  replace hS := hS.trans hT
  clear hT
  refine WL_eff OE_alloc rfl ?_
  rintro _ w3 ⟨b6, rfl, hb6, hblk6, hT⟩
  have l5 := hblk5.lt
  replace hblk3 := hblk3.up hT
  replace hblk5 := hblk5.up hT
  replace hS := hS.trans hT
  clear hT
  refine WL_eff OE_alloc rfl ?_
  rintro _ w4 ⟨b7, rfl, hb7, hblk7, hT⟩
  have l6 := hblk6.lt
  have l7 := hblk7.lt
  replace hblk3 := hblk3.up hT
  replace hblk5 := hblk5.up hT
  replace hblk6 := hblk6.up hT
  replace hS := hS.trans hT
  clear hT
  replace hs : SlV (b6 :: b7 :: X) w4 kv x.kids := hs.ext hS (by simp) (fun b hb => by
    simp only [List.mem_cons] at hb
    rcases hb with rfl | rfl | hb
    · exact .inr (by omega)
    · exact .inr (by omega)
    · exact .inl hb)
  replace hm : SlV (b6 :: b7 :: X) w4 mv m.kids := hm.ext hS (by simp) (fun b hb => by
    simp only [List.mem_cons] at hb
    rcases hb with rfl | rfl | hb
    · exact .inr (by omega)
    · exact .inr (by omega)
    · exact .inl hb)
  have hXl : ∀ c ∈ b6 :: b7 :: X, c < w4.heap.size := fun c hc => by
    simp only [List.mem_cons] at hc
    rcases hc with rfl | rfl | hc
    · omega
    · exact l7
    · have := hX c hc; have := hS.size; omega
  by_cases hz : a0 = 0
  · subst hz
    repeat' (first | refine W1 ?_ | (exfalso; omega) | refine WL_split rfl rfl (fun hg => ?_) (fun hg => ?_) | refine WL_splitB rfl rfl (fun hg => ?_) (fun hg => ?_) | refine WC_cond rfl (fun hc => ?_) (fun hc => ?_) | refine WC_condB rfl (fun hc => ?_) (fun hc => ?_))
    · refine WC_drawn 4 ([b6, b7]) [] [(0, 1), (1, 1), (2, 2), (3, 2)] rfl mixed (by kernel_rfl) (by kernel_rfl) (by kernel_rfl) (fun w1 hS1 => ?_)
      replace hblk3 := hblk3.up (hS1.mono (by simp))
      replace hblk5 := hblk5.up (hS1.mono (by simp))
      replace hblk6 := hblk6.up (hS1.mono (by simp))
      replace hblk7 := hblk7.up (hS1.mono (by simp))
      replace hs := hs.up hS1
      replace hm := hm.up hS1
      replace hS := hS.trans hS1
      clear hS1
      refine D ?_
      refine WD_eff0 rfl trivial (OE_storeA (us := ndC x kv) rfl rfl rfl rfl (ndC_one hs) hblk6 rfl) (fun _ _ h => h.1.mono (by simp)) ?_
      rintro _ w6 ⟨hT, hblk6'⟩
      replace hblk7 := hblk7.ext hT (by simp; omega)
      replace hs := hs.ext (X' := b6 :: b7 :: X) hT (fun c hc => by simp at hc; simp [hc]) (fun c hc => .inl hc)
      replace hm := hm.ext (X' := b6 :: b7 :: X) hT (fun c hc => by simp at hc; simp [hc]) (fun c hc => .inl hc)
      replace hS := hS.own hT (fun c hc => .inr (by simp at hc; omega))
      clear hT
      refine D ?_
      refine WD_eff0 rfl trivial (OE_storeA (us := ndC m mv) rfl rfl rfl rfl (ndC_one hm) hblk7 rfl) (fun _ _ h => h.1.mono (by simp)) ?_
      rintro _ w7 ⟨hT, hblk7'⟩
      have hblk6'' := hblk6'.ext hT (by simp; omega)
      replace hs := hs.ext (X' := b6 :: b7 :: X) hT (fun c hc => by simp at hc; simp [hc]) (fun c hc => .inl hc)
      replace hm := hm.ext (X' := b6 :: b7 :: X) hT (fun c hc => by simp at hc; simp [hc]) (fun c hc => .inl hc)
      replace hS := hS.own hT (fun c hc => .inr (by simp at hc; omega))
      refine D ?_
      refine W ?_
      refine WQ_retcc rfl rfl rfl rfl hblk6'' rfl rfl hblk7' rfl ?_
      exact .mk ⟨_, _, x, m, rfl, .here x, ⟨kv, rfl, hs.wk (fun c hc => by simp [hc])⟩, ⟨mv, rfl, hm.wk (fun c hc => by simp [hc])⟩, hS⟩
  · repeat' (first | refine W1 ?_ | (exfalso; omega) | refine WL_split rfl rfl (fun hg => ?_) (fun hg => ?_) | refine WL_splitB rfl rfl (fun hg => ?_) (fun hg => ?_) | refine WC_cond rfl (fun hc => ?_) (fun hc => ?_) | refine WC_condB rfl (fun hc => ?_) (fun hc => ?_))
    apply WL_build (vs := [(0, .int .i64 x.kind), (1, .int .i64 x.num), (2, str x.word)]) rfl (buildN3 _ _ _) rfl
    refine WL_eff OE_alloc rfl ?_
    rintro _ w5 ⟨b8, rfl, hb8, hblk8, hT⟩
    refine WL_eff0 (OE_storeA (us := [.int .i64 x.kind, .int .i64 x.num, str x.word, .slice none 0 0]) rfl rfl rfl rfl (by simp; refine ⟨rfl, rfl, rfl, rfl⟩) hblk8 rfl) ?_
    rintro _ w6 ⟨hT2, hblk8⟩
    have l8 := hblk8.lt
    replace hT := hT.own hT2 (fun c hc => .inr (by simp at hc; omega))
    clear hT2
    replace hblk3 := hblk3.up hT
    replace hblk5 := hblk5.up hT
    replace hblk6 := hblk6.up hT
    replace hblk7 := hblk7.up hT
    replace hS := hS.trans hT
    replace hs : SlV (b8 :: b6 :: b7 :: X) w6 kv x.kids := hs.ext hT (by simp) (fun b hb => by
      rcases List.mem_cons.1 hb with rfl | hb
      · exact .inr hb8
      · exact .inl hb)
    replace hm : SlV (b8 :: b6 :: b7 :: X) w6 mv m.kids := hm.ext hT (by simp) (fun b hb => by
      rcases List.mem_cons.1 hb with rfl | hb
      · exact .inr hb8
      · exact .inl hb)
    replace hXl : ∀ c ∈ b8 :: b6 :: b7 :: X, c < w6.heap.size := fun c hc => by
      rcases List.mem_cons.1 hc with rfl | hc
      · exact l8
      · have := hXl c hc; have := hT.size; omega
    clear hT
    have hb68 : b6 < b8 := by omega
    refine W ?_
    refine WL_eff OE_alloc rfl ?_
    rintro _ w7 ⟨b9, rfl, hb9, hblk9, hT⟩
    refine WL_eff0 (OE_storeA (us := ndC x kv) rfl rfl rfl rfl (ndC_one hs) hblk9 rfl) ?_
    rintro _ w8 ⟨hT2, hblk9⟩
    have l9 := hblk9.lt
    replace hT := hT.own hT2 (fun c hc => .inr (by simp at hc; omega))
    clear hT2
    replace hblk3 := hblk3.up hT
    replace hblk5 := hblk5.up hT
    replace hblk6 := hblk6.up hT
    replace hblk7 := hblk7.up hT
    replace hblk8 := hblk8.up hT
    replace hS := hS.trans hT
    replace hs : SlV (b9 :: b8 :: b6 :: b7 :: X) w8 kv x.kids := hs.ext hT (by simp) (fun b hb => by
      rcases List.mem_cons.1 hb with rfl | hb
      · exact .inr hb9
      · exact .inl hb)
    replace hm : SlV (b9 :: b8 :: b6 :: b7 :: X) w8 mv m.kids := hm.ext hT (by simp) (fun b hb => by
      rcases List.mem_cons.1 hb with rfl | hb
      · exact .inr hb9
      · exact .inl hb)
    replace hXl : ∀ c ∈ b9 :: b8 :: b6 :: b7 :: X, c < w8.heap.size := fun c hc => by
      rcases List.mem_cons.1 hc with rfl | hc
      · exact l9
      · have := hXl c hc; have := hT.size; omega
    clear hT
    refine W ?_
    have hs0 := hs
    have hm0 := hm
    refine WC_loop (σ := Nat × Value × List Nd × Nd × Value) (fun q => [(1, .int .i64 ((a0 : Int) - 1 - (pre x.kids q.1 : Int))), (3, .pointer (some ⟨b3, 0, none⟩)), (5, .pointer (some ⟨b5, 0, none⟩)), (6, .pointer (some ⟨b6, 0, none⟩)), (7, .pointer (some ⟨b7, 0, none⟩)), (8, .pointer (some ⟨b8, 0, none⟩)), (9, .pointer (some ⟨b9, 0, none⟩)), (10, .int .i64 (q.1 : Int))])
      (fun q w' => q.1 ≤ x.kids.length ∧ Fnd m x a0 q.1 q.2.2.2.1 q.2.2.1 ∧ Row (b9 :: b8 :: b6 :: b7 :: X) w' w8.heap.size 24 q.2.1 q.2.2.1 ∧ Blk w' b8 24 [.int .i64 x.kind, .int .i64 x.num, str x.word, q.2.1] ∧ Blk w' b9 24 (ndC q.2.2.2.1 q.2.2.2.2) ∧ SlV (ob q.2.1 ++ b9 :: b8 :: b6 :: b7 :: X) w' q.2.2.2.2 q.2.2.2.1.kids ∧ Stp [b8, b9] w8 w') (fun q => x.kids.length - q.1) (0, .slice none 0 0, [], x, kv)
      ⟨by show some _ = some _; simp [pre], rfl, rfl, rfl, rfl, rfl, rfl, rfl, trivial⟩ ⟨Nat.zero_le _, .inl ⟨by simp [pre]; omega, rfl, by simp⟩, Row.nil, hblk8, hblk9, hs, Stp.refl _ _⟩ ?_
    clear hblk8 hblk9 hs hm
    rintro ⟨j, u, ks, p, pv⟩ w9 ⟨hj, hfn, hrow, hblk8, hblk9, hp, hT⟩
    dsimp only at hj hfn hrow hblk8 hblk9 hp hT ⊢
    have n98 : b9 ≠ b8 := by omega
    have hblk3' := hblk3.ext hT (by simp; omega)
    have hblk5' := hblk5.ext hT (by simp; omega)
    have hfresh : ∀ c ∈ ob u ++ b9 :: b8 :: b6 :: b7 :: X, c ∈ b9 :: b8 :: b6 :: b7 :: X ∨ w8.heap.size ≤ c := fun c hc => by
      rcases List.mem_append.1 hc with h | h
      · exact .inr (hrow.ob_le c h).1
      · exact .inl h
    have hXu : ∀ c ∈ ob u ++ b9 :: b8 :: b6 :: b7 :: X, c < w9.heap.size := fun c hc => by
      rcases List.mem_append.1 hc with h | h
      · exact (hrow.ob_le c h).2
      · exact Nat.lt_of_lt_of_le (hXl c h) hT.size
    have hs : SlV (ob u ++ b9 :: b8 :: b6 :: b7 :: X) w9 kv x.kids := hs0.ext hT (fun c hc => by simp at hc; rcases hc with rfl | rfl <;> simp) hfresh
    have hm : SlV (ob u ++ b9 :: b8 :: b6 :: b7 :: X) w9 mv m.kids := hm0.ext hT (fun c hc => by simp at hc; rcases hc with rfl | rfl <;> simp) hfresh
    have n3u : b3 ∉ ob u := fun h => by have := (hrow.ob_le b3 h).1; omega
    have n8u : b8 ∉ ob u := fun h => by have := (hrow.ob_le b8 h).1; have := hXl b8 (by simp); omega
    have n9u : b9 ∉ ob u := fun h => by have := (hrow.ob_le b9 h).1; have := hXl b9 (by simp); omega
    have hpre := pre_le x.kids j
    have hkl := hfn.len hj
    by_cases hlt : j < x.kids.length
    · obtain ⟨kv2, hk2, hc2⟩ := hs.nd hlt
      have hpre1 := pre_le x.kids (j + 1)
      have hps := pre_succ hlt
      have hkp := size_pos x.kids[j]
      repeat' (first | refine W1 ?_ | (exfalso; omega) | refine WL_split rfl rfl (fun hg => ?_) (fun hg => ?_) | refine WL_splitB rfl rfl (fun hg => ?_) (fun hg => ?_) | refine WC_cond rfl (fun hc => ?_) (fun hc => ?_) | refine WC_condB rfl (fun hc => ?_) (fun hc => ?_))
      apply WL_pure (PR_loadNd rfl rfl hs hlt hc2) rfl
      refine WL_eff (OE_call rfl (evs1 rfl) (Size_any x.kids[j] _ _ _ (by omega) ⟨kv2, rfl, hk2⟩)) rfl ?_
      rintro _ w10 ⟨rfl, hT1⟩
      replace hc2 := fun (j : Nat) (u : Value) h => cell_on hs hlt (hT1.mono (by simp)) (hc2 j u h)
      replace hblk3' := hblk3'.up hT1
      replace hblk5' := hblk5'.up hT1
      replace hblk8 := hblk8.up hT1
      replace hblk9 := hblk9.up hT1
      replace hrow := hrow.up hT1
      replace hs := hs.up hT1
      replace hm := hm.up hT1
      replace hp := hp.up hT1
      replace hk2 := hk2.up hT1
      replace hT := hT.trans (hT1.mono (by simp))
      replace hXu : ∀ c ∈ ob u ++ b9 :: b8 :: b6 :: b7 :: X, c < w10.heap.size := fun c hc => Nat.lt_of_lt_of_le (hXu c hc) hT1.size
      clear hT1
      by_cases hin : pre x.kids j < a0 ∧ a0 ≤ pre x.kids (j + 1)
      · obtain ⟨hin1, hin2⟩ := hin
        repeat' (first | refine W1 ?_ | (exfalso; omega) | refine WL_split rfl rfl (fun hg => ?_) (fun hg => ?_) | refine WL_splitB rfl rfl (fun hg => ?_) (fun hg => ?_) | refine WC_cond rfl (fun hc => ?_) (fun hc => ?_) | refine WC_condB rfl (fun hc => ?_) (fun hc => ?_))
        have hK : Keeps (fun w' D => Stp [] w10 w' ∧ ∀ c ∈ D, c < w'.heap.size ∧ w10.heap.size ≤ c) := fun w w' D D' hJ hS hD => ⟨hJ.1.trans hS, fun c hc => by
          rcases hD c hc with h | h
          · have := hJ.2 c h; have := hS.size; omega
          · have := hJ.1.size; omega⟩
        refine WC_drawnP 15 [⟨11, 12, 24, (.agg #[.int .i64 0, .int .i64 0, .string ByteArray.empty, .slice none 0 0])⟩, ⟨12, 13, 24, (.agg #[.int .i64 0, .int .i64 0, .string ByteArray.empty, .slice none 0 0])⟩] [13, 14] [(0,0),(1,1),(2,0),(3,0),(4,1),(5,0),(6,1),(7,2),(8,0),(9,0),(10,0)] [(13,2),(14,2)] (fun w' D => Stp [] w10 w' ∧ ∀ c ∈ D, c < w'.heap.size ∧ w10.heap.size ≤ c) rfl mixed (by kernel_rfl) (by kernel_rfl) (by kernel_rfl) (by intro f hf; simp at hf; rcases hf with rfl | rfl <;> rfl) (fun w' hS' => ⟨hS', by simp⟩) ?_
        refine WP_with (F := [⟨11, 12, 24, (.agg #[.int .i64 0, .int .i64 0, .string ByteArray.empty, .slice none 0 0])⟩, ⟨12, 13, 24, (.agg #[.int .i64 0, .int .i64 0, .string ByteArray.empty, .slice none 0 0])⟩]) ⟨by intro f hf; simp at hf; rcases hf with rfl | rfl <;> exact ⟨_, _, _, rfl⟩, by intro f hf; simp at hf; rcases hf with rfl | rfl <;> exact inferInstance, by intro f hf; simp at hf; rcases hf with rfl | rfl <;> rfl, by show [11, 12].Nodup; decide, by intro f hf g hg h; simp at hf hg; rcases hf with rfl | rfl <;> rcases hg with rfl | rfl <;> first | rfl | cases h⟩ (fun hF => ?_)
        refine WP_free rfl trivial (fun w' => PR_fieldAddr rfl) rfl rfl ?_
        refine WP_read hK rfl trivial (fun w D hJ => PR_load_blk rfl rfl (hblk3'.up hJ.1) rfl) rfl rfl ?_
        refine WP_free rfl trivial (fun w' => PR_move rfl) rfl rfl ?_
        refine WP_free rfl trivial (fun w' => PR_idx rfl hs rfl rfl hlt) rfl rfl ?_
        refine WP_read hK rfl trivial (fun w D hJ => PR_loadNd rfl rfl (hs.up hJ.1) hlt (fun j u hj => cell_on hs hlt (hJ.1.mono (by simp)) (hc2 j u hj))) rfl rfl ?_
        refine WP_free rfl trivial (fun w' => PR_move rfl) rfl rfl ?_
        refine WP_read hK rfl trivial (fun w D hJ => PR_load_blkA rfl rfl (hblk5'.up hJ.1) rfl) rfl rfl ?_
        refine WP_eff hF hK (J' := fun v w' D => ∃ va vb a b, v = .tuple #[va, vb] ∧ PartR m x.kids[j] a b ∧ (Stp [] w10 w' ∧ (∀ c ∈ D, c < w'.heap.size ∧ w10.heap.size ≤ c) ∧ NdV (D ++ (ob u ++ b9 :: b8 :: b6 :: b7 :: X)) w' va a ∧ NdV (D ++ (ob u ++ b9 :: b8 :: b6 :: b7 :: X)) w' vb b)) rfl trivial
          (fun w D hJ => (OE_call rfl (evs3 rfl rfl rfl) (ih' j hlt (D ++ (ob u ++ b9 :: b8 :: b6 :: b7 :: X)) _ _ w _ (a0 - 1 - pre x.kids j) (by omega) (by omega) (by omega) (fun c hc => by
            rcases List.mem_append.1 hc with h | h
            · exact (hJ.2 c h).1
            · exact Nat.lt_of_lt_of_le (hXu c h) hJ.1.size) ⟨kv2, rfl, hk2.ext hJ.1 (by simp) (fun c hc => by
            rcases List.mem_append.1 hc with h | h
            · exact .inr (hJ.2 c h).2
            · exact .inl h)⟩ ⟨mv, rfl, hm.ext hJ.1 (by simp) (fun c hc => by
            rcases List.mem_append.1 hc with h | h
            · exact .inr (hJ.2 c h).2
            · exact .inl h)⟩)).mono (fun v w' ⟨va, vb, a, b, h1, h2, h3, h4, h5⟩ => ⟨h5, va, vb, a, b, h1, h2, hJ.1.trans h5, fun c hc => ⟨Nat.lt_of_lt_of_le (hJ.2 c hc).1 h5.size, (hJ.2 c hc).2⟩, h3, h4⟩)) rfl rfl ?_
        intro vt
        refine WP_ex fun va => WP_ex fun vb => WP_ex fun pa => WP_ex fun pb => WP_and ?_
        rintro rfl
        refine WP_and fun hpr => ?_
        have hK2 : Keeps (fun w' D => Stp [] w10 w' ∧ (∀ c ∈ D, c < w'.heap.size ∧ w10.heap.size ≤ c) ∧ NdV (D ++ (ob u ++ b9 :: b8 :: b6 :: b7 :: X)) w' va pa ∧ NdV (D ++ (ob u ++ b9 :: b8 :: b6 :: b7 :: X)) w' vb pb) := fun w w' D D' hJ hS hD => by
          have hsub : ∀ c ∈ D' ++ (ob u ++ b9 :: b8 :: b6 :: b7 :: X), c ∈ D ++ (ob u ++ b9 :: b8 :: b6 :: b7 :: X) ∨ w.heap.size ≤ c := fun c hc => by
            rcases List.mem_append.1 hc with h | h
            · exact (hD c h).imp (fun h => List.mem_append_left _ h) (fun h => h.1)
            · exact .inl (List.mem_append_right _ h)
          exact ⟨hJ.1.trans hS, fun c hc => by
            rcases hD c hc with h | h
            · have := hJ.2.1 c h; have := hS.size; omega
            · have := hJ.1.size; omega, hJ.2.2.1.ext hS (by simp) hsub, hJ.2.2.2.ext hS (by simp) hsub⟩
        refine WP_free rfl trivial (fun w' => PR_move rfl) rfl rfl ?_
        refine WP_free rfl trivial (fun w' => PR_extract rfl rfl) rfl rfl ?_
        refine WP_free rfl trivial (fun w' => PR_extract rfl rfl) rfl rfl ?_
        refine WP_join2 hF hK2 (by decide) ?_
        rintro w11 DD b12 b13 ⟨hT1, hD, ⟨ka, rfl, hka⟩, ⟨kb, rfl, hkb⟩⟩ d12 d13 n12 hblk12 hblk13
        have hD12 := hD b12 d12
        have hD13 := hD b13 d13
        refine WD_late0 rfl trivial (OE_storeA (us := ndC pa ka) rfl rfl rfl rfl (ndC_one hka) hblk12 rfl) rfl ?_
        rintro _ w12 ⟨hT2, hq12⟩
        have hq13 := hblk13.ext hT2 (by simp; exact fun h => n12 h.symm)
        replace hka := hka.ext (X' := DD ++ (ob u ++ b9 :: b8 :: b6 :: b7 :: X)) hT2 (fun c hc => by simp at hc; subst hc; exact List.mem_append_left _ d12) (fun c hc => .inl hc)
        replace hkb := hkb.ext (X' := DD ++ (ob u ++ b9 :: b8 :: b6 :: b7 :: X)) hT2 (fun c hc => by simp at hc; subst hc; exact List.mem_append_left _ d12) (fun c hc => .inl hc)
        replace hT1 := hT1.own hT2 (fun c hc => by simp at hc; subst hc; exact .inr hD12.2)
        clear hT2 hblk12 hblk13
        refine WD_late0 rfl trivial (OE_storeA (us := ndC pb kb) rfl rfl rfl rfl (ndC_one hkb) hq13 rfl) rfl ?_
        rintro _ w13 ⟨hT2, hq13'⟩
        replace hq12 := hq12.ext hT2 (by simp; exact n12)
        replace hka := hka.ext (X' := ob u ++ b9 :: b8 :: b6 :: b7 :: X) hT2 (fun c hc => by simp at hc; subst hc; exact List.mem_append_left _ d13) (fun c hc => .inl (List.mem_append_right _ hc))
        replace hkb := hkb.ext (X' := ob u ++ b9 :: b8 :: b6 :: b7 :: X) hT2 (fun c hc => by simp at hc; subst hc; exact List.mem_append_left _ d13) (fun c hc => .inl (List.mem_append_right _ hc))
        replace hT1 := hT1.own hT2 (fun c hc => by simp at hc; subst hc; exact .inr hD13.2)
        clear hT2 hq13
        replace hblk8 := hblk8.up hT1
        replace hblk9 := hblk9.up hT1
        replace hrow := hrow.up hT1
        replace hT := hT.trans (hT1.mono (by simp))
        have n12u : b12 ∉ ob u := fun h => by have := hXu b12 (List.mem_append_left _ h); omega
        have n13u : b13 ∉ ob u := fun h => by have := hXu b13 (List.mem_append_left _ h); omega
        have n129 : b12 ≠ b9 := fun h => by have := hXu b9 (by simp); omega
        have n139 : b13 ≠ b9 := fun h => by have := hXu b9 (by simp); omega
        have hsz10 := hT1.size
        clear hT1 hblk3' hblk5' hs hm hk2 hc2 hp hK hK2 hF ih'
        obtain ⟨py, cy, rfl, -⟩ := id hkb
        refine D ?_
        refine W ?_
        refine WL_eff0 (OE_storeA (us := ndC pa ka) rfl rfl rfl rfl (ndC_one hka) hblk9 rfl) ?_
        rintro _ w14 ⟨hT2, hblk9⟩
        replace hblk8 := hblk8.ext hT2 (by simp; omega)
        replace hq13' := hq13'.ext hT2 (by simp; exact n139)
        replace hka := hka.ext (X' := ob u ++ b9 :: b8 :: b6 :: b7 :: X) hT2 (fun c hc => by simp at hc; simp [hc]) (fun c hc => .inl hc)
        replace hkb := hkb.ext (X' := ob u ++ b9 :: b8 :: b6 :: b7 :: X) hT2 (fun c hc => by simp at hc; simp [hc]) (fun c hc => .inl hc)
        replace hrow := hrow.ext (X' := b9 :: b8 :: b6 :: b7 :: X) hT2 (fun c hc => by simp at hc; subst hc; exact ⟨by simp, n9u⟩) (fun c hc => .inl hc)
        replace hT := hT.trans (hT2.mono (by simp))
        replace hXu : ∀ c ∈ ob u ++ b9 :: b8 :: b6 :: b7 :: X, c < w14.heap.size := fun c hc => Nat.lt_of_lt_of_le (Nat.lt_of_lt_of_le (hXu c hc) hsz10) hT2.size
        clear hT2 hq12
        refine W ?_
        refine WL_eff (OE_buildSlice (vs := [(0, .agg #[.int .i64 pb.kind, .int .i64 pb.num, str pb.word, .slice py pb.kids.length cy])]) rfl (buildSN1 _ _ _ _ _ _)) rfl ?_
        rintro bv w15 hN
        have hbv := slv1 hN hXu hkb
        have hT2 := NewSl.stp hN
        clear hN hkb hq13'
        replace hblk8 := hblk8.up hT2
        replace hblk9 := hblk9.up hT2
        replace hrow := hrow.up hT2
        replace hka := hka.up hT2
        replace hT := hT.trans (hT2.mono (by simp))
        clear hT2
        refine WL_eff (OE_append (X := b9 :: b8 :: b6 :: b7 :: X) (base := w8.heap.size) rfl (by decide) rfl rfl hrow hbv (by simp only [List.length_cons, List.length_nil]; omega) (by simp only [List.length_cons, List.length_nil, maxLen]; omega) hT.size) rfl ?_
        rintro u' w16 ⟨hrow', hT2, hob⟩
        replace hblk8 := hblk8.ext hT2 n8u
        replace hblk9 := hblk9.ext hT2 n9u
        have n8u' : b8 ∉ ob u' := fun h => by have := (hrow'.ob_le b8 h).1; have := hXl b8 (by simp); omega
        have n9u' : b9 ∉ ob u' := fun h => by have := (hrow'.ob_le b9 h).1; have := hXl b9 (by simp); omega
        replace hka := hka.ext (X' := ob u' ++ b9 :: b8 :: b6 :: b7 :: X) hT2 (fun c hc => List.mem_append_left _ hc) (fun c hc => by
          rcases List.mem_append.1 hc with h | h
          · exact (hob c h).imp (fun h => List.mem_append_left _ h) id
          · exact .inl (List.mem_append_right _ h))
        replace hT := hT.own hT2 (fun c hc => .inr (hrow.ob_le c hc).1)
        clear hT2 hob hrow hbv hXu
        have hsl' := hrow'.slv hXl
        refine W ?_
        refine WL_eff0 (OE_store1 (u := u') rfl rfl hsl'.cells hsl'.one hblk8 (by simp)) ?_
        rintro _ w17 ⟨hT2, hblk8'⟩
        replace hblk9 := hblk9.ext hT2 (by simp; omega)
        replace hrow' := hrow'.ext (X' := b9 :: b8 :: b6 :: b7 :: X) hT2 (fun c hc => by simp at hc; subst hc; exact ⟨by simp, n8u'⟩) (fun c hc => .inl hc)
        replace hka := hka.ext (X' := ob u' ++ b9 :: b8 :: b6 :: b7 :: X) hT2 (fun c hc => by simp at hc; simp [hc]) (fun c hc => .inl hc)
        replace hT := hT.trans (hT2.mono (by simp))
        clear hsl' hT2
        refine W ?_
        refine WQ_loop (j + 1, u', ks ++ [pb], pa, ka) ⟨?_, rfl, rfl, rfl, rfl, rfl, rfl, rfl, trivial⟩ ⟨hlt, hfn.hit hlt hin1 hin2 hpr, hrow', hblk8', hblk9, hka, hT⟩ (by dsimp only; omega)
        exact congrArg (fun z : Int => some (Value.int .i64 z)) (by dsimp only; omega)
      · skip
        have hout : pre x.kids (j + 1) < a0 ∨ a0 ≤ pre x.kids j := by omega
        clear ih'
        obtain ⟨py, cy, rfl, -⟩ := id hk2
        repeat' (first | refine W1 ?_ | (exfalso; omega) | refine WL_split rfl rfl (fun hg => ?_) (fun hg => ?_) | refine WL_splitB rfl rfl (fun hg => ?_) (fun hg => ?_) | refine WC_cond rfl (fun hc => ?_) (fun hc => ?_) | refine WC_condB rfl (fun hc => ?_) (fun hc => ?_))
        all_goals
          refine WC_drawn 11 (ob u) [10] [(0, 0), (1, 1), (2, 0), (3, 1), (4, 0), (5, 0), (6, 1), (7, 2), (8, 2), (9, 0), (10, 2)] rfl mixed (by kernel_rfl) (by kernel_rfl) (by kernel_rfl) (fun w1 hS1 => ?_)
          replace hblk3' := hblk3'.up hS1
          replace hblk8 := hblk8.up hS1
          replace hblk9 := hblk9.up hS1
          replace hrow := hrow.up hS1
          have hc3 := fun (j : Nat) (u : Value) h => cell_on hs hlt (hS1.mono (by simp)) (hc2 j u h)
          have hsu : SlV (ob u) w1 kv x.kids := (hs.up hS1).wk (fun c hc => List.mem_append_left _ hc)
          replace hp := hp.up hS1
          replace hk2 := hk2.up hS1
          replace hT := hT.trans (hS1.mono (by simp))
          replace hXu : ∀ c ∈ ob u ++ b9 :: b8 :: b6 :: b7 :: X, c < w1.heap.size := fun c hc => Nat.lt_of_lt_of_le (hXu c hc) hS1.size
          clear hS1 hc2 hs hm hblk5'
          refine D ?_
          refine WD_read rfl trivial (fun w' hS' => PR_loadNd rfl rfl (hsu.on hS' (fun _ h => h)) hlt (fun j u hj => cell_on hsu hlt hS' (hc3 j u hj))) rfl ?_
          refine D ?_
          refine WD_eff rfl trivial (OE_buildSlice (vs := [(0, .agg #[.int .i64 x.kids[j].kind, .int .i64 x.kids[j].num, str x.kids[j].word, .slice py x.kids[j].kids.length cy])]) rfl (buildSN1 _ _ _ _ _ _)) (fun _ _ h => (NewSl.stp h).mono (by simp)) rfl ?_
          rintro bv w15 hN
          have hbv := slv1 hN hXu hk2
          have hT2 := NewSl.stp hN
          clear hN
          replace hblk8 := hblk8.up hT2
          replace hblk9 := hblk9.up hT2
          replace hrow := hrow.up hT2
          replace hp := hp.up hT2
          replace hT := hT.trans (hT2.mono (by simp))
          clear hT2 hsu hk2 hc3
          refine D ?_
          refine WD_eff rfl trivial (OE_append (X := b9 :: b8 :: b6 :: b7 :: X) (base := w8.heap.size) rfl (by decide) rfl rfl hrow hbv (by simp only [List.length_cons, List.length_nil]; omega) (by simp only [List.length_cons, List.length_nil, maxLen]; omega) hT.size) (fun _ _ h => h.2.1) rfl ?_
          rintro u' w16 ⟨hrow', hT2, hob⟩
          replace hblk8 := hblk8.ext hT2 n8u
          replace hblk9 := hblk9.ext hT2 n9u
          have n8u' : b8 ∉ ob u' := fun h => by have := (hrow'.ob_le b8 h).1; have := hXl b8 (by simp); omega
          replace hp := hp.ext (X' := ob u' ++ b9 :: b8 :: b6 :: b7 :: X) hT2 (fun c hc => List.mem_append_left _ hc) (fun c hc => by
            rcases List.mem_append.1 hc with h | h
            · exact (hob c h).imp (fun h => List.mem_append_left _ h) id
            · exact .inl (List.mem_append_right _ h))
          replace hT := hT.own hT2 (fun c hc => .inr (hrow.ob_le c hc).1)
          clear hT2 hob hrow hbv hXu
          have hsl' := hrow'.slv hXl
          refine D ?_
          refine WD_late0 rfl trivial (OE_store1 (u := u') rfl rfl hsl'.cells hsl'.one hblk8 (by simp)) rfl ?_
          rintro _ w17 ⟨hT2, hblk8'⟩
          replace hblk9 := hblk9.ext hT2 (by simp; omega)
          replace hrow' := hrow'.ext (X' := b9 :: b8 :: b6 :: b7 :: X) hT2 (fun c hc => by simp at hc; subst hc; exact ⟨by simp, n8u'⟩) (fun c hc => .inl hc)
          replace hp := hp.ext (X' := ob u' ++ b9 :: b8 :: b6 :: b7 :: X) hT2 (fun c hc => by simp at hc; simp [hc]) (fun c hc => .inl hc)
          replace hT := hT.trans (hT2.mono (by simp))
          clear hsl' hT2
          refine D ?_
          refine W ?_
          refine WQ_loop (j + 1, u', ks ++ [x.kids[j]], p, pv) ⟨?_, rfl, rfl, rfl, rfl, rfl, rfl, rfl, trivial⟩ ⟨hlt, hfn.skip hlt hout, hrow', hblk8', hblk9, hp, hT⟩ (by dsimp only; omega)
          exact congrArg (fun z : Int => some (Value.int .i64 z)) (by dsimp only; omega)
    · have hje : j = x.kids.length := by omega
      subst hje
      repeat' (first | refine W1 ?_ | (exfalso; omega) | refine WL_split rfl rfl (fun hg => ?_) (fun hg => ?_) | refine WL_splitB rfl rfl (fun hg => ?_) (fun hg => ?_) | refine WC_cond rfl (fun hc => ?_) (fun hc => ?_) | refine WC_condB rfl (fun hc => ?_) (fun hc => ?_))
      have hblk6' := hblk6.ext hT (by simp; omega)
      have hblk7' := hblk7.ext hT (by simp; omega)
      replace hp : SlV (b9 :: b8 :: b6 :: b7 :: X) w9 pv p.kids := hp.wk (fun c hc => List.mem_append_right _ hc)
      have hsl : SlV (b9 :: b8 :: b6 :: b7 :: X) w9 u (Nd.mk x.kind x.num x.word ks).kids := hrow.slv hXl
      replace hblk8 : Blk w9 b8 24 (ndC (Nd.mk x.kind x.num x.word ks) u) := hblk8
      have hfin := hfn.fin ha0
      replace hS := hS.own hT (fun c hc => .inr (by simp at hc; omega))
      clear hs hm hrow hfn hT hblk6 hblk7 hblk3 hblk5 hblk3' hblk5'
      generalize (Nd.mk x.kind x.num x.word ks) = y at *
      refine WC_drawn 4 ([b6, b7]) [] [(0, 1), (1, 1), (2, 2), (3, 2)] rfl mixed (by kernel_rfl) (by kernel_rfl) (by kernel_rfl) (fun w1 hS1 => ?_)
      replace hblk6' := hblk6'.up (hS1.mono (by simp))
      replace hblk7' := hblk7'.up (hS1.mono (by simp))
      replace hblk8 := hblk8.up (hS1.mono (by simp))
      replace hblk9 := hblk9.up (hS1.mono (by simp))
      replace hp := hp.up hS1
      replace hsl := hsl.up hS1
      replace hS := hS.trans hS1
      clear hS1
      refine D ?_
      refine WD_eff0 rfl trivial (OE_storeA (us := ndC p pv) rfl rfl rfl rfl (ndC_one hp) hblk6' rfl) (fun _ _ h => h.1.mono (by simp)) ?_
      rintro _ w11 ⟨hT, hq6⟩
      replace hblk7' := hblk7'.ext hT (by simp; omega)
      replace hp := hp.ext (X' := b9 :: b8 :: b6 :: b7 :: X) hT (fun c hc => by simp at hc; simp [hc]) (fun c hc => .inl hc)
      replace hsl := hsl.ext (X' := b9 :: b8 :: b6 :: b7 :: X) hT (fun c hc => by simp at hc; simp [hc]) (fun c hc => .inl hc)
      replace hS := hS.own hT (fun c hc => .inr (by simp at hc; omega))
      clear hT
      refine D ?_
      refine WD_eff0 rfl trivial (OE_storeA (us := ndC y u) rfl rfl rfl rfl (ndC_one hsl) hblk7' rfl) (fun _ _ h => h.1.mono (by simp)) ?_
      rintro _ w12 ⟨hT, hq7⟩
      replace hq6 := hq6.ext hT (by simp; omega)
      replace hp := hp.ext (X' := b9 :: b8 :: b6 :: b7 :: X) hT (fun c hc => by simp at hc; simp [hc]) (fun c hc => .inl hc)
      replace hsl := hsl.ext (X' := b9 :: b8 :: b6 :: b7 :: X) hT (fun c hc => by simp at hc; simp [hc]) (fun c hc => .inl hc)
      replace hS := hS.own hT (fun c hc => .inr (by simp at hc; omega))
      refine D ?_
      refine W ?_
      refine WQ_retcc rfl rfl rfl rfl hq6 rfl rfl hq7 rfl ?_
      exact .mk ⟨_, _, p, y, rfl, hfin, ⟨pv, rfl, hp.wk (fun c hc => by simp [hc])⟩, ⟨u, rfl, hsl.wk (fun c hc => by simp [hc])⟩, hS⟩
end Go.Proofs.YtfjmlobgjdmecaaDoor
namespace Go.Proofs.YtfjmlobgjdmecaaDoor
open Go Go.Eng Go.RowKit
set_option linter.unusedVariables false
theorem I64_tdiv3 {z : Int} (h : I64 z) : I64 (z.tdiv 3) := by
  unfold I64 at *
  by_cases h0 : 0 ≤ z
  · rw [Int.tdiv_eq_ediv_of_nonneg h0]; omega
  · have : z.tdiv 3 = -((-z) / 3) := by rw [← Int.tdiv_eq_ediv_of_nonneg (by omega : 0 ≤ -z), Int.neg_tdiv]; omega
    rw [this]; omega
theorem I64_tmod3 {z : Int} (h : I64 z) : I64 (z.tmod 3) := by
  unfold I64 at *
  by_cases h0 : 0 ≤ z
  · rw [Int.tmod_eq_emod_of_nonneg h0]; omega
  · have : z.tmod 3 = -((-z) % 3) := by rw [← Int.tmod_eq_emod_of_nonneg (by omega : 0 ≤ -z), Int.neg_tmod]; omega
    rw [this]; omega
theorem expressionL_any (X : List Nat) (lv bv : Value) (l lb : List Int) (kind at_ : Int) (w : World) (hk : I64 kind) (ha : I64 at_) (hs : SlV [] w lv l) (hl : ∀ a ∈ l, I64 a) (hsb : SlV [] w bv lb) (hlb : ∀ a ∈ lb, I64 a) (hX : ∀ b ∈ X, b < w.heap.size) :
    Calls Tryd.prog 35 #[lv, bv, .int .i64 kind, .int .i64 at_] w (Ret fun r w' => ∃ y, NdV X w' r y ∧ sizeN y ≤ 800 ∧ Stp [] w w') := by
  have hI3 := I64_tdiv3 ha
  have hI4 := I64_tmod3 hI3
  refine calls_of_WC4 (n := 36) Tryd.func35 rfl rfl rfl ?_
  refine W ?_
  refine WL_eff OE_alloc rfl ?_
  rintro _ w1 ⟨b8, rfl, hb8, hblk8, hS⟩
  have l8 := hblk8.lt
  have hX1 : ∀ b ∈ b8 :: X, b < w1.heap.size := fun b hb => by
    rcases List.mem_cons.1 hb with rfl | h
    · exact l8
    · exact Nat.lt_of_lt_of_le (hX b h) hS.size
  refine W ?_
  refine WL_eff (OE_call rfl (evs3 rfl rfl rfl) (Expr_any (b8 :: X) lv l kind 5 5 _ (by decide) (by decide) rfl hk (hs.up hS) hl hX1)) rfl ?_
  rintro _ w2 ⟨y, ⟨ky, rfl, hy⟩, hsz, -, hT⟩
  replace hblk8 := hblk8.up hT
  replace hS := hS.trans hT
  replace hX1 : ∀ b ∈ b8 :: X, b < w2.heap.size := fun b hb => Nat.lt_of_lt_of_le (hX1 b hb) hT.size
  clear hT
  refine WL_eff OE_alloc rfl ?_
  rintro _ w3 ⟨b9, rfl, hb9, e0, hT⟩
  refine WL_eff0 (OE_storeA (us := ndC y ky) rfl rfl rfl rfl (ndC_one hy) e0 rfl) ?_
  rintro _ w4 ⟨hT2, hblk9⟩
  replace hT := hT.own hT2 (fun b hb => .inr (by simp at hb; omega))
  clear hT2 e0
  replace hblk8 := hblk8.up hT
  replace hy : SlV (b9 :: b8 :: X) w4 ky y.kids := hy.ext hT (by simp) (fun b hb => by
    rcases List.mem_cons.1 hb with rfl | h
    · exact .inr hb9
    · exact .inl h)
  have l9 := hblk9.lt
  have n98 : b8 < b9 := by have := hX1 b8 (by simp); omega
  replace hX1 : ∀ b ∈ b9 :: b8 :: X, b < w4.heap.size := fun b hb => by
    rcases List.mem_cons.1 hb with rfl | h
    · exact l9
    · exact Nat.lt_of_lt_of_le (hX1 b h) hT.size
  replace hS := hS.trans hT
  clear hT
  refine W ?_
  refine WL_eff (OE_call rfl (evs2 rfl rfl) (Around01_any at_ 3 _ (by decide) ha)) rfl ?_
  rintro _ w5 ⟨rfl, hT⟩
  replace hblk8 := hblk8.up hT
  replace hblk9 := hblk9.up hT
  replace hy := hy.up hT
  replace hX1 : ∀ b ∈ b9 :: b8 :: X, b < w5.heap.size := fun b hb => Nat.lt_of_lt_of_le (hX1 b hb) hT.size
  replace hS := hS.trans hT
  clear hT
  generalize (if at_ < 0 then -(at_ + 1) else at_) % 3 = c at *
  repeat' (first | refine W1 ?_ | (exfalso; omega) | refine WL_split rfl rfl (fun hg => ?_) (fun hg => ?_) | refine WL_splitB rfl rfl (fun hg => ?_) (fun hg => ?_) | refine WC_cond rfl (fun hc => ?_) (fun hc => ?_) | refine WC_condB rfl (fun hc => ?_) (fun hc => ?_))
  · refine WL_eff0 (OE_storeA (us := ndC y ky) rfl rfl rfl rfl (ndC_one hy) hblk8 rfl) ?_
    rintro _ w6 ⟨hT, hblk8⟩
    refine W ?_
    refine WQ_retc rfl rfl rfl hblk8 rfl ?_
    refine .mk ⟨y, ⟨ky, rfl, ?_⟩, by omega, hS.own hT (fun c hc => .inr (by simp at hc; omega))⟩
    exact (hy.ext (X' := b9 :: b8 :: X) hT (fun c hc => by simp at hc; simp [hc]) (fun c hc => .inl hc)).wk (fun c hc => by simp [hc])
  · refine WL_pure (PR_quo rfl rfl (by decide) hI3) rfl ?_
    refine WL_pure (PR_rem rfl rfl (by decide) hI4) rfl ?_
    refine WL_eff (OE_call rfl (evs3 rfl rfl rfl) (Expr_any (b9 :: b8 :: X) bv lb _ 3 3 _ (by decide) (by decide) rfl hI4 (hsb.up hS) hlb hX1)) rfl ?_
    rintro _ w6 ⟨z, ⟨kz, rfl, hz⟩, hszz, -, hT⟩
    replace hblk8 := hblk8.up hT
    replace hblk9 := hblk9.up hT
    replace hy := hy.up hT
    replace hS := hS.trans hT
    replace hX1 : ∀ b ∈ b9 :: b8 :: X, b < w6.heap.size := fun b hb => Nat.lt_of_lt_of_le (hX1 b hb) hT.size
    clear hT
    refine WL_eff OE_alloc rfl ?_
    rintro _ w7 ⟨b10, rfl, hb10, e0, hT⟩
    refine WL_eff0 (OE_storeA (us := ndC z kz) rfl rfl rfl rfl (ndC_one hz) e0 rfl) ?_
    rintro _ w8 ⟨hT2, hblk10⟩
    replace hT := hT.own hT2 (fun b hb => .inr (by simp at hb; omega))
    clear hT2 e0
    replace hblk8 := hblk8.up hT
    replace hblk9 := hblk9.up hT
    have l10 := hblk10.lt
    replace hy : SlV (b10 :: b9 :: b8 :: X) w8 ky y.kids := hy.ext hT (by simp) (fun b hb => by
      rcases List.mem_cons.1 hb with rfl | h
      · exact .inr hb10
      · exact .inl h)
    replace hz : SlV (b10 :: b9 :: b8 :: X) w8 kz z.kids := hz.ext hT (by simp) (fun b hb => by
      rcases List.mem_cons.1 hb with rfl | h
      · exact .inr hb10
      · exact .inl h)
    replace hX1 : ∀ b ∈ b10 :: b9 :: b8 :: X, b < w8.heap.size := fun b hb => by
      rcases List.mem_cons.1 hb with rfl | h
      · exact l10
      · exact Nat.lt_of_lt_of_le (hX1 b h) hT.size
    replace hS := hS.trans hT
    clear hT
    refine W ?_
    have hK : Keeps (fun w' D => Stp [] w8 w' ∧ ∀ c ∈ D, c < w'.heap.size ∧ w8.heap.size ≤ c) := fun w w' D D' hJ hS hD => ⟨hJ.1.trans hS, fun c hc => by
      rcases hD c hc with h | h
      · have := hJ.2 c h; have := hS.size; omega
      · have := hJ.1.size; omega⟩
    refine WC_drawnP 14 [⟨10, 11, 24, (.agg #[.int .i64 0, .int .i64 0, .string ByteArray.empty, .slice none 0 0])⟩, ⟨11, 12, 24, (.agg #[.int .i64 0, .int .i64 0, .string ByteArray.empty, .slice none 0 0])⟩] [12, 13] [(0,1),(1,0),(2,1),(5,1),(3,2),(4,2),(6,2),(7,0),(8,0),(9,0)] [(12,2),(13,2)] (fun w' D => Stp [] w8 w' ∧ ∀ c ∈ D, c < w'.heap.size ∧ w8.heap.size ≤ c) rfl mixed (by kernel_rfl) (by kernel_rfl) (by kernel_rfl) (by intro f hf; simp at hf; rcases hf with rfl | rfl <;> rfl) (fun w' hS' => ⟨hS', by simp⟩) ?_
    refine WP_with (F := [⟨10, 11, 24, (.agg #[.int .i64 0, .int .i64 0, .string ByteArray.empty, .slice none 0 0])⟩, ⟨11, 12, 24, (.agg #[.int .i64 0, .int .i64 0, .string ByteArray.empty, .slice none 0 0])⟩]) ⟨by intro f hf; simp at hf; rcases hf with rfl | rfl <;> exact ⟨_, _, _, rfl⟩, by intro f hf; simp at hf; rcases hf with rfl | rfl <;> exact inferInstance, by intro f hf; simp at hf; rcases hf with rfl | rfl <;> rfl, by show [10, 11].Nodup; decide, by intro f hf g hg h; simp at hf hg; rcases hf with rfl | rfl <;> rcases hg with rfl | rfl <;> first | rfl | cases h⟩ (fun hF => ?_)
    refine WP_read hK rfl trivial (fun w D hJ => PR_load_blkA rfl rfl (hblk9.up hJ.1) rfl) rfl rfl ?_
    refine WP_free rfl trivial (fun w' => PR_move rfl) rfl rfl ?_
    refine WP_read hK rfl trivial (fun w D hJ => PR_load_blkA rfl rfl (hblk9.up hJ.1) rfl) rfl rfl ?_
    refine WP_read hK rfl trivial (fun w D hJ => PR_load_blkA rfl rfl (hblk10.up hJ.1) rfl) rfl rfl ?_
    refine WP_eff hF hK (J' := fun v w' D => v = .int .i64 (sizeN y : Int) ∧ (Stp [] w8 w' ∧ ∀ c ∈ D, c < w'.heap.size ∧ w8.heap.size ≤ c)) rfl trivial
      (fun w D hJ => (OE_call rfl (evs1 rfl) (Size_any y _ _ _ (by omega) ⟨ky, rfl, hy.up hJ.1⟩)).mono (fun v w' ⟨h1, h2⟩ => ⟨h2, h1, hJ.1.trans h2, fun c hc => ⟨Nat.lt_of_lt_of_le (hJ.2 c hc).1 h2.size, (hJ.2 c hc).2⟩⟩)) rfl rfl ?_
    intro v1
    refine WP_and ?_
    rintro rfl
    have hpos := size_pos y
    refine WP_eff hF hK (J' := fun v w' D => v = .int .i64 ((if at_ < 0 then -(at_ + 1) else at_) % (sizeN y : Int)) ∧ (Stp [] w8 w' ∧ ∀ c ∈ D, c < w'.heap.size ∧ w8.heap.size ≤ c)) rfl trivial
      (fun w D hJ => (OE_call rfl (evs2 rfl rfl) (Around01_any at_ (sizeN y : Int) _ (by omega) ha)).mono (fun v w' ⟨h1, h2⟩ => ⟨h2, h1, hJ.1.trans h2, fun c hc => ⟨Nat.lt_of_lt_of_le (hJ.2 c hc).1 h2.size, (hJ.2 c hc).2⟩⟩)) rfl rfl ?_
    intro v2
    refine WP_and ?_
    rintro rfl
    obtain ⟨a0, ha0, hat⟩ : ∃ a0 : Nat, a0 < sizeN y ∧ (if at_ < 0 then -(at_ + 1) else at_) % (sizeN y : Int) = (a0 : Int) := by
      have h1 := Int.emod_nonneg (if at_ < 0 then -(at_ + 1) else at_) (show (sizeN y : Int) ≠ 0 by omega)
      have h2 := Int.emod_lt_of_pos (if at_ < 0 then -(at_ + 1) else at_) (show (0 : Int) < sizeN y by omega)
      exact ⟨((if at_ < 0 then -(at_ + 1) else at_) % (sizeN y : Int)).toNat, by omega, by omega⟩
    rw [hat]
    refine WP_eff hF hK (J' := fun v w' D => ∃ va vb a b, v = .tuple #[va, vb] ∧ PartR z y a b ∧ (Stp [] w8 w' ∧ (∀ c ∈ D, c < w'.heap.size ∧ w8.heap.size ≤ c) ∧ NdV (D ++ (b10 :: b9 :: b8 :: X)) w' va a ∧ NdV (D ++ (b10 :: b9 :: b8 :: X)) w' vb b)) rfl trivial
      (fun w D hJ => (OE_call rfl (evs3 rfl rfl rfl) (Part_any y z (D ++ (b10 :: b9 :: b8 :: X)) _ _ w a0 ha0 (by omega) (fun c hc => by
        rcases List.mem_append.1 hc with h | h
        · exact (hJ.2 c h).1
        · exact Nat.lt_of_lt_of_le (hX1 c h) hJ.1.size) ⟨ky, rfl, hy.ext hJ.1 (by simp) (fun c hc => by
        rcases List.mem_append.1 hc with h | h
        · exact .inr (hJ.2 c h).2
        · exact .inl h)⟩ ⟨kz, rfl, hz.ext hJ.1 (by simp) (fun c hc => by
        rcases List.mem_append.1 hc with h | h
        · exact .inr (hJ.2 c h).2
        · exact .inl h)⟩)).mono (fun v w' ⟨va, vb, a, b, h1, h2, h3, h4, h5⟩ => ⟨h5, va, vb, a, b, h1, h2, hJ.1.trans h5, fun c hc => ⟨Nat.lt_of_lt_of_le (hJ.2 c hc).1 h5.size, (hJ.2 c hc).2⟩, h3, h4⟩)) rfl rfl ?_
    intro vt
    refine WP_ex fun va => WP_ex fun vb => WP_ex fun pa => WP_ex fun pb => WP_and ?_
    rintro rfl
    refine WP_and fun hpr => ?_
    have hK2 : Keeps (fun w' D => Stp [] w8 w' ∧ (∀ c ∈ D, c < w'.heap.size ∧ w8.heap.size ≤ c) ∧ NdV (D ++ (b10 :: b9 :: b8 :: X)) w' va pa ∧ NdV (D ++ (b10 :: b9 :: b8 :: X)) w' vb pb) := fun w w' D D' hJ hS hD => by
      have hsub : ∀ c ∈ D' ++ (b10 :: b9 :: b8 :: X), c ∈ D ++ (b10 :: b9 :: b8 :: X) ∨ w.heap.size ≤ c := fun c hc => by
        rcases List.mem_append.1 hc with h | h
        · exact (hD c h).imp (fun h => List.mem_append_left _ h) (fun h => h.1)
        · exact .inl (List.mem_append_right _ h)
      exact ⟨hJ.1.trans hS, fun c hc => by
        rcases hD c hc with h | h
        · have := hJ.2.1 c h; have := hS.size; omega
        · have := hJ.1.size; omega, hJ.2.2.1.ext hS (by simp) hsub, hJ.2.2.2.ext hS (by simp) hsub⟩
    refine WP_free rfl trivial (fun w' => PR_move rfl) rfl rfl ?_
    refine WP_free rfl trivial (fun w' => PR_extract rfl rfl) rfl rfl ?_
    refine WP_free rfl trivial (fun w' => PR_extract rfl rfl) rfl rfl ?_
    refine WP_join2 hF hK2 (by decide) ?_
    rintro w11 DD b12 b13 ⟨hT1, hD, ⟨ka, rfl, hka⟩, ⟨kb, rfl, hkb⟩⟩ d12 d13 n12 hblk12 hblk13
    have hD12 := hD b12 d12
    have hD13 := hD b13 d13
    refine WD_late0 rfl trivial (OE_storeA (us := ndC pa ka) rfl rfl rfl rfl (ndC_one hka) hblk12 rfl) rfl ?_
    rintro _ w12 ⟨hT2, hq12⟩
    have hq13 := hblk13.ext hT2 (by simp; exact fun h => n12 h.symm)
    replace hkb := hkb.ext (X' := DD ++ (b10 :: b9 :: b8 :: X)) hT2 (fun c hc => by simp at hc; subst hc; exact List.mem_append_left _ d12) (fun c hc => .inl hc)
    replace hT1 := hT1.own hT2 (fun c hc => by simp at hc; subst hc; exact .inr hD12.2)
    clear hT2 hblk12 hblk13 hka hq12
    refine WD_late0 rfl trivial (OE_storeA (us := ndC pb kb) rfl rfl rfl rfl (ndC_one hkb) hq13 rfl) rfl ?_
    rintro _ w13 ⟨hT2, hq13'⟩
    replace hkb := hkb.ext (X' := b10 :: b9 :: b8 :: X) hT2 (fun c hc => by simp at hc; subst hc; exact List.mem_append_left _ d13) (fun c hc => .inl (List.mem_append_right _ hc))
    replace hT1 := hT1.own hT2 (fun c hc => by simp at hc; subst hc; exact .inr hD13.2)
    replace hblk8 := hblk8.up hT1
    replace hS := hS.trans hT1
    clear hT1 hT2 hq13
    refine D ?_
    refine W ?_
    refine WL_eff0 (OE_storeA (us := ndC pb kb) rfl rfl rfl rfl (ndC_one hkb) hblk8 rfl) ?_
    rintro _ w14 ⟨hT, hblk8⟩
    refine W ?_
    refine WQ_retc rfl rfl rfl hblk8 rfl ?_
    have hps := hpr.size
    refine .mk ⟨pb, ⟨kb, rfl, ?_⟩, by omega, hS.own hT (fun c hc => .inr (by simp at hc; omega))⟩
    exact (hkb.ext (X' := b10 :: b9 :: b8 :: X) hT (fun c hc => by simp at hc; simp [hc]) (fun c hc => .inl hc)).wk (fun c hc => by simp [hc])
end Go.Proofs.YtfjmlobgjdmecaaDoor
namespace Go.Proofs.YtfjmlobgjdmecaaDoor
open Go Go.Eng Go.RowKit
set_option linter.unusedVariables false
theorem typeT_kid {x y : Nd} (h : typeT x ≠ 0) (hy : y ∈ x.kids) : typeT y ≠ 0 := by
  intro h0
  apply h
  rw [typeT_eq]
  unfold combT
  split
  · rfl
  · rw [if_pos (by rw [← h0]; exact List.mem_map_of_mem hy)]
theorem nest_kid_le {x y : Nd} (hy : y ∈ x.kids) : nestN y ≤ nestN x := by
  have := nest_kid hy
  omega
theorem of14Law (v lv bv : Value) (x : Nd) (l lb : List Int) (kind at_ m : Int) (w : World) (hF : SlV [] w flds fieldNames) (hm : w.cell? ⟨1, 0, none⟩ = some (.int .i64 m)) (hx : NdV [] w v x) (hs : SlV [] w lv l) (hl : ∀ a ∈ l, I64 a) (hsb : SlV [] w bv lb) (hlb : ∀ a ∈ lb, I64 a) (hk : I64 kind) (ha : I64 at_) :
    Calls Tryd.prog 9 #[v, lv, bv, .int .i64 kind, .int .i64 at_] w (Ret fun r w' => r = .bool true ∧ Stp [] w w') := by
  obtain ⟨kv, rfl, hkv⟩ := hx
  refine calls_of_WC5 (n := 54) Tryd.func9 rfl rfl rfl ?_
  refine W ?_
  refine WL_eff (OE_box rfl) rfl ?_
  rintro _ w1 ⟨b, rfl, hb, e3, hS⟩
  replace e3 : Blk w1 b _ (ndC x kv) := e3
  refine W ?_
  refine WL_eff (OE_call rfl (evs2 rfl rfl) (Pruned_any [] _ x _ 14 (by decide) (by decide) (by simp) ⟨kv, rfl, hkv.up hS⟩)) rfl ?_
  rintro _ w2 ⟨y, ⟨ky, rfl, hky⟩, hsz, hT⟩
  replace hS := hS.trans hT
  clear hT e3
  refine W ?_
  refine WL_eff (OE_call rfl (evs4 rfl rfl rfl rfl) (expressionL_any [] lv bv l lb kind at_ _ hk ha (hs.up hS) hl (hsb.up hS) hlb (by simp))) rfl ?_
  rintro _ w3 ⟨z, ⟨kz, rfl, hkz⟩, hszz, hT⟩
  replace hky := hky.up hT
  replace hS := hS.trans hT
  clear hT
  obtain ⟨py, cy, rfl, -⟩ := id hky
  obtain ⟨pz, cz, rfl, -⟩ := id hkz
  refine WL_eff (OE_buildSlice (vs := [(0, .agg #[.int .i64 y.kind, .int .i64 y.num, str y.word, .slice py y.kids.length cy]), (1, .agg #[.int .i64 z.kind, .int .i64 z.num, str z.word, .slice pz z.kids.length cz])]) rfl (buildSN2 _ _ _ _ _ _ _ _ _ _ _ _)) rfl ?_
  rintro av w4 hN
  have hav : SlV [] w4 av [y, z] := hN.slvG (css := [ndC y _, ndC z _]) (by simp) rfl rfl rfl (reps2 hky hkz) (by simp [maxLen])
  have hT := NewSl.stp hN
  replace hS := hS.trans hT
  clear hN hT hky hkz
  have hboth : ∀ i (h : i < [y, z].length), sizeN [y, z][i] ≤ 800 := fun i h => by
    match i, h with
    | 0, _ => show sizeN y ≤ 800; omega
    | 1, _ => exact hszz
  have hlen2 : [y, z].length = 2 := rfl
  generalize [y, z] = L at *
  refine W ?_
  refine WC_loop (σ := Nat) (fun q => [(11, av), (12, .int .i64 (q : Int))]) (fun q w' => q ≤ 2 ∧ SlV [] w' av L ∧ Stp [] w w') (fun q => 2 - q) 0 ⟨rfl, rfl, trivial⟩ ⟨by omega, hav, hS⟩ ?_
  clear hav hS
  rintro j w5 ⟨hj, hav, hS⟩
  by_cases hlt : j < 2
  · have hlt' : j < L.length := by omega
    obtain ⟨k2, hk2, hc2⟩ := hav.nd hlt'
    have hsj := hboth j hlt'
    repeat' (first | refine W1 ?_ | (exfalso; omega) | refine WL_split rfl rfl (fun hg => ?_) (fun hg => ?_) | refine WL_splitB rfl rfl (fun hg => ?_) (fun hg => ?_) | refine WC_cond rfl (fun hc => ?_) (fun hc => ?_) | refine WC_condB rfl (fun hc => ?_) (fun hc => ?_))
    apply WL_pure (PR_loadNd rfl rfl hav hlt' hc2) rfl
    refine WL_eff (OE_call rfl (evs1 rfl) (Of_any [] [] _ L[j] _ ⟨k2, rfl, hk2⟩ (hF.up hS))) rfl ?_
    rintro _ w6 ⟨rfl, hT⟩
    replace hav := hav.up hT
    replace hS := hS.trans hT
    clear hT hc2 hk2
    obtain ⟨k3, hk3, hc3⟩ := hav.nd hlt'
    refine W ?_
    apply WL_pure (PR_loadNd rfl rfl hav hlt' hc3) rfl
    have hnl := nest_le_size L[j]
    refine WL_eff (OE_call rfl (evs1 rfl) (Of14_any [] _ L[j] _ (okN_of_size _ (by omega)) (by omega) ⟨k3, rfl, hk3⟩)) rfl ?_
    rintro _ w6 ⟨rfl, hT⟩
    replace hav := hav.up hT
    replace hS := hS.trans hT
    clear hT hc3 hk3
    generalize (if nestN L[j] ≤ 12 then typeT L[j] else 0) = t1 at *
    generalize (if nestN L[j] ≤ 12 then (if typeT L[j] = 0 then (21 : Int) else 0) else 2) = t2 at *
    repeat' (first | refine W1 ?_ | (exfalso; omega) | refine WL_split rfl rfl (fun hg => ?_) (fun hg => ?_) | refine WL_splitB rfl rfl (fun hg => ?_) (fun hg => ?_) | refine WC_cond rfl (fun hc => ?_) (fun hc => ?_) | refine WC_condB rfl (fun hc => ?_) (fun hc => ?_))
    exact WQ_loop (j + 1) ⟨rfl, rfl, trivial⟩ ⟨by omega, hav, hS⟩ (by omega)
  · repeat' (first | refine W1 ?_ | (exfalso; omega) | refine WL_split rfl rfl (fun hg => ?_) (fun hg => ?_) | refine WL_splitB rfl rfl (fun hg => ?_) (fun hg => ?_) | refine WC_cond rfl (fun hc => ?_) (fun hc => ?_) | refine WC_condB rfl (fun hc => ?_) (fun hc => ?_))
    refine WL_eff (OE_call rfl evs0 (lives14_any m _ (hF.up hS) (hS.cell (by simp) hm))) rfl ?_
    rintro _ w7 ⟨rfl, hT⟩
    refine W ?_
    first | refine WQ_ret1 rfl rfl ?_ | refine WQ_ret2 rfl rfl rfl ?_ | refine WQ_ret3 rfl rfl rfl rfl ?_ | refine WQ_ret0 rfl ?_ | refine WQ_end0 rfl ?_
    exact .mk ⟨rfl, hS.trans hT⟩
theorem parts14Law (v lv bv : Value) (x : Nd) (l lb : List Int) (at_ m : Int) (w : World) (hF : SlV [] w flds fieldNames) (hm : w.cell? ⟨1, 0, none⟩ = some (.int .i64 m)) (hx : NdV [] w v x) (hs : SlV [] w lv l) (hl : ∀ a ∈ l, I64 a) (hsb : SlV [] w bv lb) (hlb : ∀ a ∈ lb, I64 a) (ha : I64 at_) :
    Calls Tryd.prog 14 #[v, lv, bv, .int .i64 at_] w (Ret fun r w' => r = .bool true ∧ Stp [] w w') := by
  obtain ⟨kv, rfl, hkv⟩ := hx
  refine calls_of_WC4 (n := 73) Tryd.func14 rfl rfl rfl ?_
  refine W ?_
  refine WL_eff (OE_box rfl) rfl ?_
  rintro _ w1 ⟨b, rfl, hb, e3, hS⟩
  replace e3 : Blk w1 b _ (ndC x kv) := e3
  refine W ?_
  refine WL_eff (OE_call rfl (evs2 rfl rfl) (Pruned_any [] _ x _ 14 (by decide) (by decide) (by simp) ⟨kv, rfl, hkv.up hS⟩)) rfl ?_
  rintro _ w2 ⟨y, ⟨ky, rfl, hky⟩, hsz, hT⟩
  replace hS := hS.trans hT
  clear hT e3
  refine W ?_
  refine WL_eff (OE_call rfl (evs4 rfl rfl rfl rfl) (expressionL_any [] lv bv l lb at_ at_ _ ha ha (hs.up hS) hl (hsb.up hS) hlb (by simp))) rfl ?_
  rintro _ w3 ⟨z, ⟨kz, rfl, hkz⟩, hszz, hT⟩
  replace hky := hky.up hT
  replace hS := hS.trans hT
  clear hT
  obtain ⟨py, cy, rfl, -⟩ := id hky
  obtain ⟨pz, cz, rfl, -⟩ := id hkz
  refine WL_eff (OE_buildSlice (vs := [(0, .agg #[.int .i64 y.kind, .int .i64 y.num, str y.word, .slice py y.kids.length cy]), (1, .agg #[.int .i64 z.kind, .int .i64 z.num, str z.word, .slice pz z.kids.length cz])]) rfl (buildSN2 _ _ _ _ _ _ _ _ _ _ _ _)) rfl ?_
  rintro av w4 hN
  have hav : SlV [] w4 av [y, z] := hN.slvG (css := [ndC y _, ndC z _]) (by simp) rfl rfl rfl (reps2 hky hkz) (by simp [maxLen])
  have hT := NewSl.stp hN
  replace hS := hS.trans hT
  clear hN hT hky hkz
  have hboth : ∀ i (h : i < [y, z].length), sizeN [y, z][i] ≤ 800 := fun i h => by
    match i, h with
    | 0, _ => show sizeN y ≤ 800; omega
    | 1, _ => exact hszz
  have hlen2 : [y, z].length = 2 := rfl
  generalize [y, z] = L at *
  refine W ?_
  refine WC_loop (σ := Nat) (fun q => [(9, av), (10, .int .i64 (q : Int))]) (fun q w' => q ≤ 2 ∧ SlV [] w' av L ∧ Stp [] w w') (fun q => 2 - q) 0 ⟨rfl, rfl, trivial⟩ ⟨by omega, hav, hS⟩ ?_
  clear hav hS
  rintro j w5 ⟨hj, hav, hS⟩
  by_cases hlt : j < 2
  · have hlt' : j < L.length := by omega
    obtain ⟨k2, hk2, hc2⟩ := hav.nd hlt'
    have hsj := hboth j hlt'
    repeat' (first | refine W1 ?_ | (exfalso; omega) | refine WL_split rfl rfl (fun hg => ?_) (fun hg => ?_) | refine WL_splitB rfl rfl (fun hg => ?_) (fun hg => ?_) | refine WC_cond rfl (fun hc => ?_) (fun hc => ?_) | refine WC_condB rfl (fun hc => ?_) (fun hc => ?_))
    apply WL_pure (PR_loadNd rfl rfl hav hlt' hc2) rfl
    refine WL_eff (OE_call rfl (evs1 rfl) (Of_any [] [] _ L[j] _ ⟨k2, rfl, hk2⟩ (hF.up hS))) rfl ?_
    rintro _ w6 ⟨rfl, hT⟩
    replace hc2 := fun (i : Nat) (u : Value) h => cell_on hav hlt' hT (hc2 i u h)
    replace hav := hav.up hT
    replace hk2 := hk2.up hT
    replace hS := hS.trans hT
    clear hT
    refine W ?_
    have hav0 := hav
    have hk20 := hk2
    have hc20 := hc2
    refine WC_loop (σ := Nat) (fun q => [(9, av), (10, .int .i64 (j : Int)), (12, .int .i64 (if nestN L[j] ≤ 12 then (if typeT L[j] = 0 then 21 else 0) else 2)), (13, .int .i64 (q : Int))]) (fun q w' => q ≤ L[j].kids.length ∧ Stp [] w6 w') (fun q => L[j].kids.length - q) 0 ⟨rfl, rfl, rfl, rfl, trivial⟩ ⟨by omega, Stp.refl _ _⟩ ?_
    clear hav hk2 hc2
    rintro i w7 ⟨hi, hTi⟩
    have hav := hav0.up hTi
    have hk2 := hk20.up hTi
    have hc2 := fun (i : Nat) (u : Value) h => cell_on hav0 hlt' hTi (hc20 i u h)
    have hcell : w7.cell? (elAddr av j 4 3) = some k2 := hc2 3 k2 rfl
    have hkm := hk2.max
    have hmem : ∀ h : i < L[j].kids.length, L[j].kids[i] ∈ L[j].kids := fun h => List.getElem_mem h
    by_cases hil : i < L[j].kids.length
    · have hki := hmem hil
      have hkr := typeT_range L[j].kids[i]
      have hkn := nest_kid_le hki
      have hkt : typeT L[j] ≠ 0 → typeT L[j].kids[i] ≠ 0 := fun h => typeT_kid h hki
      obtain ⟨k3, hk3, hc3⟩ := hk2.nd hil
      repeat' (first | refine W1 ?_ | (exfalso; omega) | refine WL_split rfl rfl (fun hg => ?_) (fun hg => ?_) | refine WL_splitB rfl rfl (fun hg => ?_) (fun hg => ?_) | refine WC_cond rfl (fun hc => ?_) (fun hc => ?_) | refine WC_condB rfl (fun hc => ?_) (fun hc => ?_))
      refine WL_pure (PR_load1 rfl rfl hcell) rfl ?_
      repeat' (first | refine W1 ?_ | (exfalso; omega) | refine WL_split rfl rfl (fun hg => ?_) (fun hg => ?_) | refine WL_splitB rfl rfl (fun hg => ?_) (fun hg => ?_) | refine WC_cond rfl (fun hc => ?_) (fun hc => ?_) | refine WC_condB rfl (fun hc => ?_) (fun hc => ?_))
      refine WL_pure (PR_load1 rfl rfl hcell) rfl ?_
      refine W ?_
      apply WL_pure (PR_loadNd rfl rfl hk2 hil hc3) rfl
      refine WL_eff (OE_call rfl (evs1 rfl) (Of_any [] [] _ L[j].kids[i] _ ⟨k3, rfl, hk3⟩ (hF.up (hS.trans hTi)))) rfl ?_
      rintro _ w8 ⟨rfl, hT⟩
      by_cases hn12 : nestN L[j] ≤ 12
      · simp only [if_pos hn12, if_pos (Nat.le_trans hkn hn12)]
        by_cases ht0 : typeT L[j] = 0
        · simp only [if_pos ht0]
          repeat' (first | refine W1 ?_ | (exfalso; omega) | refine WL_split rfl rfl (fun hg => ?_) (fun hg => ?_) | refine WL_splitB rfl rfl (fun hg => ?_) (fun hg => ?_) | refine WC_cond rfl (fun hc => ?_) (fun hc => ?_) | refine WC_condB rfl (fun hc => ?_) (fun hc => ?_))
          exact WQ_loop (i + 1) ⟨rfl, rfl, rfl, rfl, trivial⟩ ⟨hil, hTi.trans hT⟩ (by omega)
        · have hk0 := hkt ht0
          simp only [if_neg ht0, if_neg hk0]
          repeat' (first | refine W1 ?_ | (exfalso; omega) | refine WL_split rfl rfl (fun hg => ?_) (fun hg => ?_) | refine WL_splitB rfl rfl (fun hg => ?_) (fun hg => ?_) | refine WC_cond rfl (fun hc => ?_) (fun hc => ?_) | refine WC_condB rfl (fun hc => ?_) (fun hc => ?_))
          all_goals try (exact absurd rfl (by assumption))
          all_goals exact WQ_loop (i + 1) ⟨rfl, rfl, rfl, rfl, trivial⟩ ⟨hil, hTi.trans hT⟩ (by omega)
      · simp only [if_neg hn12]
        repeat' (first | refine W1 ?_ | (exfalso; omega) | refine WL_split rfl rfl (fun hg => ?_) (fun hg => ?_) | refine WL_splitB rfl rfl (fun hg => ?_) (fun hg => ?_) | refine WC_cond rfl (fun hc => ?_) (fun hc => ?_) | refine WC_condB rfl (fun hc => ?_) (fun hc => ?_))
        exact WQ_loop (i + 1) ⟨rfl, rfl, rfl, rfl, trivial⟩ ⟨hil, hTi.trans hT⟩ (by omega)
    · repeat' (first | refine W1 ?_ | (exfalso; omega) | refine WL_split rfl rfl (fun hg => ?_) (fun hg => ?_) | refine WL_splitB rfl rfl (fun hg => ?_) (fun hg => ?_) | refine WC_cond rfl (fun hc => ?_) (fun hc => ?_) | refine WC_condB rfl (fun hc => ?_) (fun hc => ?_))
      refine WL_pure (PR_load1 rfl rfl hcell) rfl ?_
      repeat' (first | refine W1 ?_ | (exfalso; omega) | refine WL_split rfl rfl (fun hg => ?_) (fun hg => ?_) | refine WL_splitB rfl rfl (fun hg => ?_) (fun hg => ?_) | refine WC_cond rfl (fun hc => ?_) (fun hc => ?_) | refine WC_condB rfl (fun hc => ?_) (fun hc => ?_))
      exact WQ_loop (j + 1) ⟨rfl, rfl, trivial⟩ ⟨by omega, hav, hS.trans hTi⟩ (by omega)
  · repeat' (first | refine W1 ?_ | (exfalso; omega) | refine WL_split rfl rfl (fun hg => ?_) (fun hg => ?_) | refine WL_splitB rfl rfl (fun hg => ?_) (fun hg => ?_) | refine WC_cond rfl (fun hc => ?_) (fun hc => ?_) | refine WC_condB rfl (fun hc => ?_) (fun hc => ?_))
    refine WL_eff (OE_call rfl evs0 (lives14_any m _ (hF.up hS) (hS.cell (by simp) hm))) rfl ?_
    rintro _ w7 ⟨rfl, hT⟩
    refine W ?_
    first | refine WQ_ret1 rfl rfl ?_ | refine WQ_ret2 rfl rfl rfl ?_ | refine WQ_ret3 rfl rfl rfl rfl ?_ | refine WQ_ret0 rfl ?_ | refine WQ_end0 rfl ?_
    exact .mk ⟨rfl, hS.trans hT⟩
end Go.Proofs.YtfjmlobgjdmecaaDoor
