/-
Merged by program out of own texts: Rg1, Rul1, Rul2, Srt1, Use1, Liv3, Liv4, Lvs1, Ckc1, Flt1, Eng18, Wir0, Wir1, Wir2, Wir3, Enc1, Eng19, Siz1, Part1, Tyo1, Dec0, Dec1, Cty0, Cty1, Cty2, Eng4B, Enc2, Eng20, Rdr1, Rdr2.
-/
import Derived.Test.YtgpibcgebpgmiaaDoorM3
import Derived.Laws.BitsAllLaws
import Derived.Laws.Bits64
import Derived.Lib.SlBytesRow
import Derived.Lib.AppendStr
import Derived.Laws.BytesArg
import Derived.Laws.Cover3
import Derived.Scope

namespace Go.Proofs.YtgpibcgebpgmiaaDoor
open Go Go.Eng Go.RowKit
set_option linter.unusedVariables false

def names4 : List Str := [[97], [98], [99, 49, 48], [97, 110, 115, 119, 101, 114]]
def kinds7 : List Str := [[109, 111, 116, 105, 111, 110], [97, 110, 115, 119, 101, 114], [111, 114, 100, 101, 114], [110, 111, 116, 105, 99, 101], [97, 112, 112, 101, 97, 108], [100, 101, 102, 97, 117, 108, 116, 50], [114, 101, 112, 108, 121]]
theorem Kinds_any (X : List Nat) (w : World) (hX : ∀ b ∈ X, b < w.heap.size) : Calls Tryd.prog 64 #[] w (Ret fun r w' => Row X w' w.heap.size 9 r kinds7 ∧ Stp [] w w') := by
  refine calls_of_WC0 (n := 2) Tryd.func64 rfl rfl ?_
  refine W ?_
  refine WL_eff (OE_call rfl (evs1 rfl) (words_any X [109, 111, 116, 105, 111, 110, 32, 97, 110, 115, 119, 101, 114, 32, 111, 114, 100, 101, 114, 32, 110, 111, 116, 105, 99, 101, 32, 97, 112, 112, 101, 97, 108, 32, 100, 101, 102, 97, 117, 108, 116, 50, 32, 114, 101, 112, 108, 121] _ hX (by decide))) rfl ?_
  rintro v w1 ⟨hr, hS⟩
  rw [show wordsOf [109, 111, 116, 105, 111, 110, 32, 97, 110, 115, 119, 101, 114, 32, 111, 114, 100, 101, 114, 32, 110, 111, 116, 105, 99, 101, 32, 97, 112, 112, 101, 97, 108, 32, 100, 101, 102, 97, 117, 108, 116, 50, 32, 114, 101, 112, 108, 121] = kinds7 by decide +kernel] at hr
  refine W ?_
  first | refine WQ_ret1 rfl rfl ?_ | refine WQ_ret2 rfl rfl rfl ?_ | refine WQ_ret3 rfl rfl rfl rfl ?_ | refine WQ_ret0 rfl ?_ | refine WQ_end0 rfl ?_
  exact .mk ⟨hr, hS⟩
abbrev nil4 : Nd := .mk 0 0 [] []
abbrev nilS : Value := .slice none 0 0
theorem buildRl (a o : Str) (f : Int) (w : World) : (Instr.build 51 #[(0, str a), (1, .int .i64 f), (2, str o)]).run Tryd.prog w = .ok (.agg (rlC ⟨a, f, o, nil4, nil4, [], []⟩ nilS nilS).toArray) w := by kernel_rfl
theorem rlC_one (r : Rul) {X Y : List Nat} {w w' : World} {ki kd : Value} (h1 : SlV X w ki r.cnd.kids) (h2 : SlV Y w' kd r.due.kids) : ∀ c ∈ rlC r ki kd, c.oneCell' = true := by
  intro c hc
  have e1 := h1.one
  have e2 := h2.one
  simp only [rlC, List.mem_cons, List.not_mem_nil, or_false] at hc
  rcases hc with rfl | rfl | rfl | rfl | rfl | rfl | rfl | rfl | rfl | rfl | rfl | rfl | rfl <;> first | rfl | exact e1 | exact e2
theorem names_ok : ∀ s ∈ names4, namedT s = true := by decide +kernel
theorem kinds_ok : ∀ s ∈ kinds7, namedT s = true := by decide +kernel
theorem check_ok {a o u v : Str} {f : Int} {y x : Nd} (ha : a ∈ names4) (ho : o ∈ kinds7) (hu : u = [] ∨ u ∈ kinds7) (hv : v = [] ∨ v ∈ kinds7) (hf : 0 ≤ f ∧ f < 30) (hy : typeT y = 2) (hy' : nestN y ≤ 3) (hx : typeT x = 3) (hx' : nestN x ≤ 4) :
    checkT ⟨a, 739600 + f, o, y, x, u, v⟩ = 0 := by
  have hn : namesT ⟨a, 739600 + f, o, y, x, u, v⟩ = true := by
    simp only [namesT, names_ok a ha, kinds_ok o ho, Bool.true_and, Bool.and_eq_true, Bool.or_eq_true, decide_eq_true_eq]
    exact ⟨hu.imp id (kinds_ok u), hv.imp id (kinds_ok v)⟩
  have m1 : mustF y 2 = 0 := by unfold mustF; rw [if_pos (by omega), hy]; decide
  have m2 : mustF x 3 = 0 := by unfold mustF; rw [if_pos (by omega), hx]; decide
  unfold checkT
  rw [hn, if_neg (by decide), if_neg (by simp only; omega)]
  simp [m1, m2]
theorem Rule14_any (X : List Nat) (lv : Value) (l : List Int) (w : World) (hs : SlV [] w lv l) (hl : ∀ a ∈ l, I64 a) (hX : ∀ b ∈ X, b < w.heap.size) :
    Calls Tryd.prog 23 #[lv] w (Ret fun r w' => ∃ rl : Rul, RulV X w' r rl ∧ sizeN rl.cnd ≤ 400 ∧ sizeN rl.due ≤ 400 ∧ checkT rl = 0 ∧ Stp [] w w') := by
  obtain ⟨p, c, rfl, -⟩ := id hs
  refine calls_of_WC1 (n := 49) Tryd.func23 rfl rfl rfl ?_
  refine W ?_
  refine WL_eff OE_alloc rfl ?_
  rintro _ w1 ⟨b2, rfl, hb2, e2, hS⟩
  refine W ?_
  apply WL_build (vs := [(0, .slice p l.length c)]) rfl (buildMk _ _ _) rfl
  refine WL_eff (OE_box rfl) rfl ?_
  rintro _ w2 ⟨bm, rfl, hbm, hmk, hT⟩
  replace hmk : Mk w2 bm (.slice p l.length c) 0 := hmk
  have n2 : b2 ≠ bm := by have := e2.lt; omega
  have hbmw : w.heap.size ≤ bm := Nat.le_trans hS.size hbm
  replace e2 := e2.up hT
  have hsl := (hs.up hS).ext (X' := [bm]) hT (by simp) (fun b h => .inr (by simp at h; omega))
  replace hS := hS.trans hT
  clear hT hbm
  refine W ?_
  refine WL_eff (OE_call rfl evs0 (Kinds_any [bm] _ (fun b h => by simp at h; rw [h]; exact hmk.lt))) rfl ?_
  rintro kv wP ⟨hrk, hT⟩
  have hkv := hrk.slv (X := [bm]) (fun b h => by simp at h; rw [h]; exact hmk.lt)
  replace hmk := hmk.up hT
  replace e2 := e2.up hT
  replace hsl := hsl.up hT
  replace hS := hS.trans hT
  clear hT hrk
  refine W ?_
  refine WC_cutQ (σ := Nat × Str × Int × Str) (fun q => [(2, .pointer (some ⟨b2, 0, none⟩)), (3, .pointer (some ⟨bm, 0, none⟩)), (4, kv), (5, .pointer (some ⟨q.1, 0, none⟩))])
    (fun q w' => Mk w' bm (.slice p l.length c) 3 ∧ SlV [q.1, bm] w' (.slice p l.length c) l ∧ SlV [q.1, bm] w' kv kinds7 ∧ (∃ cs : List Value, cs.length = 13 ∧ Blk w' b2 51 cs) ∧ Blk w' q.1 51 (rlC ⟨q.2.1, 739600 + q.2.2.1, q.2.2.2, nil4, nil4, [], []⟩ nilS nilS) ∧ q.2.1 ∈ names4 ∧ (0 ≤ q.2.2.1 ∧ q.2.2.1 < 30) ∧ q.2.2.2 ∈ kinds7 ∧ q.1 ≠ bm ∧ q.1 ≠ b2 ∧ wP.heap.size ≤ q.1 ∧ Stp [bm] wP w') ?_ ?_
  · refine WC_drawn 16 ([bm]) [15] [(1, 0), (5, 0), (8, 0), (9, 0), (0, 17), (2, 17), (3, 0), (4, 1), (6, 17), (7, 0), (10, 17), (11, 0), (12, 1), (13, 0), (14, 2), (15, 2)] rfl mixed (by kernel_rfl) (by kernel_rfl) (by kernel_rfl) (fun w1 hS1 => ?_)
    have hP : Stp [bm] wP w1 := hS1.mono (by simp)
    replace hmk := hmk.up hS1
    replace hsl := hsl.up hS1
    replace hkv := hkv.up hS1
    replace e2 := e2.up hS1
    clear hS1
    refine D ?_
    apply WD_two
    · rfl
    · refine WD1_eff rfl trivial (OE_call rfl (evs1 rfl) (words_any [bm] [97, 32, 98, 32, 99, 49, 48, 32, 97, 110, 115, 119, 101, 114] _ (fun b h => by simp at h; rw [h]; exact hmk.lt) (by decide))) (fun _ _ h => h.2.mono (by simp)) rfl ?_
      rintro wv wq ⟨hrw, hT⟩
      rw [show wordsOf [97, 32, 98, 32, 99, 49, 48, 32, 97, 110, 115, 119, 101, 114] = names4 by decide +kernel] at hrw
      have hw := hrw.slv (X := [bm]) (fun b h => by simp at h; rw [h]; exact hmk.lt)
      replace hmk := hmk.up hT
      replace hsl := hsl.ext hT (by simp) (fun _ h => .inl h)
      replace hkv := hkv.ext hT (by simp) (fun _ h => .inl h)
      replace hP := hP.trans (hT.mono (by simp))
      replace e2 := e2.ext hT (by simp; try exact n2)
      clear hT hrw
      refine D ?_
      apply WD_two
      · rfl
      · refine WD1_eff rfl trivial (OE_call rfl (evs2 rfl rfl) (Next_any bm (.slice p l.length c) l 0 4 _ (by decide) (by decide) hmk (hsl.wk (fun b h => by simp at h; simp [h])) hl)) (fun _ _ h => h.choose_spec.2.2.2.mono (by simp)) rfl ?_
        rintro _ wq ⟨q1, rfl, hq1, hmk, hT⟩
        replace hsl := hsl.ext hT (by simp) (fun _ h => .inl h)
        replace hkv := hkv.ext hT (by simp) (fun _ h => .inl h)
        replace hP := hP.trans (hT.mono (by simp))
        replace e2 := e2.ext hT (by simp; try exact n2)
        replace hw := hw.ext hT (by simp) (fun _ h => .inl h)
        clear hT
        have hq1n : q1 < names4.length := by show q1 < 4; omega
        refine D ?_
        apply WD_two
        · rfl
        · refine WD1_eff rfl trivial (OE_call rfl (evs2 rfl rfl) (Next_any bm (.slice p l.length c) l 1 30 _ (by decide) (by decide) hmk (hsl.wk (fun b h => by simp at h; simp [h])) hl)) (fun _ _ h => h.choose_spec.2.2.2.mono (by simp)) rfl ?_
          rintro _ wq ⟨q2, rfl, hq2, hmk, hT⟩
          replace hsl := hsl.ext hT (by simp) (fun _ h => .inl h)
          replace hkv := hkv.ext hT (by simp) (fun _ h => .inl h)
          replace hP := hP.trans (hT.mono (by simp))
          replace e2 := e2.ext hT (by simp; try exact n2)
          replace hw := hw.ext hT (by simp) (fun _ h => .inl h)
          clear hT
          refine D ?_
          apply WD_two
          · rfl
          · refine WD1_eff rfl trivial (OE_call rfl (evs2 rfl rfl) (Next_any bm (.slice p l.length c) l 2 7 _ (by decide) (by decide) hmk (hsl.wk (fun b h => by simp at h; simp [h])) hl)) (fun _ _ h => h.choose_spec.2.2.2.mono (by simp)) rfl ?_
            rintro _ wq ⟨q3, rfl, hq3, hmk, hT⟩
            replace hsl := hsl.ext hT (by simp) (fun _ h => .inl h)
            replace hkv := hkv.ext hT (by simp) (fun _ h => .inl h)
            replace hP := hP.trans (hT.mono (by simp))
            replace e2 := e2.ext hT (by simp; try exact n2)
            replace hw := hw.ext hT (by simp) (fun _ h => .inl h)
            clear hT
            have hq3n : q3 < kinds7.length := by show q3 < 7; omega
            refine D ?_
            try (refine WF_build rfl trivial (vs := [(0, str names4[q1]), (1, .int .i64 (739600 + (q2 : Int))), (2, str kinds7[q3])]) rfl (buildRl _ _ _) rfl ?_)
            refine D ?_
            refine WD_eff rfl trivial OE_alloc (fun _ _ h => h.choose_spec.2.2.2.mono (by simp)) rfl ?_
            rintro _ wq ⟨b5, rfl, hb5, e5, hT⟩
            have n5 : b5 ≠ bm := by have := hmk.lt; omega
            have n52 : b5 ≠ b2 := by have := e2.lt; omega
            have hb5w : wP.heap.size ≤ b5 := Nat.le_trans hP.size hb5
            replace hmk := hmk.up hT
            replace hsl := hsl.ext (X' := [b5, bm]) hT (by simp) (fun b h => by simp at h; rcases h with rfl | rfl; exact .inr hb5; exact .inl (by simp))
            replace hkv := hkv.ext (X' := [b5, bm]) hT (by simp) (fun b h => by simp at h; rcases h with rfl | rfl; exact .inr hb5; exact .inl (by simp))
            replace hP := hP.trans (hT.mono (by simp))
            replace e2 := e2.ext hT (by simp; try exact n2)
            replace hw := hw.ext hT (by simp) (fun _ h => .inl h)
            clear hT hb5
            refine D ?_
            refine WD_late0 rfl trivial (OE_storeA (us := rlC ⟨names4[q1], 739600 + (q2 : Int), kinds7[q3], nil4, nil4, [], []⟩ nilS nilS) rfl rfl rfl rfl (rlC_one _ (nilSlv [] wq) (nilSlv [] wq)) e5 rfl) rfl ?_
            rintro _ wz ⟨hZ, e5z⟩
            refine D ?_
            refine WQ_cut (b5, names4[q1], (q2 : Int), kinds7[q3]) ⟨rfl, rfl, rfl, rfl, trivial⟩ ⟨hmk.ext hZ (by simp; exact n5.symm), hsl.ext hZ (by simp) (fun _ h => .inl h), hkv.ext hZ (by simp) (fun _ h => .inl h), ⟨_, rfl, e2.ext hZ (by simp; exact n52.symm)⟩, e5z, List.getElem_mem _, by simp only; omega, List.getElem_mem _, n5, n52, hb5w, hP.own hZ (fun b hb => .inr (by simp at hb; omega))⟩
          · refine WD1_eff rfl trivial OE_alloc (fun _ _ h => h.choose_spec.2.2.2.mono (by simp)) rfl ?_
            rintro _ wq ⟨b5, rfl, hb5, e5, hT⟩
            have n5 : b5 ≠ bm := by have := hmk.lt; omega
            have n52 : b5 ≠ b2 := by have := e2.lt; omega
            have hb5w : wP.heap.size ≤ b5 := Nat.le_trans hP.size hb5
            replace hmk := hmk.up hT
            replace hsl := hsl.ext (X' := [b5, bm]) hT (by simp) (fun b h => by simp at h; rcases h with rfl | rfl; exact .inr hb5; exact .inl (by simp))
            replace hkv := hkv.ext (X' := [b5, bm]) hT (by simp) (fun b h => by simp at h; rcases h with rfl | rfl; exact .inr hb5; exact .inl (by simp))
            replace hP := hP.trans (hT.mono (by simp))
            replace e2 := e2.ext hT (by simp; try exact n2)
            replace hw := hw.ext hT (by simp) (fun _ h => .inl h)
            clear hT hb5
            refine D ?_
            refine WD_eff rfl trivial (OE_call rfl (evs2 rfl rfl) (Next_any bm (.slice p l.length c) l 2 7 _ (by decide) (by decide) hmk (hsl.wk (fun b h => by simp at h; simp [h])) hl)) (fun _ _ h => h.choose_spec.2.2.2.mono (by simp)) rfl ?_
            rintro _ wq ⟨q3, rfl, hq3, hmk, hT⟩
            replace hsl := hsl.ext hT (by simp) (fun _ h => .inl h)
            replace hkv := hkv.ext hT (by simp) (fun _ h => .inl h)
            replace hP := hP.trans (hT.mono (by simp))
            replace e2 := e2.ext hT (by simp; try exact n2)
            replace hw := hw.ext hT (by simp) (fun _ h => .inl h)
            replace e5 := e5.ext hT (by simp; try exact n5)
            clear hT
            have hq3n : q3 < kinds7.length := by show q3 < 7; omega
            refine D ?_
            try (refine WF_build rfl trivial (vs := [(0, str names4[q1]), (1, .int .i64 (739600 + (q2 : Int))), (2, str kinds7[q3])]) rfl (buildRl _ _ _) rfl ?_)
            refine D ?_
            refine WD_late0 rfl trivial (OE_storeA (us := rlC ⟨names4[q1], 739600 + (q2 : Int), kinds7[q3], nil4, nil4, [], []⟩ nilS nilS) rfl rfl rfl rfl (rlC_one _ (nilSlv [] wq) (nilSlv [] wq)) e5 rfl) rfl ?_
            rintro _ wz ⟨hZ, e5z⟩
            refine D ?_
            refine WQ_cut (b5, names4[q1], (q2 : Int), kinds7[q3]) ⟨rfl, rfl, rfl, rfl, trivial⟩ ⟨hmk.ext hZ (by simp; exact n5.symm), hsl.ext hZ (by simp) (fun _ h => .inl h), hkv.ext hZ (by simp) (fun _ h => .inl h), ⟨_, rfl, e2.ext hZ (by simp; exact n52.symm)⟩, e5z, List.getElem_mem _, by simp only; omega, List.getElem_mem _, n5, n52, hb5w, hP.own hZ (fun b hb => .inr (by simp at hb; omega))⟩
        · refine WD1_eff rfl trivial OE_alloc (fun _ _ h => h.choose_spec.2.2.2.mono (by simp)) rfl ?_
          rintro _ wq ⟨b5, rfl, hb5, e5, hT⟩
          have n5 : b5 ≠ bm := by have := hmk.lt; omega
          have n52 : b5 ≠ b2 := by have := e2.lt; omega
          have hb5w : wP.heap.size ≤ b5 := Nat.le_trans hP.size hb5
          replace hmk := hmk.up hT
          replace hsl := hsl.ext (X' := [b5, bm]) hT (by simp) (fun b h => by simp at h; rcases h with rfl | rfl; exact .inr hb5; exact .inl (by simp))
          replace hkv := hkv.ext (X' := [b5, bm]) hT (by simp) (fun b h => by simp at h; rcases h with rfl | rfl; exact .inr hb5; exact .inl (by simp))
          replace hP := hP.trans (hT.mono (by simp))
          replace e2 := e2.ext hT (by simp; try exact n2)
          replace hw := hw.ext hT (by simp) (fun _ h => .inl h)
          clear hT hb5
          refine D ?_
          refine WD_eff rfl trivial (OE_call rfl (evs2 rfl rfl) (Next_any bm (.slice p l.length c) l 1 30 _ (by decide) (by decide) hmk (hsl.wk (fun b h => by simp at h; simp [h])) hl)) (fun _ _ h => h.choose_spec.2.2.2.mono (by simp)) rfl ?_
          rintro _ wq ⟨q2, rfl, hq2, hmk, hT⟩
          replace hsl := hsl.ext hT (by simp) (fun _ h => .inl h)
          replace hkv := hkv.ext hT (by simp) (fun _ h => .inl h)
          replace hP := hP.trans (hT.mono (by simp))
          replace e2 := e2.ext hT (by simp; try exact n2)
          replace hw := hw.ext hT (by simp) (fun _ h => .inl h)
          replace e5 := e5.ext hT (by simp; try exact n5)
          clear hT
          refine D ?_
          refine WD_eff rfl trivial (OE_call rfl (evs2 rfl rfl) (Next_any bm (.slice p l.length c) l 2 7 _ (by decide) (by decide) hmk (hsl.wk (fun b h => by simp at h; simp [h])) hl)) (fun _ _ h => h.choose_spec.2.2.2.mono (by simp)) rfl ?_
          rintro _ wq ⟨q3, rfl, hq3, hmk, hT⟩
          replace hsl := hsl.ext hT (by simp) (fun _ h => .inl h)
          replace hkv := hkv.ext hT (by simp) (fun _ h => .inl h)
          replace hP := hP.trans (hT.mono (by simp))
          replace e2 := e2.ext hT (by simp; try exact n2)
          replace hw := hw.ext hT (by simp) (fun _ h => .inl h)
          replace e5 := e5.ext hT (by simp; try exact n5)
          clear hT
          have hq3n : q3 < kinds7.length := by show q3 < 7; omega
          refine D ?_
          try (refine WF_build rfl trivial (vs := [(0, str names4[q1]), (1, .int .i64 (739600 + (q2 : Int))), (2, str kinds7[q3])]) rfl (buildRl _ _ _) rfl ?_)
          refine D ?_
          refine WD_late0 rfl trivial (OE_storeA (us := rlC ⟨names4[q1], 739600 + (q2 : Int), kinds7[q3], nil4, nil4, [], []⟩ nilS nilS) rfl rfl rfl rfl (rlC_one _ (nilSlv [] wq) (nilSlv [] wq)) e5 rfl) rfl ?_
          rintro _ wz ⟨hZ, e5z⟩
          refine D ?_
          refine WQ_cut (b5, names4[q1], (q2 : Int), kinds7[q3]) ⟨rfl, rfl, rfl, rfl, trivial⟩ ⟨hmk.ext hZ (by simp; exact n5.symm), hsl.ext hZ (by simp) (fun _ h => .inl h), hkv.ext hZ (by simp) (fun _ h => .inl h), ⟨_, rfl, e2.ext hZ (by simp; exact n52.symm)⟩, e5z, List.getElem_mem _, by simp only; omega, List.getElem_mem _, n5, n52, hb5w, hP.own hZ (fun b hb => .inr (by simp at hb; omega))⟩
      · refine WD1_eff rfl trivial OE_alloc (fun _ _ h => h.choose_spec.2.2.2.mono (by simp)) rfl ?_
        rintro _ wq ⟨b5, rfl, hb5, e5, hT⟩
        have n5 : b5 ≠ bm := by have := hmk.lt; omega
        have n52 : b5 ≠ b2 := by have := e2.lt; omega
        have hb5w : wP.heap.size ≤ b5 := Nat.le_trans hP.size hb5
        replace hmk := hmk.up hT
        replace hsl := hsl.ext (X' := [b5, bm]) hT (by simp) (fun b h => by simp at h; rcases h with rfl | rfl; exact .inr hb5; exact .inl (by simp))
        replace hkv := hkv.ext (X' := [b5, bm]) hT (by simp) (fun b h => by simp at h; rcases h with rfl | rfl; exact .inr hb5; exact .inl (by simp))
        replace hP := hP.trans (hT.mono (by simp))
        replace e2 := e2.ext hT (by simp; try exact n2)
        replace hw := hw.ext hT (by simp) (fun _ h => .inl h)
        clear hT hb5
        refine D ?_
        refine WD_eff rfl trivial (OE_call rfl (evs2 rfl rfl) (Next_any bm (.slice p l.length c) l 0 4 _ (by decide) (by decide) hmk (hsl.wk (fun b h => by simp at h; simp [h])) hl)) (fun _ _ h => h.choose_spec.2.2.2.mono (by simp)) rfl ?_
        rintro _ wq ⟨q1, rfl, hq1, hmk, hT⟩
        replace hsl := hsl.ext hT (by simp) (fun _ h => .inl h)
        replace hkv := hkv.ext hT (by simp) (fun _ h => .inl h)
        replace hP := hP.trans (hT.mono (by simp))
        replace e2 := e2.ext hT (by simp; try exact n2)
        replace hw := hw.ext hT (by simp) (fun _ h => .inl h)
        replace e5 := e5.ext hT (by simp; try exact n5)
        clear hT
        have hq1n : q1 < names4.length := by show q1 < 4; omega
        refine D ?_
        refine WD_eff rfl trivial (OE_call rfl (evs2 rfl rfl) (Next_any bm (.slice p l.length c) l 1 30 _ (by decide) (by decide) hmk (hsl.wk (fun b h => by simp at h; simp [h])) hl)) (fun _ _ h => h.choose_spec.2.2.2.mono (by simp)) rfl ?_
        rintro _ wq ⟨q2, rfl, hq2, hmk, hT⟩
        replace hsl := hsl.ext hT (by simp) (fun _ h => .inl h)
        replace hkv := hkv.ext hT (by simp) (fun _ h => .inl h)
        replace hP := hP.trans (hT.mono (by simp))
        replace e2 := e2.ext hT (by simp; try exact n2)
        replace hw := hw.ext hT (by simp) (fun _ h => .inl h)
        replace e5 := e5.ext hT (by simp; try exact n5)
        clear hT
        refine D ?_
        refine WD_eff rfl trivial (OE_call rfl (evs2 rfl rfl) (Next_any bm (.slice p l.length c) l 2 7 _ (by decide) (by decide) hmk (hsl.wk (fun b h => by simp at h; simp [h])) hl)) (fun _ _ h => h.choose_spec.2.2.2.mono (by simp)) rfl ?_
        rintro _ wq ⟨q3, rfl, hq3, hmk, hT⟩
        replace hsl := hsl.ext hT (by simp) (fun _ h => .inl h)
        replace hkv := hkv.ext hT (by simp) (fun _ h => .inl h)
        replace hP := hP.trans (hT.mono (by simp))
        replace e2 := e2.ext hT (by simp; try exact n2)
        replace hw := hw.ext hT (by simp) (fun _ h => .inl h)
        replace e5 := e5.ext hT (by simp; try exact n5)
        clear hT
        have hq3n : q3 < kinds7.length := by show q3 < 7; omega
        refine D ?_
        try (refine WF_build rfl trivial (vs := [(0, str names4[q1]), (1, .int .i64 (739600 + (q2 : Int))), (2, str kinds7[q3])]) rfl (buildRl _ _ _) rfl ?_)
        refine D ?_
        refine WD_late0 rfl trivial (OE_storeA (us := rlC ⟨names4[q1], 739600 + (q2 : Int), kinds7[q3], nil4, nil4, [], []⟩ nilS nilS) rfl rfl rfl rfl (rlC_one _ (nilSlv [] wq) (nilSlv [] wq)) e5 rfl) rfl ?_
        rintro _ wz ⟨hZ, e5z⟩
        refine D ?_
        refine WQ_cut (b5, names4[q1], (q2 : Int), kinds7[q3]) ⟨rfl, rfl, rfl, rfl, trivial⟩ ⟨hmk.ext hZ (by simp; exact n5.symm), hsl.ext hZ (by simp) (fun _ h => .inl h), hkv.ext hZ (by simp) (fun _ h => .inl h), ⟨_, rfl, e2.ext hZ (by simp; exact n52.symm)⟩, e5z, List.getElem_mem _, by simp only; omega, List.getElem_mem _, n5, n52, hb5w, hP.own hZ (fun b hb => .inr (by simp at hb; omega))⟩
    · refine WD1_eff rfl trivial OE_alloc (fun _ _ h => h.choose_spec.2.2.2.mono (by simp)) rfl ?_
      rintro _ wq ⟨b5, rfl, hb5, e5, hT⟩
      have n5 : b5 ≠ bm := by have := hmk.lt; omega
      have n52 : b5 ≠ b2 := by have := e2.lt; omega
      have hb5w : wP.heap.size ≤ b5 := Nat.le_trans hP.size hb5
      replace hmk := hmk.up hT
      replace hsl := hsl.ext (X' := [b5, bm]) hT (by simp) (fun b h => by simp at h; rcases h with rfl | rfl; exact .inr hb5; exact .inl (by simp))
      replace hkv := hkv.ext (X' := [b5, bm]) hT (by simp) (fun b h => by simp at h; rcases h with rfl | rfl; exact .inr hb5; exact .inl (by simp))
      replace hP := hP.trans (hT.mono (by simp))
      replace e2 := e2.ext hT (by simp; try exact n2)
      clear hT hb5
      refine D ?_
      refine WD_eff rfl trivial (OE_call rfl (evs1 rfl) (words_any [bm] [97, 32, 98, 32, 99, 49, 48, 32, 97, 110, 115, 119, 101, 114] _ (fun b h => by simp at h; rw [h]; exact hmk.lt) (by decide))) (fun _ _ h => h.2.mono (by simp)) rfl ?_
      rintro wv wq ⟨hrw, hT⟩
      rw [show wordsOf [97, 32, 98, 32, 99, 49, 48, 32, 97, 110, 115, 119, 101, 114] = names4 by decide +kernel] at hrw
      have hw := hrw.slv (X := [bm]) (fun b h => by simp at h; rw [h]; exact hmk.lt)
      replace hmk := hmk.up hT
      replace hsl := hsl.ext hT (by simp) (fun _ h => .inl h)
      replace hkv := hkv.ext hT (by simp) (fun _ h => .inl h)
      replace hP := hP.trans (hT.mono (by simp))
      replace e2 := e2.ext hT (by simp; try exact n2)
      replace e5 := e5.ext hT (by simp; try exact n5)
      clear hT hrw
      refine D ?_
      refine WD_eff rfl trivial (OE_call rfl (evs2 rfl rfl) (Next_any bm (.slice p l.length c) l 0 4 _ (by decide) (by decide) hmk (hsl.wk (fun b h => by simp at h; simp [h])) hl)) (fun _ _ h => h.choose_spec.2.2.2.mono (by simp)) rfl ?_
      rintro _ wq ⟨q1, rfl, hq1, hmk, hT⟩
      replace hsl := hsl.ext hT (by simp) (fun _ h => .inl h)
      replace hkv := hkv.ext hT (by simp) (fun _ h => .inl h)
      replace hP := hP.trans (hT.mono (by simp))
      replace e2 := e2.ext hT (by simp; try exact n2)
      replace hw := hw.ext hT (by simp) (fun _ h => .inl h)
      replace e5 := e5.ext hT (by simp; try exact n5)
      clear hT
      have hq1n : q1 < names4.length := by show q1 < 4; omega
      refine D ?_
      refine WD_eff rfl trivial (OE_call rfl (evs2 rfl rfl) (Next_any bm (.slice p l.length c) l 1 30 _ (by decide) (by decide) hmk (hsl.wk (fun b h => by simp at h; simp [h])) hl)) (fun _ _ h => h.choose_spec.2.2.2.mono (by simp)) rfl ?_
      rintro _ wq ⟨q2, rfl, hq2, hmk, hT⟩
      replace hsl := hsl.ext hT (by simp) (fun _ h => .inl h)
      replace hkv := hkv.ext hT (by simp) (fun _ h => .inl h)
      replace hP := hP.trans (hT.mono (by simp))
      replace e2 := e2.ext hT (by simp; try exact n2)
      replace hw := hw.ext hT (by simp) (fun _ h => .inl h)
      replace e5 := e5.ext hT (by simp; try exact n5)
      clear hT
      refine D ?_
      refine WD_eff rfl trivial (OE_call rfl (evs2 rfl rfl) (Next_any bm (.slice p l.length c) l 2 7 _ (by decide) (by decide) hmk (hsl.wk (fun b h => by simp at h; simp [h])) hl)) (fun _ _ h => h.choose_spec.2.2.2.mono (by simp)) rfl ?_
      rintro _ wq ⟨q3, rfl, hq3, hmk, hT⟩
      replace hsl := hsl.ext hT (by simp) (fun _ h => .inl h)
      replace hkv := hkv.ext hT (by simp) (fun _ h => .inl h)
      replace hP := hP.trans (hT.mono (by simp))
      replace e2 := e2.ext hT (by simp; try exact n2)
      replace hw := hw.ext hT (by simp) (fun _ h => .inl h)
      replace e5 := e5.ext hT (by simp; try exact n5)
      clear hT
      have hq3n : q3 < kinds7.length := by show q3 < 7; omega
      refine D ?_
      try (refine WF_build rfl trivial (vs := [(0, str names4[q1]), (1, .int .i64 (739600 + (q2 : Int))), (2, str kinds7[q3])]) rfl (buildRl _ _ _) rfl ?_)
      refine D ?_
      refine WD_late0 rfl trivial (OE_storeA (us := rlC ⟨names4[q1], 739600 + (q2 : Int), kinds7[q3], nil4, nil4, [], []⟩ nilS nilS) rfl rfl rfl rfl (rlC_one _ (nilSlv [] wq) (nilSlv [] wq)) e5 rfl) rfl ?_
      rintro _ wz ⟨hZ, e5z⟩
      refine D ?_
      refine WQ_cut (b5, names4[q1], (q2 : Int), kinds7[q3]) ⟨rfl, rfl, rfl, rfl, trivial⟩ ⟨hmk.ext hZ (by simp; exact n5.symm), hsl.ext hZ (by simp) (fun _ h => .inl h), hkv.ext hZ (by simp) (fun _ h => .inl h), ⟨_, rfl, e2.ext hZ (by simp; exact n52.symm)⟩, e5z, List.getElem_mem _, by simp only; omega, List.getElem_mem _, n5, n52, hb5w, hP.own hZ (fun b hb => .inr (by simp at hb; omega))⟩
  clear hmk hsl hkv e2
  rintro ⟨b5, a, f, o⟩ w3 ⟨hmk, hsl, hkv, ⟨cs2, hl2, e2⟩, e5, ha, hf, ho, n5, n52, hb5w, hP⟩
  dsimp only at hmk hsl hkv e2 e5 ha hf ho n5 n52 hb5w hP
  have z3 : szD 3 = 13 := by decide
  have z4 : szD 4 = 40 := by decide
  refine W ?_
  refine WL_eff (OE_call rfl (evs2 rfl rfl) (Next_any bm (.slice p l.length c) l 3 3 _ (by decide) (by omega) hmk (hsl.wk (fun b h => by simp at h; simp [h])) hl)) rfl ?_
  rintro _ w4 ⟨q, rfl, hq, hmk, hT⟩
  replace hsl := hsl.ext hT (by simp) (fun _ h => .inl h)
  replace hkv := hkv.ext hT (by simp) (fun _ h => .inl h)
  replace hP := hP.trans hT
  replace e2 := e2.ext hT (by simp; exact n2)
  replace e5 := e5.ext hT (by simp; exact n5)
  clear hT
  refine W ?_
  refine WC_cutQ (σ := Str × Nat) (fun _ => [(2, .pointer (some ⟨b2, 0, none⟩)), (3, .pointer (some ⟨bm, 0, none⟩)), (4, kv), (5, .pointer (some ⟨b5, 0, none⟩))])
    (fun q w' => Mk w' bm (.slice p l.length c) q.2 ∧ q.2 ≤ 5 ∧ SlV [b5, bm] w' (.slice p l.length c) l ∧ SlV [b5, bm] w' kv kinds7 ∧ Blk w' b2 51 cs2 ∧ Blk w' b5 51 (rlC ⟨a, 739600 + f, o, nil4, nil4, q.1, []⟩ nilS nilS) ∧ (q.1 = [] ∨ q.1 ∈ kinds7) ∧ Stp [bm] wP w') ?_ ?_
  · repeat' (first | refine W1 ?_ | (exfalso; omega) | refine WL_split rfl rfl (fun hg => ?_) (fun hg => ?_) | refine WL_splitB rfl rfl (fun hg => ?_) (fun hg => ?_) | refine WC_cond rfl (fun hc => ?_) (fun hc => ?_) | refine WC_condB rfl (fun hc => ?_) (fun hc => ?_))
    · refine WL_eff (OE_call rfl (evs2 rfl rfl) (Next_any bm (.slice p l.length c) l _ 7 _ (by decide) (by omega) hmk (hsl.wk (fun b h => by simp at h; simp [h])) hl)) rfl ?_
      rintro _ w4 ⟨z, rfl, hz, hmk, hT⟩
      replace hsl := hsl.ext hT (by simp) (fun _ h => .inl h)
      replace hkv := hkv.ext hT (by simp) (fun _ h => .inl h)
      replace hP := hP.trans hT
      replace e2 := e2.ext hT (by simp; exact n2)
      replace e5 := e5.ext hT (by simp; exact n5)
      clear hT
      have hqn : z < kinds7.length := by show z < 7; omega
      refine W ?_
      refine WL_eff0 (OE_store1 (u := str kinds7[z]) rfl rfl rfl rfl e5 (by simp)) ?_
      rintro _ w6 ⟨hT, e5⟩
      replace hmk := hmk.ext hT (by simp; exact n5.symm)
      replace hsl := hsl.ext hT (by simp) (fun _ h => .inl h)
      replace hkv := hkv.ext hT (by simp) (fun _ h => .inl h)
      replace hP := hP.own hT (fun b hb => .inr (by simp at hb; omega))
      replace e2 := e2.ext hT (by simp; exact n52.symm)
      clear hT
      refine W ?_
      exact WQ_cut (kinds7[z], _) ⟨rfl, rfl, rfl, rfl, trivial⟩ ⟨hmk, by simp only; omega, hsl, hkv, e2, e5, .inr (List.getElem_mem _), hP⟩
    · exact WQ_cut ([], _) ⟨rfl, rfl, rfl, rfl, trivial⟩ ⟨hmk, by simp only; omega, hsl, hkv, e2, e5, .inl rfl, hP⟩
  clear hmk hsl hkv e2 e5 hP
  rintro ⟨u, iu⟩ w3 ⟨hmk, hiu, hsl, hkv, e2, e5, hu, hP⟩
  dsimp only at hmk hiu hsl hkv e2 e5 hu hP
  refine W ?_
  refine WL_eff (OE_call rfl (evs2 rfl rfl) (Next_any bm (.slice p l.length c) l _ 3 _ (by decide) (by omega) hmk (hsl.wk (fun b h => by simp at h; simp [h])) hl)) rfl ?_
  rintro _ w4 ⟨q, rfl, hq, hmk, hT⟩
  replace hsl := hsl.ext hT (by simp) (fun _ h => .inl h)
  replace hkv := hkv.ext hT (by simp) (fun _ h => .inl h)
  replace hP := hP.trans hT
  replace e2 := e2.ext hT (by simp; exact n2)
  replace e5 := e5.ext hT (by simp; exact n5)
  clear hT
  refine W ?_
  refine WC_cutQ (σ := Str × Nat) (fun _ => [(2, .pointer (some ⟨b2, 0, none⟩)), (3, .pointer (some ⟨bm, 0, none⟩)), (4, kv), (5, .pointer (some ⟨b5, 0, none⟩))])
    (fun q w' => Mk w' bm (.slice p l.length c) q.2 ∧ q.2 ≤ 7 ∧ SlV [b5, bm] w' (.slice p l.length c) l ∧ SlV [b5, bm] w' kv kinds7 ∧ Blk w' b2 51 cs2 ∧ Blk w' b5 51 (rlC ⟨a, 739600 + f, o, nil4, nil4, u, q.1⟩ nilS nilS) ∧ (q.1 = [] ∨ q.1 ∈ kinds7) ∧ Stp [bm] wP w') ?_ ?_
  · repeat' (first | refine W1 ?_ | (exfalso; omega) | refine WL_split rfl rfl (fun hg => ?_) (fun hg => ?_) | refine WL_splitB rfl rfl (fun hg => ?_) (fun hg => ?_) | refine WC_cond rfl (fun hc => ?_) (fun hc => ?_) | refine WC_condB rfl (fun hc => ?_) (fun hc => ?_))
    · refine WL_eff (OE_call rfl (evs2 rfl rfl) (Next_any bm (.slice p l.length c) l _ 7 _ (by decide) (by omega) hmk (hsl.wk (fun b h => by simp at h; simp [h])) hl)) rfl ?_
      rintro _ w4 ⟨z, rfl, hz, hmk, hT⟩
      replace hsl := hsl.ext hT (by simp) (fun _ h => .inl h)
      replace hkv := hkv.ext hT (by simp) (fun _ h => .inl h)
      replace hP := hP.trans hT
      replace e2 := e2.ext hT (by simp; exact n2)
      replace e5 := e5.ext hT (by simp; exact n5)
      clear hT
      have hqn : z < kinds7.length := by show z < 7; omega
      refine W ?_
      refine WL_eff0 (OE_store1 (u := str kinds7[z]) rfl rfl rfl rfl e5 (by simp)) ?_
      rintro _ w6 ⟨hT, e5⟩
      replace hmk := hmk.ext hT (by simp; exact n5.symm)
      replace hsl := hsl.ext hT (by simp) (fun _ h => .inl h)
      replace hkv := hkv.ext hT (by simp) (fun _ h => .inl h)
      replace hP := hP.own hT (fun b hb => .inr (by simp at hb; omega))
      replace e2 := e2.ext hT (by simp; exact n52.symm)
      clear hT
      refine W ?_
      exact WQ_cut (kinds7[z], _) ⟨rfl, rfl, rfl, rfl, trivial⟩ ⟨hmk, by simp only; omega, hsl, hkv, e2, e5, .inr (List.getElem_mem _), hP⟩
    · exact WQ_cut ([], _) ⟨rfl, rfl, rfl, rfl, trivial⟩ ⟨hmk, by simp only; omega, hsl, hkv, e2, e5, .inl rfl, hP⟩
  clear hmk hsl hkv e2 e5 hP
  rintro ⟨v, iv⟩ w3 ⟨hmk, hiv, hsl, hkv, e2, e5, hv, hP⟩
  dsimp only at hmk hiv hsl hkv e2 e5 hv hP
  refine W ?_
  have hX3 : ∀ b ∈ b5 :: b2 :: bm :: X, b < w3.heap.size := fun b hb => by
    have h1 := e5.lt; have h2 := e2.lt; have h3 := hmk.lt; have h4 := hS.size; have h5 := hP.size
    simp only [List.mem_cons] at hb
    rcases hb with rfl | rfl | rfl | h
    · omega
    · omega
    · omega
    · have := hX b h; omega
  refine WL_eff (OE_call rfl (evs2 rfl rfl) ((gens 3 (by decide) (by decide)).2.1 (b5 :: b2 :: bm :: X) _ bm _ l _ _ rfl hmk (hsl.wk (fun b h => by simp at h; simp [h])) hl (by rw [z3]; omega) hX3)) rfl ?_
  clear hX3
  rintro _ w3 ⟨y, iy, ⟨ky, rfl, hy⟩, hsy, ⟨hty, hny⟩, hmk, hiy, hT⟩
  replace hsl := hsl.ext hT (by simp) (fun _ h => .inl h)
  replace hkv := hkv.ext hT (by simp) (fun _ h => .inl h)
  replace hP := hP.trans hT
  replace e2 := e2.ext hT (by simp; exact n2)
  replace e5 := e5.ext hT (by simp; exact n5)
  clear hT
  refine W ?_
  refine WL_eff0 (OE_store (us := ndC y ky) rfl rfl rfl rfl (ndC_one hy) e5 (by simp)) ?_
  rintro _ w3 ⟨hT, e5⟩
  replace e5 : Blk w3 b5 51 (rlC ⟨a, 739600 + f, o, y, nil4, u, v⟩ ky nilS) := e5
  replace hy := hy.ext hT (by simp) (fun _ h => .inl h)
  replace hmk := hmk.ext hT (by simp; exact n5.symm)
  replace hsl := hsl.ext hT (by simp) (fun _ h => .inl h)
  replace hkv := hkv.ext hT (by simp) (fun _ h => .inl h)
  replace hP := hP.own hT (fun b hb => .inr (by simp at hb; omega))
  replace e2 := e2.ext hT (by simp; exact n52.symm)
  clear hT
  refine W ?_
  have hX3 : ∀ b ∈ b5 :: b2 :: bm :: X, b < w3.heap.size := fun b hb => by
    have h1 := e5.lt; have h2 := e2.lt; have h3 := hmk.lt; have h4 := hS.size; have h5 := hP.size
    simp only [List.mem_cons] at hb
    rcases hb with rfl | rfl | rfl | h
    · omega
    · omega
    · omega
    · have := hX b h; omega
  refine WL_eff (OE_call rfl (evs2 rfl rfl) ((gens 4 (by decide) (by decide)).2.2 (b5 :: b2 :: bm :: X) _ bm _ l _ _ rfl hmk (hsl.wk (fun b h => by simp at h; simp [h])) hl (by rw [z4]; omega) hX3)) rfl ?_
  clear hX3
  rintro _ w3 ⟨x, ix, ⟨kx, rfl, hx⟩, hsx, ⟨htx, hnx⟩, hmk, hix, hT⟩
  replace hy := hy.ext hT (by simp) (fun _ h => .inl h)
  replace hsl := hsl.ext hT (by simp) (fun _ h => .inl h)
  replace hkv := hkv.ext hT (by simp) (fun _ h => .inl h)
  replace hP := hP.trans hT
  replace e2 := e2.ext hT (by simp; exact n2)
  replace e5 := e5.ext hT (by simp; exact n5)
  clear hT
  refine W ?_
  refine WL_eff0 (OE_store (us := ndC x kx) rfl rfl rfl rfl (ndC_one hx) e5 (by simp)) ?_
  rintro _ w3 ⟨hT, e5⟩
  replace e5 : Blk w3 b5 51 (rlC ⟨a, 739600 + f, o, y, x, u, v⟩ ky kx) := e5
  replace hy := hy.ext hT (by simp) (fun _ h => .inl h)
  replace hx := hx.ext hT (by simp) (fun _ h => .inl h)
  replace hmk := hmk.ext hT (by simp; exact n5.symm)
  replace hsl := hsl.ext hT (by simp) (fun _ h => .inl h)
  replace hkv := hkv.ext hT (by simp) (fun _ h => .inl h)
  replace hP := hP.own hT (fun b hb => .inr (by simp at hb; omega))
  replace e2 := e2.ext hT (by simp; exact n52.symm)
  clear hT
  refine W ?_
  try (apply WL_pure (PR_loadN_blk (us := rlC ⟨a, 739600 + f, o, y, x, u, v⟩ ky kx) rfl rfl e5 rfl rfl) rfl)
  try refine W ?_
  refine WL_eff0 (OE_storeA (us := rlC ⟨a, 739600 + f, o, y, x, u, v⟩ ky kx) rfl rfl rfl rfl (rlC_one ⟨a, 739600 + f, o, y, x, u, v⟩ hy hx) e2 (by rw [hl2]; rfl)) ?_
  rintro _ w4 ⟨hT, e2⟩
  refine W ?_
  refine WQ_retc rfl rfl rfl e2 rfl ?_
  refine .mk ⟨⟨a, 739600 + f, o, y, x, u, v⟩, ⟨ky, kx, rfl, (hy.ext hT (by simp) (fun _ h => .inl h)).wk (fun b h => by simp [h]), (hx.ext hT (by simp) (fun _ h => .inl h)).wk (fun b h => by simp [h])⟩, by simp only; omega, by simp only; omega, check_ok ha ho hu hv hf hty hny htx hnx, ?_⟩
  exact (hS.own hP (fun b hb => .inr (by simp at hb; omega))).own hT (fun b hb => .inr (by simp at hb; omega))
end Go.Proofs.YtgpibcgebpgmiaaDoor


namespace Go.Proofs.YtgpibcgebpgmiaaDoor
open Go Go.Eng Go.RowKit
set_option linter.unusedVariables false

/-! ### compiled rules -/
structure Cr where
  name : Str
  frm : Int
  on : Str
  cnd : List Ins
  due : List Ins
  unl : Str
  els : Str
abbrev crC (q : Cr) (kc kd : Value) : List Value := [str q.name, .int .i64 q.frm, str q.on, kc, kd, str q.unl, str q.els]
def CrV (X : List Nat) (w : World) (v : Value) (q : Cr) : Prop := ∃ kc kd, v = .agg (crC q kc kd).toArray ∧ SlV X w kc q.cnd ∧ SlV X w kd q.due
theorem CrV.up {X : List Nat} {w w' : World} {v : Value} {q : Cr} (h : CrV X w v q) (hS : Stp [] w w') : CrV X w' v q := by
  obtain ⟨kc, kd, rfl, h1, h2⟩ := h
  exact ⟨kc, kd, rfl, h1.up hS, h2.up hS⟩
theorem crC_one {q : Cr} {X Y : List Nat} {w w' : World} {kc kd : Value} (h1 : SlV X w kc q.cnd) (h2 : SlV Y w' kd q.due) : ∀ c ∈ crC q kc kd, c.oneCell' = true := by
  intro c hc
  have e1 := h1.one
  have e2 := h2.one
  simp only [crC, List.mem_cons, List.not_mem_nil, or_false] at hc
  rcases hc with rfl | rfl | rfl | rfl | rfl | rfl | rfl <;> first | rfl | exact e1 | exact e2
/-- the error of a compiled rule -/
def ruleE (r : Rul) : Int := if checkT r ≠ 0 then checkT r else if errX r.cnd ≠ 0 then errX r.cnd else errX r.due
abbrev crZ : Cr := ⟨[], 0, [], [], [], [], []⟩
def crF (r : Rul) : Cr := if ruleE r = 0 then ⟨r.name, r.frm, r.on, exprF r.cnd, exprF r.due, r.unl, r.els⟩ else crZ
/-- what both 'Rule' give -/
def RuleR (w : World) (r : Rul) (v : Value) (w' : World) : Prop := ∃ cv, v = .tuple #[cv, .int .i64 (ruleE r)] ∧ (∀ X : List Nat, (∀ b ∈ X, b < w.heap.size) → CrV X w' cv (crF r)) ∧ Stp [] w w'
theorem buildCr0 (w : World) : (Instr.build 42 #[]).run Tryd.prog w = .ok (.agg (crC crZ nilS nilS).toArray) w := by kernel_rfl
theorem buildCr (q : Cr) (p1 p2 : Option Addr) (l1 c1 l2 c2 : Nat) (w : World) : (Instr.build 42 #[(0, str q.name), (1, .int .i64 q.frm), (2, str q.on), (3, .slice p1 l1 c1), (4, .slice p2 l2 c2), (5, str q.unl), (6, str q.els)]).run Tryd.prog w = .ok (.agg (crC q (.slice p1 l1 c1) (.slice p2 l2 c2)).toArray) w := by kernel_rfl
theorem Rule_any (v : Value) (r : Rul) (w : World) (hv : RulV [] w v r) (h1 : sizeN r.cnd ≤ 1000) (h2 : sizeN r.due ≤ 1000) (hF : SlV [] w flds fieldNames) (m : Int) (hm : w.cell? ⟨1, 0, none⟩ = some (.int .i64 m)) :
    Calls Tryd.prog 22 #[v] w (Ret (RuleR w r)) := by
  obtain ⟨ki, kd, rfl, hi, hd⟩ := hv
  have hn1 := nest_le_size r.cnd
  have hn2 := nest_le_size r.due
  refine calls_of_WC1 (n := 47) Tryd.func22 rfl rfl rfl ?_
  refine W ?_
  refine WL_eff (OE_box rfl) rfl ?_
  rintro _ w1 ⟨b, rfl, hb, hblk, hS⟩
  replace hblk : Blk w1 b _ (rlC r ki kd) := hblk
  refine W ?_
  refine WL_eff OE_alloc rfl ?_
  rintro _ w2 ⟨b2, rfl, hb2, e2, hT⟩
  have hb2w : w.heap.size ≤ b2 := Nat.le_trans hS.size hb2
  replace hblk := hblk.up hT
  replace hS := hS.trans hT
  clear hT hb hb2
  refine W ?_
  try (refine WL_pure (PR_load_blkA rfl rfl hblk rfl) rfl ?_)
  refine W ?_
  refine WL_eff (OE_call rfl (evs1 rfl) (Check14_any _ r m _ ⟨ki, kd, rfl, hi.up hS, hd.up hS⟩ (hF.up hS) (hS.cell (by simp) hm))) rfl ?_
  rintro _ w3 ⟨rfl, hT⟩
  replace hblk := hblk.up hT
  replace e2 := e2.up hT
  replace hS := hS.trans hT
  clear hT
  by_cases hck : checkT r = 0
  case neg =>
    have hE : ruleE r = checkT r := by unfold ruleE; rw [if_pos hck]
    have hC : crF r = crZ := by unfold crF; rw [hE, if_neg hck]
    repeat' (first | refine W1 ?_ | (exfalso; omega) | refine WL_split rfl rfl (fun hg => ?_) (fun hg => ?_) | refine WL_splitB rfl rfl (fun hg => ?_) (fun hg => ?_) | refine WC_cond rfl (fun hc => ?_) (fun hc => ?_) | refine WC_condB rfl (fun hc => ?_) (fun hc => ?_))
    apply WL_build (vs := []) rfl buildCr0 rfl
    refine W ?_
    refine WL_eff0 (OE_storeA (us := crC crZ nilS nilS) rfl rfl rfl rfl (crC_one (q := crZ) (nilSlv [] w) (nilSlv [] w)) e2 rfl) ?_
    rintro _ w9 ⟨hT, e2⟩
    refine W ?_
    refine WQ_retct rfl rfl rfl e2 rfl rfl ?_
    exact .mk ⟨_, by rw [hE] <;> rfl, fun X hX => ⟨nilS, nilS, by rw [hC], by rw [hC]; exact nilSlv X _, by rw [hC]; exact nilSlv X _⟩, hS.own hT (fun b hb => .inr (by simp at hb; omega))⟩
  repeat' (first | refine W1 ?_ | (exfalso; omega) | refine WL_split rfl rfl (fun hg => ?_) (fun hg => ?_) | refine WL_splitB rfl rfl (fun hg => ?_) (fun hg => ?_) | refine WC_cond rfl (fun hc => ?_) (fun hc => ?_) | refine WC_condB rfl (fun hc => ?_) (fun hc => ?_))
  apply WL_pure (PR_loadN_blk (us := ndC r.cnd ki) rfl rfl hblk rfl rfl) rfl
  refine W ?_
  refine WL_eff (OE_call rfl (evs1 rfl) (Expression_any _ r.cnd _ h1 ⟨ki, rfl, hi.up hS⟩ (hF.up hS))) rfl ?_
  rintro _ w4 ⟨va, rfl, ha, hT⟩
  replace ha := fun X (hX : ∀ b ∈ X, b < w.heap.size) => ha (b2 :: X) (fun b hb => by
    rcases List.mem_cons.1 hb with rfl | h
    · exact e2.lt
    · exact Nat.lt_of_lt_of_le (hX b h) hS.size)
  replace hblk := hblk.up hT
  replace e2 := e2.up hT
  replace hS := hS.trans hT
  clear hT
  refine W ?_
  by_cases hc1 : errX r.cnd = 0
  case neg =>
    have hE : ruleE r = errX r.cnd := by unfold ruleE; rw [if_neg (by simp [hck]), if_pos hc1]
    have hC : crF r = crZ := by unfold crF; rw [hE, if_neg hc1]
    repeat' (first | refine W1 ?_ | (exfalso; omega) | refine WL_split rfl rfl (fun hg => ?_) (fun hg => ?_) | refine WL_splitB rfl rfl (fun hg => ?_) (fun hg => ?_) | refine WC_cond rfl (fun hc => ?_) (fun hc => ?_) | refine WC_condB rfl (fun hc => ?_) (fun hc => ?_))
    apply WL_build (vs := []) rfl buildCr0 rfl
    refine W ?_
    refine WL_eff0 (OE_storeA (us := crC crZ nilS nilS) rfl rfl rfl rfl (crC_one (q := crZ) (nilSlv [] w) (nilSlv [] w)) e2 rfl) ?_
    rintro _ w9 ⟨hT, e2⟩
    refine W ?_
    refine WQ_retct rfl rfl rfl e2 rfl rfl ?_
    exact .mk ⟨_, by rw [hE] <;> rfl, fun X hX => ⟨nilS, nilS, by rw [hC], by rw [hC]; exact nilSlv X _, by rw [hC]; exact nilSlv X _⟩, hS.own hT (fun b hb => .inr (by simp at hb; omega))⟩
  rw [if_pos hc1] at ha
  repeat' (first | refine W1 ?_ | (exfalso; omega) | refine WL_split rfl rfl (fun hg => ?_) (fun hg => ?_) | refine WL_splitB rfl rfl (fun hg => ?_) (fun hg => ?_) | refine WC_cond rfl (fun hc => ?_) (fun hc => ?_) | refine WC_condB rfl (fun hc => ?_) (fun hc => ?_))
  apply WL_pure (PR_loadN_blk (us := ndC r.due kd) rfl rfl hblk rfl rfl) rfl
  refine W ?_
  refine WL_eff (OE_call rfl (evs1 rfl) (Expression_any _ r.due _ h2 ⟨kd, rfl, hd.up hS⟩ (hF.up hS))) rfl ?_
  rintro _ w5 ⟨vb, rfl, hb, hT⟩
  replace hb := fun X (hX : ∀ b ∈ X, b < w.heap.size) => hb (b2 :: X) (fun b hb => by
    rcases List.mem_cons.1 hb with rfl | h
    · exact e2.lt
    · exact Nat.lt_of_lt_of_le (hX b h) hS.size)
  replace ha := fun X hX => (ha X hX).up hT
  replace hblk := hblk.up hT
  replace e2 := e2.up hT
  replace hS := hS.trans hT
  clear hT
  refine W ?_
  have hE : ruleE r = errX r.due := by unfold ruleE; rw [if_neg (by simp [hck]), if_neg (by simp [hc1])]
  by_cases hc2 : errX r.due = 0
  case neg =>
    have hC : crF r = crZ := by unfold crF; rw [hE, if_neg hc2]
    repeat' (first | refine W1 ?_ | (exfalso; omega) | refine WL_split rfl rfl (fun hg => ?_) (fun hg => ?_) | refine WL_splitB rfl rfl (fun hg => ?_) (fun hg => ?_) | refine WC_cond rfl (fun hc => ?_) (fun hc => ?_) | refine WC_condB rfl (fun hc => ?_) (fun hc => ?_))
    apply WL_build (vs := []) rfl buildCr0 rfl
    refine W ?_
    refine WL_eff0 (OE_storeA (us := crC crZ nilS nilS) rfl rfl rfl rfl (crC_one (q := crZ) (nilSlv [] w) (nilSlv [] w)) e2 rfl) ?_
    rintro _ w9 ⟨hT, e2⟩
    refine W ?_
    refine WQ_retct rfl rfl rfl e2 rfl rfl ?_
    exact .mk ⟨_, by rw [hE] <;> rfl, fun X hX => ⟨nilS, nilS, by rw [hC], by rw [hC]; exact nilSlv X _, by rw [hC]; exact nilSlv X _⟩, hS.own hT (fun b hb => .inr (by simp at hb; omega))⟩
  rw [if_pos hc2] at hb
  have hC : crF r = ⟨r.name, r.frm, r.on, exprF r.cnd, exprF r.due, r.unl, r.els⟩ := by unfold crF; rw [hE, if_pos hc2]
  obtain ⟨p1, c1, rfl, -⟩ := id (ha [] (by simp))
  obtain ⟨p2, c2, rfl, -⟩ := id (hb [] (by simp))
  repeat' (first | refine W1 ?_ | (exfalso; omega) | refine WL_split rfl rfl (fun hg => ?_) (fun hg => ?_) | refine WL_splitB rfl rfl (fun hg => ?_) (fun hg => ?_) | refine WC_cond rfl (fun hc => ?_) (fun hc => ?_) | refine WC_condB rfl (fun hc => ?_) (fun hc => ?_))
  apply WL_build (vs := [(0, str r.name), (1, .int .i64 r.frm), (2, str r.on), (3, .slice p1 (exprF r.cnd).length c1), (4, .slice p2 (exprF r.due).length c2), (5, str r.unl), (6, str r.els)]) rfl (buildCr ⟨r.name, r.frm, r.on, exprF r.cnd, exprF r.due, r.unl, r.els⟩ _ _ _ _ _ _) rfl
  refine WL_eff0 (OE_storeA (us := crC ⟨r.name, r.frm, r.on, exprF r.cnd, exprF r.due, r.unl, r.els⟩ (.slice p1 (exprF r.cnd).length c1) (.slice p2 (exprF r.due).length c2)) rfl rfl rfl rfl (crC_one (q := ⟨r.name, r.frm, r.on, exprF r.cnd, exprF r.due, r.unl, r.els⟩) (ha [] (by simp)) (hb [] (by simp))) e2 rfl) ?_
  rintro _ w9 ⟨hT, e2⟩
  refine W ?_
  refine WQ_retct rfl rfl rfl e2 rfl rfl ?_
  exact .mk ⟨_, by rw [hE, hc2], fun X hX => by
    rw [hC]
    exact ⟨_, _, rfl, ((ha X hX).ext hT (by simp) (fun _ h => .inl h)).wk (fun b h => by simp [h]), ((hb X hX).ext hT (by simp) (fun _ h => .inl h)).wk (fun b h => by simp [h])⟩, hS.own hT (fun b hb => .inr (by simp at hb; omega))⟩
end Go.Proofs.YtgpibcgebpgmiaaDoor


namespace Go.Proofs.YtgpibcgebpgmiaaDoor
open Go Go.Eng Go.RowKit Go.Proofs Go.ChangeShapes Go.WideShapes Go.Deep
set_option linter.unusedVariables false
theorem SameR_any (va vb : Value) (q : Cr) (w : World) (ha : CrV [] w va q) (hb : CrV [] w vb q) :
    Calls Tryd.prog 18 #[va, vb] w (Ret fun r w' => r = .bool true ∧ Stp [] w w') := by
  obtain ⟨ka, da, rfl, ha1, ha2⟩ := ha
  obtain ⟨kb, db, rfl, hb1, hb2⟩ := hb
  refine calls_of_WC2 (n := 52) Tryd.func18 rfl rfl rfl ?_
  refine W ?_
  refine WL_eff (OE_box rfl) rfl ?_
  rintro _ w1 ⟨b1, rfl, hb1', e1, hS⟩
  replace e1 : Blk w1 b1 42 (crC q ka da) := e1
  refine W ?_
  refine WL_eff (OE_box rfl) rfl ?_
  rintro _ w2 ⟨b2, rfl, hb2', e2, hT⟩
  replace e2 : Blk w2 b2 42 (crC q kb db) := e2
  replace e1 := e1.up hT
  replace hS := hS.trans hT
  replace ha1 := ha1.up hS
  replace ha2 := ha2.up hS
  replace hb1 := hb1.up hS
  replace hb2 := hb2.up hS
  clear hT hb1' hb2'
  repeat' (first | refine W1 ?_ | (exfalso; omega) | refine WL_split rfl rfl (fun hg => ?_) (fun hg => ?_) | refine WL_splitB rfl rfl (fun hg => ?_) (fun hg => ?_) | refine WC_cond rfl (fun hc => ?_) (fun hc => ?_) | refine WC_condB rfl (fun hc => ?_) (fun hc => ?_))
  all_goals try (exact absurd rfl (by assumption))
  refine WL_eff (OE_call rfl (evs2 rfl rfl) (SameCode_any _ _ q.cnd q.cnd _ ha1 hb1)) rfl ?_
  rintro _ w3 ⟨rfl, hT⟩
  replace e1 := e1.up hT
  replace e2 := e2.up hT
  replace hS := hS.trans hT
  replace ha2 := ha2.up hT
  replace hb2 := hb2.up hT
  clear hT
  rw [decide_eq_true (rfl : q.cnd = q.cnd)]
  repeat' (first | refine W1 ?_ | (exfalso; omega) | refine WL_split rfl rfl (fun hg => ?_) (fun hg => ?_) | refine WL_splitB rfl rfl (fun hg => ?_) (fun hg => ?_) | refine WC_cond rfl (fun hc => ?_) (fun hc => ?_) | refine WC_condB rfl (fun hc => ?_) (fun hc => ?_))
  all_goals try (exact absurd rfl (by assumption))
  refine WL_eff (OE_call rfl (evs2 rfl rfl) (SameCode_any _ _ q.due q.due _ ha2 hb2)) rfl ?_
  rintro _ w3 ⟨rfl, hT⟩
  replace e1 := e1.up hT
  replace e2 := e2.up hT
  replace hS := hS.trans hT
  clear hT
  rw [decide_eq_true (rfl : q.due = q.due)]
  repeat' (first | refine W1 ?_ | (exfalso; omega) | refine WL_split rfl rfl (fun hg => ?_) (fun hg => ?_) | refine WL_splitB rfl rfl (fun hg => ?_) (fun hg => ?_) | refine WC_cond rfl (fun hc => ?_) (fun hc => ?_) | refine WC_condB rfl (fun hc => ?_) (fun hc => ?_))
  all_goals try (exact absurd rfl (by assumption))
  first | refine WQ_ret1 rfl rfl ?_ | refine WQ_ret2 rfl rfl rfl ?_ | refine WQ_ret3 rfl rfl rfl rfl ?_ | refine WQ_ret0 rfl ?_ | refine WQ_end0 rfl ?_
  exact .mk ⟨by simp, hS⟩
end Go.Proofs.YtgpibcgebpgmiaaDoor


namespace Go.Eng
open Go Go.RowKit
set_option linter.unusedVariables false
variable {X : List Nat} {w w' : World} {base T : Nat} {v : Value} {zs ys : List Int}
end Go.Eng
namespace Go.Proofs.YtgpibcgebpgmiaaDoor
open Go Go.Eng Go.RowKit
set_option linter.unusedVariables false
end Go.Proofs.YtgpibcgebpgmiaaDoor


namespace Go.Proofs.YtgpibcgebpgmiaaDoor
open Go Go.Eng Go.RowKit
set_option linter.unusedVariables false

/-! ### the fields that an expression uses -/
theorem field_spec (s : Str) (y : Int) : ((fieldF s).2.2 = true ∧ y = (fieldF s).1) ↔ ∃ i, i < 7 ∧ s = fieldNames.getD i [] ∧ y = (i : Int) := by
  by_cases h0 : s = [100, 97, 121]
  · subst h0
    have e : fieldF [100, 97, 121] = (0, 3, true) := by decide +kernel
    have u : ∀ i, i < 7 → [100, 97, 121] = fieldNames.getD i [] → i = 0 := by decide +kernel
    rw [e]
    constructor
    · rintro ⟨-, rfl⟩; exact ⟨0, by decide, by decide +kernel, rfl⟩
    · rintro ⟨i, hi, he, rfl⟩; rw [u i hi he]; exact ⟨rfl, rfl⟩
  by_cases h1 : s = [115, 101, 114, 118, 101, 100]
  · subst h1
    have e : fieldF [115, 101, 114, 118, 101, 100] = (1, 3, true) := by decide +kernel
    have u : ∀ i, i < 7 → [115, 101, 114, 118, 101, 100] = fieldNames.getD i [] → i = 1 := by decide +kernel
    rw [e]
    constructor
    · rintro ⟨-, rfl⟩; exact ⟨1, by decide, by decide +kernel, rfl⟩
    · rintro ⟨i, hi, he, rfl⟩; rw [u i hi he]; exact ⟨rfl, rfl⟩
  by_cases h2 : s = [101, 120, 116, 114, 97]
  · subst h2
    have e : fieldF [101, 120, 116, 114, 97] = (2, 1, true) := by decide +kernel
    have u : ∀ i, i < 7 → [101, 120, 116, 114, 97] = fieldNames.getD i [] → i = 2 := by decide +kernel
    rw [e]
    constructor
    · rintro ⟨-, rfl⟩; exact ⟨2, by decide, by decide +kernel, rfl⟩
    · rintro ⟨i, hi, he, rfl⟩; rw [u i hi he]; exact ⟨rfl, rfl⟩
  by_cases h3 : s = [98, 121]
  · subst h3
    have e : fieldF [98, 121] = (3, 1, true) := by decide +kernel
    have u : ∀ i, i < 7 → [98, 121] = fieldNames.getD i [] → i = 3 := by decide +kernel
    rw [e]
    constructor
    · rintro ⟨-, rfl⟩; exact ⟨3, by decide, by decide +kernel, rfl⟩
    · rintro ⟨i, hi, he, rfl⟩; rw [u i hi he]; exact ⟨rfl, rfl⟩
  by_cases h4 : s = [116, 111]
  · subst h4
    have e : fieldF [116, 111] = (4, 1, true) := by decide +kernel
    have u : ∀ i, i < 7 → [116, 111] = fieldNames.getD i [] → i = 4 := by decide +kernel
    rw [e]
    constructor
    · rintro ⟨-, rfl⟩; exact ⟨4, by decide, by decide +kernel, rfl⟩
    · rintro ⟨i, hi, he, rfl⟩; rw [u i hi he]; exact ⟨rfl, rfl⟩
  by_cases h5 : s = [99, 111, 117, 114, 116]
  · subst h5
    have e : fieldF [99, 111, 117, 114, 116] = (5, 1, true) := by decide +kernel
    have u : ∀ i, i < 7 → [99, 111, 117, 114, 116] = fieldNames.getD i [] → i = 5 := by decide +kernel
    rw [e]
    constructor
    · rintro ⟨-, rfl⟩; exact ⟨5, by decide, by decide +kernel, rfl⟩
    · rintro ⟨i, hi, he, rfl⟩; rw [u i hi he]; exact ⟨rfl, rfl⟩
  by_cases h6 : s = [97, 109, 111, 117, 110, 116]
  · subst h6
    have e : fieldF [97, 109, 111, 117, 110, 116] = (6, 1, true) := by decide +kernel
    have u : ∀ i, i < 7 → [97, 109, 111, 117, 110, 116] = fieldNames.getD i [] → i = 6 := by decide +kernel
    rw [e]
    constructor
    · rintro ⟨-, rfl⟩; exact ⟨6, by decide, by decide +kernel, rfl⟩
    · rintro ⟨i, hi, he, rfl⟩; rw [u i hi he]; exact ⟨rfl, rfl⟩
  constructor
  · rintro ⟨h, -⟩
    exfalso
    have hn : fieldNames.findIdx? (isS s) = none := List.findIdx?_eq_none_iff.2 fun x hx => by
      simp only [fieldNames, List.mem_cons, List.not_mem_nil, or_false] at hx
      rcases hx with rfl | rfl | rfl | rfl | rfl | rfl | rfl <;> simp only [isS, decide_eq_false_iff_not] <;> intro e <;> first | exact (absurd e h0) | exact (absurd e.symm h0) | exact (absurd e h1) | exact (absurd e.symm h1) | exact (absurd e h2) | exact (absurd e.symm h2) | exact (absurd e h3) | exact (absurd e.symm h3) | exact (absurd e h4) | exact (absurd e.symm h4) | exact (absurd e h5) | exact (absurd e.symm h5) | exact (absurd e h6) | exact (absurd e.symm h6) | skip
    simp [fieldF, idx, hn] at h
  · rintro ⟨i, hi, he, -⟩
    exfalso
    match i, hi with
    | 0, _ => exact h0 he
    | 1, _ => exact h1 he
    | 2, _ => exact h2 he
    | 3, _ => exact h3 he
    | 4, _ => exact h4 he
    | 5, _ => exact h5 he
    | 6, _ => exact h6 he
end Go.Proofs.YtgpibcgebpgmiaaDoor


namespace Go.Proofs.YtgpibcgebpgmiaaDoor
open Go Go.Eng Go.RowKit
set_option linter.unusedVariables false

end Go.Proofs.YtgpibcgebpgmiaaDoor


namespace Go.Proofs.YtgpibcgebpgmiaaDoor
open Go Go.Eng Go.RowKit
set_option linter.unusedVariables false
theorem buildRlL (a o : Str) (k n : Int) (s : Str) (p : Option Addr) (l c : Nat) (k' n' : Int) (s' : Str) (p' : Option Addr) (l' c' : Nat) (w : World) : (Instr.build 51 #[(0, str a), (2, str o), (3, .agg #[.int .i64 k, .int .i64 n, str s, .slice p l c]), (4, .agg #[.int .i64 k', .int .i64 n', str s', .slice p' l' c'])]).run Tryd.prog w = .ok (.agg #[str a, .int .i64 0, str o, .int .i64 k, .int .i64 n, str s, .slice p l c, .int .i64 k', .int .i64 n', str s', .slice p' l' c', str [], str []]) w := by kernel_rfl
end Go.Proofs.YtgpibcgebpgmiaaDoor


namespace Go.Eng
open Go Go.RowKit
theorem Row.drop {α : Type} [GoRep α] {X : List Nat} {w : World} {base T : Nat} {v : Value} {xs : List α} (h : Row X w base T v xs) : SlV [] w v xs :=
  (h.ext (S := []) (X' := []) (Stp.refl [] w) (by simp) (by simp)).slv (by simp)
end Go.Eng
namespace Go.Proofs.YtgpibcgebpgmiaaDoor
open Go Go.Eng Go.RowKit
set_option linter.unusedVariables false
end Go.Proofs.YtgpibcgebpgmiaaDoor


namespace Go.Proofs.YtgpibcgebpgmiaaDoor
open Go Go.Eng Go.RowKit
set_option linter.unusedVariables false
abbrev rlN (s : Str) : Rul := ⟨s, 0, s, .mk 2 0 [] [], .mk 3 0 [] [], [], []⟩
theorem ckN (s : Str) : decide (checkT (rlN s) = 0) = namedT s := by
  have m1 : mustF (.mk 2 0 [] []) 2 = 0 := by
    unfold mustF
    rw [show nestN (.mk 2 0 [] []) = 1 by simp only [nestN_eq, Nd.kids, List.map_nil]; rfl, show typeT (.mk 2 0 [] []) = 2 by simp only [typeT_eq, Nd.kids, Nd.kind, Nd.num, Nd.word, List.map_nil]; rfl]
    decide
  have m2 : mustF (.mk 3 0 [] []) 3 = 0 := by
    unfold mustF
    rw [show nestN (.mk 3 0 [] []) = 1 by simp only [nestN_eq, Nd.kids, List.map_nil]; rfl, show typeT (.mk 3 0 [] []) = 3 by simp only [typeT_eq, Nd.kids, Nd.kind, Nd.num, Nd.word, List.map_nil]; rfl]
    decide
  have hn : namesT (rlN s) = namedT s := by simp [namesT]
  unfold checkT
  rw [hn, m1, m2]
  cases namedT s <;> simp
theorem buildN0k (k : Int) (w : World) : (Instr.build 25 #[(0, .int .i64 k)]).run Tryd.prog w = .ok (.agg #[.int .i64 k, .int .i64 0, str [], .slice none 0 0]) w := by kernel_rfl
theorem CNamed_any (s : Str) (m : Int) (w : World) (hF : SlV [] w flds fieldNames) (hm : w.cell? ⟨1, 0, none⟩ = some (.int .i64 m)) :
    Calls Tryd.prog 67 #[str s] w (Ret fun r w' => r = .bool (namedT s) ∧ Stp [] w w') := by
  refine calls_of_WC1 (n := 12) Tryd.func67 rfl rfl rfl ?_
  refine W ?_
  apply WL_build (vs := [(0, .int .i64 2)]) rfl (buildN0k _) rfl
  apply WL_build (vs := [(0, .int .i64 3)]) rfl (buildN0k _) rfl
  apply WL_build (vs := [(0, str s), (2, str s), (3, .agg #[.int .i64 2, .int .i64 0, str [], .slice none 0 0]), (4, .agg #[.int .i64 3, .int .i64 0, str [], .slice none 0 0])]) rfl (buildRlL _ _ _ _ _ _ _ _ _ _ _ _ _ _) rfl
  refine WL_eff OE_alloc rfl ?_
  rintro _ w1 ⟨b, rfl, hb, e0, hT⟩
  refine WL_eff0 (OE_storeA (us := rlC (rlN s) nilS nilS) rfl rfl rfl rfl (rlC_one (rlN s) (nilSlv (α := Nd) [] w) (nilSlv (α := Nd) [] w)) e0 rfl) ?_
  rintro _ w2 ⟨hT2, e1⟩
  have hS := hT.own hT2 (fun b hb => .inr (by simp at hb; omega))
  clear hT hT2 e0
  refine W ?_
  refine WL_eff (OE_call rfl (evs1 rfl) (Check14_any _ (rlN s) m _ ⟨nilS, nilS, rfl, nilSlv _ _, nilSlv _ _⟩ (hF.up hS) (hS.cell (by simp) hm))) rfl ?_
  rintro _ w3 ⟨rfl, hT⟩
  replace hS := hS.trans hT
  refine W ?_
  first | refine WQ_ret1 rfl rfl ?_ | refine WQ_ret2 rfl rfl rfl ?_ | refine WQ_ret3 rfl rfl rfl rfl ?_ | refine WQ_ret0 rfl ?_ | refine WQ_end0 rfl ?_
  exact .mk ⟨by rw [← ckN s], hS⟩
/-- a compiled rule that is not valid -/
def badC (q : Cr) : Bool := decide ((verM q.cnd).2 ≠ 0) || decide ((verM q.due).2 ≠ 0) || decide ((verM q.cnd).1 ≠ 2) || decide ((verM q.due).1 ≠ 3) || decide (q.frm < 0) || decide (q.frm > 3652058) || !namedT q.name || !namedT q.on || (decide (q.unl ≠ []) && !namedT q.unl) || (decide (q.els ≠ []) && !namedT q.els)
def chkC (q : Cr) : Int := if badC q then 22 else 0
theorem CheckC_any (v : Value) (q : Cr) (w : World) (m : Int) (hF : SlV [] w flds fieldNames) (hm : w.cell? ⟨1, 0, none⟩ = some (.int .i64 m)) (hv : CrV [] w v q) :
    Calls Tryd.prog 24 #[v] w (Ret fun r w' => r = .int .i64 (chkC q) ∧ Stp [] w w') := by
  obtain ⟨kc, kd, rfl, hc1, hd1⟩ := hv
  refine calls_of_WC1 (n := 60) Tryd.func24 rfl rfl rfl ?_
  refine W ?_
  refine WL_eff (OE_box rfl) rfl ?_
  rintro _ w1 ⟨b, rfl, hb, e1, hS⟩
  replace e1 : Blk w1 b 42 (crC q kc kd) := e1
  replace hc1 := hc1.up hS
  replace hd1 := hd1.up hS
  clear hb
  refine W ?_
  refine WL_eff (OE_call rfl (evs1 rfl) (Verify_any _ q.cnd _ hc1)) rfl ?_
  rintro _ w2 ⟨rfl, hT⟩
  replace e1 := e1.up hT
  replace hc1 := hc1.up hT
  replace hd1 := hd1.up hT
  replace hS := hS.trans hT
  clear hT
  refine W ?_
  refine WL_eff (OE_call rfl (evs1 rfl) (Verify_any _ q.due _ hd1)) rfl ?_
  rintro _ w2 ⟨rfl, hT⟩
  replace e1 := e1.up hT
  replace hc1 := hc1.up hT
  replace hd1 := hd1.up hT
  replace hS := hS.trans hT
  clear hT
  refine W ?_
  refine WC_cutQ (σ := Bool) (fun u => [(1, .pointer (some ⟨b, 0, none⟩)), (2, .int .i64 0), (19, .bool u)]) (fun u w' => Blk w' b 42 (crC q kc kd) ∧ Stp [] w w' ∧ u = badC q) ?_ ?_
  · repeat' (first | refine W1 ?_ | (exfalso; omega) | refine WL_split rfl rfl (fun hg => ?_) (fun hg => ?_) | refine WL_splitB rfl rfl (fun hg => ?_) (fun hg => ?_) | refine WC_cond rfl (fun hc => ?_) (fun hc => ?_) | refine WC_condB rfl (fun hc => ?_) (fun hc => ?_))
    all_goals try (first | exact WQ_cut true ⟨rfl, rfl, rfl, trivial⟩ ⟨e1, hS, by simp [badC, *]⟩ | exact WQ_cut false ⟨rfl, rfl, rfl, trivial⟩ ⟨e1, hS, by simp [badC, *]⟩ | exact WQ_cut _ ⟨rfl, rfl, rfl, trivial⟩ ⟨e1, hS, by simp [badC, *]⟩)
    refine W ?_
    refine WL_eff (OE_call rfl (evs1 rfl) (CNamed_any q.name m _ (hF.up hS) (hS.cell (by simp) hm))) rfl ?_
    rintro _ w3 ⟨rfl, hT⟩
    replace e1 := e1.up hT
    replace hc1 := hc1.up hT
    replace hd1 := hd1.up hT
    replace hS := hS.trans hT
    clear hT
    cases hn_name : namedT q.name with
    | false =>
      repeat' (first | refine W1 ?_ | (exfalso; omega) | refine WL_split rfl rfl (fun hg => ?_) (fun hg => ?_) | refine WL_splitB rfl rfl (fun hg => ?_) (fun hg => ?_) | refine WC_cond rfl (fun hc => ?_) (fun hc => ?_) | refine WC_condB rfl (fun hc => ?_) (fun hc => ?_))
      all_goals (first | exact WQ_cut true ⟨rfl, rfl, rfl, trivial⟩ ⟨e1, hS, by simp [badC, *]⟩ | exact WQ_cut false ⟨rfl, rfl, rfl, trivial⟩ ⟨e1, hS, by simp [badC, *]⟩ | exact WQ_cut _ ⟨rfl, rfl, rfl, trivial⟩ ⟨e1, hS, by simp [badC, *]⟩)
    | true =>
      repeat' (first | refine W1 ?_ | (exfalso; omega) | refine WL_split rfl rfl (fun hg => ?_) (fun hg => ?_) | refine WL_splitB rfl rfl (fun hg => ?_) (fun hg => ?_) | refine WC_cond rfl (fun hc => ?_) (fun hc => ?_) | refine WC_condB rfl (fun hc => ?_) (fun hc => ?_))
      refine W ?_
      refine WL_eff (OE_call rfl (evs1 rfl) (CNamed_any q.on m _ (hF.up hS) (hS.cell (by simp) hm))) rfl ?_
      rintro _ w3 ⟨rfl, hT⟩
      replace e1 := e1.up hT
      replace hc1 := hc1.up hT
      replace hd1 := hd1.up hT
      replace hS := hS.trans hT
      clear hT
      cases hn_on : namedT q.on with
      | false =>
        repeat' (first | refine W1 ?_ | (exfalso; omega) | refine WL_split rfl rfl (fun hg => ?_) (fun hg => ?_) | refine WL_splitB rfl rfl (fun hg => ?_) (fun hg => ?_) | refine WC_cond rfl (fun hc => ?_) (fun hc => ?_) | refine WC_condB rfl (fun hc => ?_) (fun hc => ?_))
        all_goals (first | exact WQ_cut true ⟨rfl, rfl, rfl, trivial⟩ ⟨e1, hS, by simp [badC, *]⟩ | exact WQ_cut false ⟨rfl, rfl, rfl, trivial⟩ ⟨e1, hS, by simp [badC, *]⟩ | exact WQ_cut _ ⟨rfl, rfl, rfl, trivial⟩ ⟨e1, hS, by simp [badC, *]⟩)
      | true =>
        repeat' (first | refine W1 ?_ | (exfalso; omega) | refine WL_split rfl rfl (fun hg => ?_) (fun hg => ?_) | refine WL_splitB rfl rfl (fun hg => ?_) (fun hg => ?_) | refine WC_cond rfl (fun hc => ?_) (fun hc => ?_) | refine WC_condB rfl (fun hc => ?_) (fun hc => ?_))
        · refine W ?_
          refine WL_eff (OE_call rfl (evs1 rfl) (CNamed_any q.unl m _ (hF.up hS) (hS.cell (by simp) hm))) rfl ?_
          rintro _ w3 ⟨rfl, hT⟩
          replace e1 := e1.up hT
          replace hc1 := hc1.up hT
          replace hd1 := hd1.up hT
          replace hS := hS.trans hT
          clear hT
          cases hn_unl : namedT q.unl with
          | false =>
            repeat' (first | refine W1 ?_ | (exfalso; omega) | refine WL_split rfl rfl (fun hg => ?_) (fun hg => ?_) | refine WL_splitB rfl rfl (fun hg => ?_) (fun hg => ?_) | refine WC_cond rfl (fun hc => ?_) (fun hc => ?_) | refine WC_condB rfl (fun hc => ?_) (fun hc => ?_))
            all_goals (first | exact WQ_cut true ⟨rfl, rfl, rfl, trivial⟩ ⟨e1, hS, by simp [badC, *]⟩ | exact WQ_cut false ⟨rfl, rfl, rfl, trivial⟩ ⟨e1, hS, by simp [badC, *]⟩ | exact WQ_cut _ ⟨rfl, rfl, rfl, trivial⟩ ⟨e1, hS, by simp [badC, *]⟩)
          | true =>
            repeat' (first | refine W1 ?_ | (exfalso; omega) | refine WL_split rfl rfl (fun hg => ?_) (fun hg => ?_) | refine WL_splitB rfl rfl (fun hg => ?_) (fun hg => ?_) | refine WC_cond rfl (fun hc => ?_) (fun hc => ?_) | refine WC_condB rfl (fun hc => ?_) (fun hc => ?_))
            · refine W ?_
              refine WL_eff (OE_call rfl (evs1 rfl) (CNamed_any q.els m _ (hF.up hS) (hS.cell (by simp) hm))) rfl ?_
              rintro _ w3 ⟨rfl, hT⟩
              replace e1 := e1.up hT
              replace hc1 := hc1.up hT
              replace hd1 := hd1.up hT
              replace hS := hS.trans hT
              clear hT
              cases hn_els : namedT q.els with
              | false =>
                repeat' (first | refine W1 ?_ | (exfalso; omega) | refine WL_split rfl rfl (fun hg => ?_) (fun hg => ?_) | refine WL_splitB rfl rfl (fun hg => ?_) (fun hg => ?_) | refine WC_cond rfl (fun hc => ?_) (fun hc => ?_) | refine WC_condB rfl (fun hc => ?_) (fun hc => ?_))
                all_goals (first | exact WQ_cut true ⟨rfl, rfl, rfl, trivial⟩ ⟨e1, hS, by simp [badC, *]⟩ | exact WQ_cut false ⟨rfl, rfl, rfl, trivial⟩ ⟨e1, hS, by simp [badC, *]⟩ | exact WQ_cut _ ⟨rfl, rfl, rfl, trivial⟩ ⟨e1, hS, by simp [badC, *]⟩)
              | true =>
                repeat' (first | refine W1 ?_ | (exfalso; omega) | refine WL_split rfl rfl (fun hg => ?_) (fun hg => ?_) | refine WL_splitB rfl rfl (fun hg => ?_) (fun hg => ?_) | refine WC_cond rfl (fun hc => ?_) (fun hc => ?_) | refine WC_condB rfl (fun hc => ?_) (fun hc => ?_))
                all_goals (first | exact WQ_cut true ⟨rfl, rfl, rfl, trivial⟩ ⟨e1, hS, by simp [badC, *]⟩ | exact WQ_cut false ⟨rfl, rfl, rfl, trivial⟩ ⟨e1, hS, by simp [badC, *]⟩ | exact WQ_cut _ ⟨rfl, rfl, rfl, trivial⟩ ⟨e1, hS, by simp [badC, *]⟩)
            all_goals (first | exact WQ_cut true ⟨rfl, rfl, rfl, trivial⟩ ⟨e1, hS, by simp [badC, *]⟩ | exact WQ_cut false ⟨rfl, rfl, rfl, trivial⟩ ⟨e1, hS, by simp [badC, *]⟩ | exact WQ_cut _ ⟨rfl, rfl, rfl, trivial⟩ ⟨e1, hS, by simp [badC, *]⟩)
        · refine W ?_
          refine WL_eff (OE_call rfl (evs1 rfl) (CNamed_any q.els m _ (hF.up hS) (hS.cell (by simp) hm))) rfl ?_
          rintro _ w3 ⟨rfl, hT⟩
          replace e1 := e1.up hT
          replace hc1 := hc1.up hT
          replace hd1 := hd1.up hT
          replace hS := hS.trans hT
          clear hT
          cases hn_els : namedT q.els with
          | false =>
            repeat' (first | refine W1 ?_ | (exfalso; omega) | refine WL_split rfl rfl (fun hg => ?_) (fun hg => ?_) | refine WL_splitB rfl rfl (fun hg => ?_) (fun hg => ?_) | refine WC_cond rfl (fun hc => ?_) (fun hc => ?_) | refine WC_condB rfl (fun hc => ?_) (fun hc => ?_))
            all_goals (first | exact WQ_cut true ⟨rfl, rfl, rfl, trivial⟩ ⟨e1, hS, by simp [badC, *]⟩ | exact WQ_cut false ⟨rfl, rfl, rfl, trivial⟩ ⟨e1, hS, by simp [badC, *]⟩ | exact WQ_cut _ ⟨rfl, rfl, rfl, trivial⟩ ⟨e1, hS, by simp [badC, *]⟩)
          | true =>
            repeat' (first | refine W1 ?_ | (exfalso; omega) | refine WL_split rfl rfl (fun hg => ?_) (fun hg => ?_) | refine WL_splitB rfl rfl (fun hg => ?_) (fun hg => ?_) | refine WC_cond rfl (fun hc => ?_) (fun hc => ?_) | refine WC_condB rfl (fun hc => ?_) (fun hc => ?_))
            all_goals (first | exact WQ_cut true ⟨rfl, rfl, rfl, trivial⟩ ⟨e1, hS, by simp [badC, *]⟩ | exact WQ_cut false ⟨rfl, rfl, rfl, trivial⟩ ⟨e1, hS, by simp [badC, *]⟩ | exact WQ_cut _ ⟨rfl, rfl, rfl, trivial⟩ ⟨e1, hS, by simp [badC, *]⟩)
        all_goals (first | exact WQ_cut true ⟨rfl, rfl, rfl, trivial⟩ ⟨e1, hS, by simp [badC, *]⟩ | exact WQ_cut false ⟨rfl, rfl, rfl, trivial⟩ ⟨e1, hS, by simp [badC, *]⟩ | exact WQ_cut _ ⟨rfl, rfl, rfl, trivial⟩ ⟨e1, hS, by simp [badC, *]⟩)
  rintro u w4 ⟨e1, hS, hu⟩
  try dsimp only at hu ⊢
  unfold chkC
  rw [← hu]
  cases u with
  | true =>
    repeat' (first | refine W1 ?_ | (exfalso; omega) | refine WL_split rfl rfl (fun hg => ?_) (fun hg => ?_) | refine WL_splitB rfl rfl (fun hg => ?_) (fun hg => ?_) | refine WC_cond rfl (fun hc => ?_) (fun hc => ?_) | refine WC_condB rfl (fun hc => ?_) (fun hc => ?_))
    first | refine WQ_ret1 rfl rfl ?_ | refine WQ_ret2 rfl rfl rfl ?_ | refine WQ_ret3 rfl rfl rfl rfl ?_ | refine WQ_ret0 rfl ?_ | refine WQ_end0 rfl ?_
    exact .mk ⟨rfl, hS⟩
  | false =>
    repeat' (first | refine W1 ?_ | (exfalso; omega) | refine WL_split rfl rfl (fun hg => ?_) (fun hg => ?_) | refine WL_splitB rfl rfl (fun hg => ?_) (fun hg => ?_) | refine WC_cond rfl (fun hc => ?_) (fun hc => ?_) | refine WC_condB rfl (fun hc => ?_) (fun hc => ?_))
    first | refine WQ_ret1 rfl rfl ?_ | refine WQ_ret2 rfl rfl rfl ?_ | refine WQ_ret3 rfl rfl rfl rfl ?_ | refine WQ_ret0 rfl ?_ | refine WQ_end0 rfl ?_
    exact .mk ⟨rfl, hS⟩
end Go.Proofs.YtgpibcgebpgmiaaDoor


namespace Go.Proofs.YtgpibcgebpgmiaaDoor
open Go Go.Eng Go.RowKit
set_option linter.unusedVariables false
/-- a code as numbers -/
def flatF (l : List Ins) : List Int := l.flatMap fun x => [x.op, x.n]
theorem flatF_len (l : List Ins) : (flatF l).length = 2 * l.length := by
  unfold flatF
  induction l with
  | nil => rfl
  | cons a l ih => simp only [List.flatMap_cons, List.length_append, List.length_cons, List.length_nil, ih]; omega
theorem flatF_succ (l : List Ins) (j : Nat) (h : j < l.length) : flatF (l.take (j + 1)) = flatF (l.take j) ++ [l[j].op, l[j].n] := by
  unfold flatF
  rw [List.take_succ_eq_append_getElem h, List.flatMap_append]
  simp
theorem Flat_any (v : Value) (l : List Ins) (w : World) (hlen : l.length ≤ 100000) (hs : SlV [] w v l) :
    Calls Tryd.prog 58 #[v] w (Ret fun r w' => Row [] w' w.heap.size 3 r (flatF l) ∧ Stp [] w w') := by
  have hmax := hs.max
  refine calls_of_WC1 (n := 21) Tryd.func58 rfl rfl rfl ?_
  refine W ?_
  have hs0 := hs
  refine WC_loop (σ := Nat × Value) (fun q => [(3, q.2), (6, v), (7, .int .i64 (l.length : Int)), (8, .int .i64 (q.1 : Int))]) (fun q w' => q.1 ≤ l.length ∧ Row [] w' w.heap.size 3 q.2 (flatF (l.take q.1)) ∧ Stp [] w w') (fun q => l.length - q.1) (0, .slice none 0 0) ⟨rfl, rfl, rfl, rfl, trivial⟩ ⟨Nat.zero_le _, Row.nil, Stp.refl _ _⟩ ?_
  clear hs
  rintro ⟨j, u⟩ w2 ⟨hj, hrow, hS⟩
  dsimp only at hj hrow ⊢
  have hs := hs0.up hS
  by_cases hlt : j < l.length
  · repeat' (first | refine W1 ?_ | (exfalso; omega) | refine WL_split rfl rfl (fun hg => ?_) (fun hg => ?_) | refine WL_splitB rfl rfl (fun hg => ?_) (fun hg => ?_) | refine WC_cond rfl (fun hc => ?_) (fun hc => ?_) | refine WC_condB rfl (fun hc => ?_) (fun hc => ?_))
    refine WL_eff OE_alloc rfl ?_
    rintro _ w3 ⟨b5, rfl, hb5, e0, hT⟩
    refine WL_eff0 (OE_storeA (us := Flat.enc l[j]) rfl rfl rfl rfl (Flat.one _) e0 rfl) ?_
    rintro _ w4 ⟨hT2, e5⟩
    replace hT := hT.own hT2 (fun b hb => .inr (by simp at hb; omega))
    clear hT2 e0 hb5
    replace hrow := hrow.up hT
    replace hS := hS.trans hT
    clear hT
    refine W ?_
    refine WL_eff (OE_buildSlice (vs := [(0, .int .i64 l[j].op), (1, .int .i64 l[j].n)]) rfl (buildSI2 _ _)) rfl ?_
    rintro bv w5 hN
    have hbv : SlV (ob u ++ []) w5 bv [l[j].op, l[j].n] := hN.slv (fun b hb => (hrow.ob_le b (by simpa using hb)).2) rfl rfl (by simp [maxLen])
    have hT := NewSl.stp hN
    clear hN
    replace hrow := hrow.up hT
    replace hS := hS.trans hT
    clear hT
    have hbase := hS.size
    have hfl := flatF_len (l.take j)
    rw [List.length_take, Nat.min_eq_left hj] at hfl
    refine WL_eff (OE_append (X := []) (base := w.heap.size) rfl (by decide) rfl rfl hrow hbv (by simp only [List.length_cons, List.length_nil]; omega) (by simp only [List.length_cons, List.length_nil, maxLen]; omega) hbase) rfl ?_
    rintro u' w6 ⟨hrow', hT, _⟩
    have hown : ∀ b ∈ ob u, b ∈ ([] : List Nat) ∨ w.heap.size ≤ b := fun c hc => .inr (hrow.ob_le c hc).1
    refine W ?_
    exact WQ_loop (j + 1, u') ⟨rfl, rfl, rfl, rfl, trivial⟩ ⟨hlt, by dsimp only; rw [flatF_succ l j hlt]; exact hrow', hS.own hT hown⟩ (by dsimp only; omega)
  · have hje : j = l.length := by omega
    subst hje
    rw [List.take_length] at hrow
    repeat' (first | refine W1 ?_ | (exfalso; omega) | refine WL_split rfl rfl (fun hg => ?_) (fun hg => ?_) | refine WL_splitB rfl rfl (fun hg => ?_) (fun hg => ?_) | refine WC_cond rfl (fun hc => ?_) (fun hc => ?_) | refine WC_condB rfl (fun hc => ?_) (fun hc => ?_))
    first | refine WQ_ret1 rfl rfl ?_ | refine WQ_ret2 rfl rfl rfl ?_ | refine WQ_ret3 rfl rfl rfl rfl ?_ | refine WQ_ret0 rfl ?_ | refine WQ_end0 rfl ?_
    exact .mk ⟨hrow, hS⟩
end Go.Proofs.YtgpibcgebpgmiaaDoor


/-
The walk engine, part 18: numbers of other kinds: conversions, bits, shifts; strings out of bytes; append of a string to bytes.
-/
namespace Go.Eng
open Go Go.RowKit Go.Proofs
set_option linter.unusedVariables false
section
variable {P : Program} {n : Nat} {e : Env} {w : World} {d : Option Nat} {ty : TypeId} {pos : String} {af : Array Edge} {g : Option (Nat × Bool)}
theorem PR_conv {src dst : TypeId} {k k' : IntKind} {x : Operand} {a : Int} {D : TypeDesc} [hs : Und P src D] [hd : Und P dst (.int k)] (hx : ev e x = some (.int k' a)) :
    PR P n ⟨d, .convert src dst x, ty, pos, af, g⟩ e w (.int k (k.wrap a)) :=
  ⟨fun c ha => by
    have hk : P.intKind dst = k := by simp [Program.intKind, hd.h]
    have := run_convert_int (P := P) w src dst k' a (by rw [hs.h]; rfl) (by rw [hk]; exact hd.h)
    simp [execOp, ha.ev hx, this, hk]⟩
theorem PR_convTo {src dst : TypeId} {k k' : IntKind} {x : Operand} {a b : Int} {D : TypeDesc} [hs : Und P src D] [hd : Und P dst (.int k)] (hx : ev e x = some (.int k' a)) (hb : k.wrap a = b) :
    PR P n ⟨d, .convert src dst x, ty, pos, af, g⟩ e w (.int k b) := hb ▸ PR_conv hx
section
variable {x y : Operand} {t u : TypeId} {k : IntKind} {a b : Int}
theorem PR_and (hx : ev e x = some (.int k a)) (hy : ev e y = some (.int k b)) {r : Int} (hr : Go.bits .and k a b = r) : PR P n ⟨d, .binOp .and t x y u, ty, pos, af, g⟩ e w (.int k r) :=
  ⟨fun c ha => by simp only [execOp, ha.ev hx, ha.ev hy]; simp [go_sem, hr]⟩
theorem PR_or (hx : ev e x = some (.int k a)) (hy : ev e y = some (.int k b)) {r : Int} (hr : Go.bits .or k a b = r) : PR P n ⟨d, .binOp .or t x y u, ty, pos, af, g⟩ e w (.int k r) :=
  ⟨fun c ha => by simp only [execOp, ha.ev hx, ha.ev hy]; simp [go_sem, hr]⟩
theorem PR_xor (hx : ev e x = some (.int k a)) (hy : ev e y = some (.int k b)) {r : Int} (hr : Go.bits .xor k a b = r) : PR P n ⟨d, .binOp .xor t x y u, ty, pos, af, g⟩ e w (.int k r) :=
  ⟨fun c ha => by simp only [execOp, ha.ev hx, ha.ev hy]; simp [go_sem, hr]⟩
theorem PR_shl {yk : IntKind} {s : Nat} (hx : ev e x = some (.int k a)) (hy : ev e y = some (.int yk (s : Int))) (hs : s ≤ k.bits) {r : Int} (hr : k.wrap (a * 2 ^ s) = r) : PR P n ⟨d, .binOp .shl t x y u, ty, pos, af, g⟩ e w (.int k r) :=
  ⟨fun c ha => by
    have h := shift_shl k yk a (s : Int) (by omega) (by omega)
    rw [Int.toNat_natCast, hr] at h
    simp only [execOp, ha.ev hx, ha.ev hy]
    simp [go_sem, binOp, h]⟩
theorem PR_shr {yk : IntKind} {s : Nat} (hx : ev e x = some (.int k a)) (hy : ev e y = some (.int yk (s : Int))) (hs : s ≤ k.bits) {r : Int} (hr : a / 2 ^ s = r) : PR P n ⟨d, .binOp .shr t x y u, ty, pos, af, g⟩ e w (.int k r) :=
  ⟨fun c ha => by
    have h := shift_shr k yk a (s : Int) (by omega) (by omega)
    rw [Int.toNat_natCast, hr] at h
    simp only [execOp, ha.ev hx, ha.ev hy]
    simp [go_sem, binOp, h]⟩
end
/-- bytes as the cells of a string -/
theorem strCells_enc (s : Str) : Lib.strCells ⟨s.toArray⟩ = s.flatMap Flat.enc := by
  show s.map _ = _
  induction s with
  | nil => rfl
  | cons b s ih => rw [List.map_cons, ih, List.flatMap_cons]; rfl

theorem append_blockT {t tu T base : Nat} {i : TypeInfo} (ht : P.underlying t = some (.slice T)) (hu : P.underlying tu = some .string) (hi : P.info? T = some i) (hz : i.zero = some (.int .u8 0))
    (hsize : i.size = 1) (hby : i.bytes = 1) {v : Value} {m : Nat} {xs : List Value} (hown : w.ownsRow base T 1 v m xs) (s : ByteArray) (hlen : m + s.size ≤ 140737488355328) {v' : Value} {w' : World}
    (hr : (Builtin.append_ #[t, tu] ty #[v, .string s]).run P w = .ok v' w') : ∀ b ∈ ob v', b ∈ ob v ∨ w.heap.size ≤ b := by
  have hxl : xs.length = m := by simpa using hown.1
  rcases hown.2 with ⟨rfl, rfl⟩ | ⟨g, cap, cur, rfl, hbg, hg, hnc, hcm, hcs, htake⟩
  · by_cases hm : s.size = 0
    · have hf := Lib.run_firstCells_string (P := P) w 1 s
      rw [hm] at hf
      have : (Builtin.append_ #[t, tu] ty #[.slice none 0 0, .string s]).run P w = .ok (.slice none 0 0) w := by
        simp [Builtin.append_, run_underlying ht, run_underlying hu, sizeOf, typeInfo, hi, hsize, Builtin.lenOf, hm, hf]
      rw [this] at hr
      cases hr
      simp [ob]
    · have h := run_append_nil_string (P := P) w t tu ty T i (.int .u8 0) ht hu hi hz s (by omega) (by omega) (by rw [hby]; omega)
      rw [h] at hr
      cases hr
      simp [ob]
  · by_cases hroom : m + s.size ≤ cap
    · have hcs' : cur.size = cap := by simpa using hcs
      have h := Lib.run_append_room_string (P := P) w t tu ty T i ht hu hi hsize g m cap cur hg s hroom (by omega)
      rw [h] at hr
      cases hr
      simp [ob]
    · have holds : ∀ j u, xs[j]? = some u → w.cell? ((⟨g, 0, none⟩ : Addr).add j) = some u := hown.cells (g := g) rfl
      have h := Lib.run_append_grow_string (P := P) w t tu ty T i (.int .u8 0) ht hu hi hz ⟨g, 0, none⟩ m cap xs (by rw [hsize]; simpa using hxl) holds s (by omega) (by omega) (by rw [hby]; exact growslice_fits (by omega) (by omega))
      rw [h] at hr
      cases hr
      simp [ob]
/-- append of a string to a row of bytes -/
theorem OE_appendT {t tu T base : Nat} {X : List Nat} {x y : Operand} {v : Value} {xs : List UInt8} {s : Str} [ht : Und P t (.slice T)] [hu : Und P tu .string] [hk : Siz P T 1] [hb : Byt P T 1] [hz : Zer P T (.int .u8 0)]
    (hx : ev e x = some v) (hy : ev e y = some (str s)) (hrow : Row X w base T v xs) (hlen : xs.length + s.length ≤ 140737488355328) (hbase : base ≤ w.heap.size) :
    OE P n ⟨d, .call { callee := .builtin .append, args := #[x, y], argTypes := #[t, tu] }, ty, pos, af, g⟩ e w (fun v' w' => Row X w' base T v' (xs ++ s) ∧ Stp (ob v) w w' ∧ ∀ b ∈ ob v', b ∈ ob v ∨ w.heap.size ≤ b) := by
  obtain ⟨i, hi, hi1, hi2, hi3⟩ : ∃ i, P.info? T = some i ∧ i.size = 1 ∧ i.bytes = 1 ∧ i.zero = some (.int .u8 0) := by
    have a1 := hk.h
    have a2 := hb.h
    have a3 := hz.h
    cases hi : P.info? T with
    | none => simp [hi] at a1
    | some i => exact ⟨i, rfl, by simpa [hi] using a1, by simpa [hi] using a2, by simpa [hi] using a3⟩
  obtain ⟨css, hl, hr, ho⟩ := hrow
  have hcss : css = xs.map Flat.enc := by
    apply List.ext_getElem (by simp [hl])
    intro i h1 h2
    have : css[i] = Flat.enc xs[i] := hr i (by omega) h1
    simpa using this
  subst hcss
  have hsz : (⟨s.toArray⟩ : ByteArray).size = s.length := str_size s
  obtain ⟨v', w', hrun, h1, h2, h3⟩ := Lib.run_append_own_string (P := P) w base t tu ty T i ht.h hu.h hi hi3 hi1 hi2 v xs.length _ ho ⟨s.toArray⟩ (by rw [hsz]; unfold maxLen; omega) (by rw [hsz]; omega) hbase
  rw [hsz, strCells_enc] at h1
  have hblk := append_blockT (P := P) ht.h hu.h hi hi3 hi1 hi2 ho ⟨s.toArray⟩ (by rw [hsz]; exact hlen) hrun
  have hS : Stp (ob v) w w' := by rw [← ob_own]; exact Stp.of_grown h2
  refine OE_value (v := v') (w' := w') (fun a ha => ?_) ⟨⟨(xs ++ s).map Flat.enc, by simp, fun i hi hi' => (List.getElem_map _ : ((xs ++ s).map Flat.enc)[i] = Flat.enc (xs ++ s)[i]), ?_⟩, hS, hblk⟩
  · simp [execOp, resolve, invoke, builtin, ha.ev hx, ha.ev hy, hrun]
  · have e1 : ((xs ++ s).map Flat.enc).flatten = (xs.map Flat.enc).flatten ++ s.flatMap Flat.enc := by rw [List.map_append, List.flatten_append, List.flatMap_def]
    rw [e1, List.length_append]
    exact h1

theorem PR_eqlNil {t u el : TypeId} {x y : Operand} {p : Option Addr} {l c : Nat} [hu : Und P t (.slice el)] (hx : ev e x = some (.slice p l c)) (hy : ev e y = some (.slice none 0 0)) :
    PR P n ⟨d, .binOp .eql t x y u, ty, pos, af, g⟩ e w (.bool p.isNone) :=
  ⟨fun a ha => by
    have h := run_equal_slice_nil (P := P) w t el p l c hu.h
    simp only [execOp, ha.ev hx, ha.ev hy]
    simp [go_sem, binOp, h]⟩
/-- a string of bytes -/
theorem PR_convB {src dst el : TypeId} {x : Operand} {v : Value} {X : List Nat} {xs : List UInt8} [hs : Und P src (.slice el)] [hd : Und P dst .string] [he : Und P el (.int .u8)] (hx : ev e x = some v) (hv : SlV X w v xs) :
    PR P n ⟨d, .convert src dst x, ty, pos, af, g⟩ e w (str xs) := by
  obtain ⟨p, c, rfl, hl, hm, hn, hc⟩ := hv
  refine ⟨fun a ha => ?_⟩
  have key : (convert src dst (.slice p xs.length c)).run P w = .ok (str xs) w := by
    cases p with
    | none =>
      have hx0 : xs = [] := by
        cases xs with
        | nil => rfl
        | cons b r =>
          obtain ⟨_, _, _, h, _⟩ := hc 0 (by simp)
          cases h
      subst hx0
      have := run_convert_bytes_nil (P := P) w src el hs.h he.h 0 c dst hd.h
      rw [List.length_nil, this]
      rfl
    | some a =>
      by_cases hx0 : xs = []
      · subst hx0
        have hl0 : (loadCells a 0).run P w = .ok ((([] : List Int).map (Value.int .u8)).toArray) w := by simp [loadCells, loadCellsFrom]
        have h2 := run_bytesToString (P := P) w a 0 c [] hl0
        rw [List.length_nil, run_convert_bytes_string w src dst el _ 0 c hs.h he.h hd.h, h2]
        rfl
      · have h0 : 0 < xs.length := List.length_pos_iff.2 hx0
        obtain ⟨b, o, cs, hp, _⟩ := hc 0 h0
        simp only [Option.some.injEq] at hp
        subst hp
        have h2 := run_convert_bytes_arg (P := P) w src el hs.h he.h b o xs.length c (xs.map fun x => (x.toNat : Int)) (by simp) (fun i hi => by
          obtain ⟨b', o', cs', hp', _, _, hr, hcell⟩ := hc i hi
          simp only [Option.some.injEq, Addr.mk.injEq, and_true] at hp'
          obtain ⟨rfl, rfl⟩ := hp'
          have hr' : cs' = Flat.enc xs[i] := hr
          subst hr'
          have := hcell 0 (.int .u8 (xs[i].toNat : Int)) rfl
          rw [show o + i * GoRep.k UInt8 + 0 = o + i by show o + i * 1 + 0 = o + i; omega] at this
          rw [this]
          simp [List.getD, List.getElem?_eq_getElem hi]) dst hd.h
        rw [h2]
        congr 2
        simp only [strOfNums, List.map_map]
        congr 2
        conv => rhs; rw [← List.map_id xs]
        apply List.map_congr_left
        intro x _
        simp
  simp [execOp, ha.ev hx, key]
end
end Go.Eng


/-
The bytes of an encoding: plain Lean.
-/
namespace Go.Eng
open Go
/-- the encoding of an unsigned number: seven bits to a byte -/
def uintB (n : Nat) : List UInt8 := if n < 128 then [UInt8.ofNat n] else UInt8.ofNat (128 + n % 128) :: uintB (n / 128)
termination_by n
decreasing_by omega
theorem uintB_lo {n : Nat} (h : n < 128) : uintB n = [UInt8.ofNat n] := by rw [uintB, if_pos h]
theorem uintB_hi {n : Nat} (h : 128 ≤ n) : uintB n = UInt8.ofNat (128 + n % 128) :: uintB (n / 128) := by rw [uintB, if_neg (by omega)]
theorem uintB_pos (n : Nat) : 1 ≤ (uintB n).length := by
  rw [uintB]
  split <;> simp
theorem uintB_len (k : Nat) : ∀ n, n < 128 ^ (k + 1) → (uintB n).length ≤ k + 1 := by
  induction k with
  | zero => intro n h; rw [uintB_lo (by simpa using h)]; simp
  | succ k ih =>
    intro n h
    by_cases hn : n < 128
    · rw [uintB_lo hn]; simp
    · rw [uintB_hi (by omega)]
      have := ih (n / 128) (by rw [Nat.pow_succ] at h; exact Nat.div_lt_of_lt_mul (by rw [Nat.mul_comm]; exact h))
      simp only [List.length_cons]
      omega
theorem uintB_len10 {n : Nat} (h : n < 18446744073709551616) : (uintB n).length ≤ 10 := uintB_len 9 n (by omega)
/-- the unsigned number of a number -/
def zigN (z : Int) : Nat := if z < 0 then 2 * (-(z + 1)).toNat + 1 else 2 * z.toNat
theorem zigN_lt {z : Int} (h : I64 z) : zigN z < 18446744073709551616 := by
  unfold I64 at h
  unfold zigN
  split <;> omega
def intB (z : Int) : List UInt8 := uintB (zigN z)
def textB (s : Str) : List UInt8 := uintB s.length ++ s
def intsB (l : List Int) : List UInt8 := uintB l.length ++ l.flatMap intB
theorem intB_len {z : Int} (h : I64 z) : (intB z).length ≤ 10 := uintB_len10 (zigN_lt h)
theorem flatMap_intB_len (l : List Int) (h : ∀ z ∈ l, I64 z) : (l.flatMap intB).length ≤ 10 * l.length := by
  induction l with
  | nil => simp
  | cons z l ih =>
    have h1 := intB_len (h z (by simp))
    have h2 := ih (fun z hz => h z (by simp [hz]))
    simp only [List.flatMap_cons, List.length_append, List.length_cons]
    omega
theorem or128 : ∀ c : Fin 256, (c.val ||| 128) = 128 + c.val % 128 := by decide +kernel
theorem or_u8 (n : Nat) : Go.bits .or .u8 ((n : Int) % 256) 128 = ((UInt8.ofNat (128 + n % 128)).toNat : Int) := by
  have h1 : ((n : Int) % 256) = ((n % 256 : Nat) : Int) := by omega
  rw [h1, show (128 : Int) = ((128 : Nat) : Int) from rfl, u8_or_nat _ _ (by omega) (by omega)]
  have h2 := or128 ⟨n % 256, by omega⟩
  simp only at h2
  rw [h2]
  simp only [UInt8.toNat_ofNat']
  omega
theorem byte_wrap (n : Nat) : IntKind.u8.wrap (n : Int) = (n : Int) % 256 := IntKind.wrap_u8' _
theorem wrap_u64_of {z : Int} (h0 : 0 ≤ z) (h : z < 18446744073709551616) : IntKind.u64.wrap z = z := by
  rw [IntKind.wrap_u64]
  omega
theorem byte_nat (n : Nat) (h : n < 256) : ((UInt8.ofNat n).toNat : Int) = (n : Int) := by
  rw [UInt8.toNat_ofNat']
  omega
theorem xor_ones (a : Nat) (ha : a < 18446744073709551616) : Go.bits .xor .u64 (a : Int) 18446744073709551615 = ((18446744073709551615 - a : Nat) : Int) := by
  have h1 : (BitVec.ofInt 64 (a : Int)).toNat = a := by
    rw [BitVec.ofInt_natCast, BitVec.toNat_ofNat]; exact Nat.mod_eq_of_lt (by omega)
  have h2 : BitVec.ofInt 64 (18446744073709551615 : Int) = BitVec.allOnes 64 := by decide
  show IntKind.u64.wrap ((BitVec.ofInt 64 (a : Int) ^^^ BitVec.ofInt 64 (18446744073709551615 : Int)).toNat : Int) = _
  rw [h2, BitVec.xor_allOnes, BitVec.toNat_not, h1, IntKind.wrap_u64]
  omega
/-- (n << 1) ^ (n >> 63) -/
theorem zig_bits {z : Int} (h : I64 z) : Go.bits .xor .u64 (IntKind.u64.wrap (IntKind.u64.wrap z * 2 ^ 1)) (IntKind.u64.wrap (z / 2 ^ 63)) = ((zigN z : Nat) : Int) := by
  unfold I64 at h
  simp only [IntKind.wrap_u64]
  by_cases hz : z < 0
  · have e1 : z % 18446744073709551616 = z + 18446744073709551616 := by omega
    have e2 : (z + 18446744073709551616) * 2 ^ 1 % 18446744073709551616 = ((2 * z + 18446744073709551616).toNat : Int) := by omega
    have e3 : z / 2 ^ 63 % 18446744073709551616 = 18446744073709551615 := by omega
    rw [e1, e2, e3, xor_ones _ (by omega)]
    unfold zigN
    rw [if_pos hz]
    omega
  · have e1 : z % 18446744073709551616 = z := by omega
    have e2 : z * 2 ^ 1 % 18446744073709551616 = ((2 * z.toNat : Nat) : Int) := by omega
    have e3 : z / 2 ^ 63 % 18446744073709551616 = ((0 : Nat) : Int) := by omega
    rw [e1, e2, e3, bits_xor_u64_nat _ _ (by omega) (by omega)]
    unfold zigN
    rw [if_neg hz]
    simp
end Go.Eng


namespace Go.Proofs.YtgpibcgebpgmiaaDoor
open Go Go.Eng Go.RowKit
set_option linter.unusedVariables false
/-- a writer: its block, its row of bytes -/
structure Wr (w : World) (bc base : Nat) (v : Value) (xs : List UInt8) : Prop where
  blk : Blk w bc 93 [v]
  row : Row [] w base 5 v xs
  apart : bc ∉ ob v
  low : bc < base
  top : base ≤ w.heap.size
/-- what a method of the writer leaves -/
def Wrs (w : World) (bc base : Nat) (v : Value) (ys : List UInt8) (w' : World) : Prop :=
  ∃ v', Wr w' bc base v' ys ∧ Stp (bc :: ob v) w w' ∧ ∀ b ∈ ob v', b ∈ ob v ∨ w.heap.size ≤ b
theorem Wr.up {w w' : World} {bc base : Nat} {v : Value} {xs : List UInt8} (h : Wr w bc base v xs) (hS : Stp [] w w') : Wr w' bc base v xs :=
  ⟨h.blk.up hS, h.row.up hS, h.apart, h.low, Nat.le_trans h.top hS.size⟩
theorem Wrs.pre {w0 w w' : World} {bc base : Nat} {v : Value} {ys : List UInt8} (hS : Stp [] w0 w) (h : Wrs w bc base v ys w') : Wrs w0 bc base v ys w' := by
  obtain ⟨v', h1, h2, h3⟩ := h
  exact ⟨v', h1, (hS.mono (by simp)).trans h2, fun b hb => (h3 b hb).imp id (fun h => Nat.le_trans hS.size h)⟩
theorem Wrs.post {w w1 w' : World} {bc base : Nat} {v : Value} {ys : List UInt8} (h : Wrs w bc base v ys w1) (hS : Stp [] w1 w') : Wrs w bc base v ys w' := by
  obtain ⟨v', h1, h2, h3⟩ := h
  exact ⟨v', h1.up hS, h2.trans (hS.mono (by simp)), h3⟩
/-- one after another -/
theorem Wrs.next {w w1 w2 : World} {bc base : Nat} {v v1 : Value} {zs : List UInt8} (hS : Stp (bc :: ob v) w w1) (hb : ∀ b ∈ ob v1, b ∈ ob v ∨ w.heap.size ≤ b) (h : Wrs w1 bc base v1 zs w2) : Wrs w bc base v zs w2 := by
  obtain ⟨v', h1, h2, h3⟩ := h
  refine ⟨v', h1, ?_, fun b hb' => ?_⟩
  · exact hS.own h2 (fun b hb' => by
      rcases List.mem_cons.1 hb' with rfl | h
      · exact .inl (by simp)
      · exact (hb b h).imp (fun h => List.mem_cons_of_mem _ h) id)
  · rcases h3 b hb' with h | h
    · exact hb b h
    · exact .inr (Nat.le_trans hS.size h)
theorem buildB1 (b : UInt8) (w : World) : (Instr.buildSlice 38 1 #[(0, .int .u8 (b.toNat : Int))]).run Tryd.prog w = .ok (.slice (some ⟨w.heap.size, 0, none⟩) 1 1) (w.alloc (.cells (Flat.enc b).toArray 5)) := by kernel_rfl
/-- the step of every method: the byte is appended, the row is stored -/
theorem Wr.stored {w w1 w2 : World} {bc base : Nat} {v v' : Value} {xs ys : List UInt8} (h : Wr w bc base v xs) (hrow : Row [] w1 base 5 v' ys) (hS : Stp (ob v) w w1) (hb : ∀ b ∈ ob v', b ∈ ob v ∨ w.heap.size ≤ b)
    (hS2 : Stp [bc] w1 w2) (hblk : Blk w2 bc 93 [v']) : Wrs w bc base v ys w2 := by
  have hap : bc ∉ ob v' := fun hx => by
    rcases hb bc hx with h1 | h1
    · exact h.apart h1
    · have := h.blk.lt; omega
  refine ⟨v', ⟨hblk, hrow.keep hS2 (by simpa using hap), hap, h.low, Nat.le_trans h.top (Nat.le_trans hS.size hS2.size)⟩, ?_, hb⟩
  exact (hS.mono (fun x hx => List.mem_cons_of_mem _ hx)).trans (hS2.mono (by simp))
theorem Uint_any (bc base : Nat) (v : Value) (xs : List UInt8) (n : Nat) (w : World) (hn : n < 18446744073709551616) (hc : Wr w bc base v xs) (hl : xs.length ≤ 70368744177664) :
    Calls Tryd.prog 91 #[.pointer (some ⟨bc, 0, none⟩), .int .u64 (n : Int)] w (Ret fun r w' => r = .tuple #[] ∧ Wrs w bc base v (xs ++ uintB n) w') := by
  have hub := uintB_len10 hn
  refine calls_of_WC2 (n := 35) Tryd.func91 rfl rfl rfl ?_
  refine W ?_
  refine WC_loop (σ := Nat × Value × List UInt8) (fun q => [(0, .pointer (some ⟨bc, 0, none⟩)), (1, .int .u64 (q.1 : Int))]) (fun q w' => q.1 < 18446744073709551616 ∧ q.2.2 ++ uintB q.1 = xs ++ uintB n ∧ Wr w' bc base q.2.1 q.2.2 ∧ Stp (bc :: ob v) w w' ∧ ∀ b ∈ ob q.2.1, b ∈ ob v ∨ w.heap.size ≤ b) (fun q => q.1) (n, v, xs) ⟨rfl, rfl, trivial⟩ ⟨hn, rfl, hc, Stp.refl _ _, fun b hb => .inl hb⟩ ?_
  rintro ⟨m, u, ys⟩ w2 ⟨hm, heq, hW, hS, hob⟩
  dsimp only at hm heq hW hS hob ⊢
  have hlen := congrArg List.length heq
  simp only [List.length_append] at hlen
  have hup := uintB_pos m
  have hblk := hW.blk
  by_cases hlt : 128 ≤ m
  · repeat' (first | refine W1 ?_ | (exfalso; omega) | refine WL_split rfl rfl (fun hg => ?_) (fun hg => ?_) | refine WL_splitB rfl rfl (fun hg => ?_) (fun hg => ?_) | refine WC_cond rfl (fun hc => ?_) (fun hc => ?_) | refine WC_condB rfl (fun hc => ?_) (fun hc => ?_))
    refine WL_pure (PR_conv rfl) rfl ?_
    rw [byte_wrap m]
    refine WL_pure (PR_or rfl rfl (or_u8 m)) rfl ?_
    refine WL_eff (OE_buildSlice (vs := [(0, .int .u8 ((UInt8.ofNat (128 + m % 128)).toNat : Int))]) rfl (buildB1 _)) rfl ?_
    rintro bv w3 hN
    have hbv : SlV (ob u ++ []) w3 bv [(UInt8.ofNat (128 + m % 128))] := hN.slv (fun b hb => (hW.row.ob_le b (by simpa using hb)).2) rfl rfl (by simp [maxLen])
    have hT := NewSl.stp hN
    clear hN
    have hW3 := hW.up hT
    have hblk3 := hW3.blk
    refine WL_eff (OE_append (X := []) (base := base) rfl (by decide) rfl rfl hW3.row hbv (by simp only [List.length_cons, List.length_nil]; omega) (by simp only [List.length_cons, List.length_nil, maxLen]; omega) hW3.top) rfl ?_
    rintro u' w4 ⟨hrow4, hT4, hob4⟩
    have hblk4 := hblk3.ext hT4 hW3.apart
    refine W ?_
    refine WL_eff0 (OE_store1 (u := u') rfl rfl hrow4.slv0.cells hrow4.slv0.one hblk4 (by simp)) ?_
    rintro _ w5 ⟨hT5, hblk5⟩
    have hst := (hW3.stored hrow4 hT4 hob4 hT5 hblk5).pre hT
    clear hblk4 hblk3 hblk
    refine W ?_
    refine WL_pure (PR_shr (s := 7) (r := ((m / 128 : Nat) : Int)) rfl rfl (by decide) (by omega)) rfl ?_
    refine W ?_
    obtain ⟨v', k1, k2, k3⟩ := hst.next hS hob
    exact WQ_loop (m / 128, v', ys ++ [UInt8.ofNat (128 + m % 128)]) ⟨rfl, rfl, trivial⟩ ⟨by dsimp only; omega, by dsimp only; rw [← heq, uintB_hi hlt, List.append_assoc]; rfl, k1, k2, k3⟩ (by dsimp only; omega)
  · repeat' (first | refine W1 ?_ | (exfalso; omega) | refine WL_split rfl rfl (fun hg => ?_) (fun hg => ?_) | refine WL_splitB rfl rfl (fun hg => ?_) (fun hg => ?_) | refine WC_cond rfl (fun hc => ?_) (fun hc => ?_) | refine WC_condB rfl (fun hc => ?_) (fun hc => ?_))
    refine WL_pure (PR_convTo (b := ((UInt8.ofNat m).toNat : Int)) rfl (by rw [byte_wrap m, byte_nat m (by omega)]; omega)) rfl ?_
    refine WL_eff (OE_buildSlice (vs := [(0, .int .u8 ((UInt8.ofNat m).toNat : Int))]) rfl (buildB1 _)) rfl ?_
    rintro bv w3 hN
    have hbv : SlV (ob u ++ []) w3 bv [(UInt8.ofNat m)] := hN.slv (fun b hb => (hW.row.ob_le b (by simpa using hb)).2) rfl rfl (by simp [maxLen])
    have hT := NewSl.stp hN
    clear hN
    have hW3 := hW.up hT
    have hblk3 := hW3.blk
    refine WL_eff (OE_append (X := []) (base := base) rfl (by decide) rfl rfl hW3.row hbv (by simp only [List.length_cons, List.length_nil]; omega) (by simp only [List.length_cons, List.length_nil, maxLen]; omega) hW3.top) rfl ?_
    rintro u' w4 ⟨hrow4, hT4, hob4⟩
    have hblk4 := hblk3.ext hT4 hW3.apart
    refine W ?_
    refine WL_eff0 (OE_store1 (u := u') rfl rfl hrow4.slv0.cells hrow4.slv0.one hblk4 (by simp)) ?_
    rintro _ w5 ⟨hT5, hblk5⟩
    have hst := (hW3.stored hrow4 hT4 hob4 hT5 hblk5).pre hT
    clear hblk4 hblk3 hblk
    refine W ?_
    first | refine WQ_ret1 rfl rfl ?_ | refine WQ_ret2 rfl rfl rfl ?_ | refine WQ_ret3 rfl rfl rfl rfl ?_ | refine WQ_ret0 rfl ?_ | refine WQ_end0 rfl ?_
    refine .mk ⟨rfl, ?_⟩
    have h := hst.next hS hob
    rwa [← uintB_lo (by omega), heq] at h
end Go.Proofs.YtgpibcgebpgmiaaDoor


namespace Go.Proofs.YtgpibcgebpgmiaaDoor
open Go Go.Eng Go.RowKit
set_option linter.unusedVariables false
theorem Int_any (bc base : Nat) (v : Value) (xs : List UInt8) (z : Int) (w : World) (hz : I64 z) (hc : Wr w bc base v xs) (hl : xs.length ≤ 70368744177664) :
    Calls Tryd.prog 56 #[.pointer (some ⟨bc, 0, none⟩), .int .i64 z] w (Ret fun r w' => r = .tuple #[] ∧ Wrs w bc base v (xs ++ intB z) w') := by
  refine calls_of_WC2 (n := 13) Tryd.func56 rfl rfl rfl ?_
  refine W ?_
  refine WL_pure (PR_conv rfl) rfl ?_
  refine WL_pure (PR_shl (s := 1) rfl rfl (by decide) rfl) rfl ?_
  refine W ?_
  refine WL_pure (PR_shr (s := 63) rfl rfl (by decide) rfl) rfl ?_
  refine WL_pure (PR_conv rfl) rfl ?_
  refine WL_pure (PR_xor rfl rfl (zig_bits hz)) rfl ?_
  refine WL_eff (OE_call rfl (evs2 rfl rfl) (Uint_any bc base v xs (zigN z) w (zigN_lt hz) hc hl)) rfl ?_
  rintro _ w1 ⟨rfl, h⟩
  refine W ?_
  first | refine WQ_ret1 rfl rfl ?_ | refine WQ_ret2 rfl rfl rfl ?_ | refine WQ_ret3 rfl rfl rfl rfl ?_ | refine WQ_ret0 rfl ?_ | refine WQ_end0 rfl ?_
  exact .mk ⟨rfl, h⟩
theorem Text_any (bc base : Nat) (v : Value) (xs : List UInt8) (s : Str) (w : World) (hs : s.length ≤ 70368744177664) (hc : Wr w bc base v xs) (hl : xs.length ≤ 35184372088832) :
    Calls Tryd.prog 55 #[.pointer (some ⟨bc, 0, none⟩), str s] w (Ret fun r w' => r = .tuple #[] ∧ Wrs w bc base v (xs ++ textB s) w') := by
  have hub := uintB_len10 (n := s.length) (by omega)
  refine calls_of_WC2 (n := 20) Tryd.func55 rfl rfl rfl ?_
  refine W ?_
  refine WL_pure (PR_convTo (b := ((s.length : Nat) : Int)) rfl (wrap_u64_of (by omega) (by omega))) rfl ?_
  refine WL_eff (OE_call rfl (evs2 rfl rfl) (Uint_any bc base v xs s.length w (by omega) hc (by omega))) rfl ?_
  rintro _ w1 ⟨rfl, u, hW, hS, hob⟩
  have hblk := hW.blk
  refine W ?_
  refine WL_eff (OE_appendT (X := []) (base := base) rfl rfl hW.row (by simp only [List.length_append]; omega) hW.top) rfl ?_
  rintro u' w4 ⟨hrow4, hT4, hob4⟩
  have hblk4 := hblk.ext hT4 hW.apart
  refine W ?_
  refine WL_eff0 (OE_store1 (u := u') rfl rfl hrow4.slv0.cells hrow4.slv0.one hblk4 (by simp)) ?_
  rintro _ w5 ⟨hT5, hblk5⟩
  have hst := hW.stored hrow4 hT4 hob4 hT5 hblk5
  clear hblk4 hblk
  refine W ?_
  first | refine WQ_ret1 rfl rfl ?_ | refine WQ_ret2 rfl rfl rfl ?_ | refine WQ_ret3 rfl rfl rfl rfl ?_ | refine WQ_ret0 rfl ?_ | refine WQ_end0 rfl ?_
  have h := hst.next hS hob
  rw [List.append_assoc] at h
  exact .mk ⟨rfl, h⟩
theorem Ints_any (bc base : Nat) (v vl : Value) (xs : List UInt8) (l : List Int) (w : World) (hI : ∀ z ∈ l, I64 z) (hll : l.length ≤ 1000000) (hv : SlV (bc :: ob v) w vl l) (hc : Wr w bc base v xs) (hl : xs.length ≤ 35184372088832) :
    Calls Tryd.prog 57 #[.pointer (some ⟨bc, 0, none⟩), vl] w (Ret fun r w' => r = .tuple #[] ∧ Wrs w bc base v (xs ++ intsB l) w') := by
  have hub := uintB_len10 (n := l.length) (by omega)
  refine calls_of_WC2 (n := 21) Tryd.func57 rfl rfl rfl ?_
  refine W ?_
  refine WL_pure (PR_convTo (b := ((l.length : Nat) : Int)) rfl (wrap_u64_of (by omega) (by omega))) rfl ?_
  refine WL_eff (OE_call rfl (evs2 rfl rfl) (Uint_any bc base v xs l.length w (by omega) hc (by omega))) rfl ?_
  rintro _ w1 ⟨rfl, u, hW, hS, hob⟩
  replace hv : SlV (bc :: ob u) w1 vl l := hv.ext hS (fun _ h => h) (fun b hb => by
    rcases List.mem_cons.1 hb with rfl | h
    · exact .inl (by simp)
    · exact (hob b h).imp (fun h => List.mem_cons_of_mem _ h) id)
  refine W ?_
  refine WC_loop (σ := Nat × Value) (fun q => [(0, .pointer (some ⟨bc, 0, none⟩)), (11, vl), (12, .int .i64 (l.length : Int)), (13, .int .i64 (q.1 : Int))]) (fun q w' => q.1 ≤ l.length ∧ SlV (bc :: ob q.2) w' vl l ∧ Wr w' bc base q.2 (xs ++ uintB l.length ++ (l.take q.1).flatMap intB) ∧ Stp (bc :: ob v) w w' ∧ ∀ b ∈ ob q.2, b ∈ ob v ∨ w.heap.size ≤ b) (fun q => l.length - q.1) (0, u) ⟨rfl, rfl, rfl, rfl, trivial⟩ ⟨Nat.zero_le _, hv, by simpa using hW, hS, hob⟩ ?_
  clear hv hW hS hob
  rintro ⟨j, u2⟩ w2 ⟨hj, hv, hW, hS, hob⟩
  dsimp only at hj hv hW hS hob ⊢
  by_cases hlt : j < l.length
  · repeat' (first | refine W1 ?_ | (exfalso; omega) | refine WL_split rfl rfl (fun hg => ?_) (fun hg => ?_) | refine WL_splitB rfl rfl (fun hg => ?_) (fun hg => ?_) | refine WC_cond rfl (fun hc => ?_) (fun hc => ?_) | refine WC_condB rfl (fun hc => ?_) (fun hc => ?_))
    have hfl := flatMap_intB_len (l.take j) (fun z hz => hI z (List.mem_of_mem_take hz))
    rw [List.length_take] at hfl
    refine WL_eff (OE_call rfl (evs2 rfl rfl) (Int_any bc base u2 _ l[j] w2 (hI _ (List.getElem_mem hlt)) hW (by simp only [List.length_append]; omega))) rfl ?_
    rintro _ w3 ⟨rfl, u3, hW3, hS3, hob3⟩
    have hv3 : SlV (bc :: ob u3) w3 vl l := hv.ext hS3 (fun _ h => h) (fun b hb => by
      rcases List.mem_cons.1 hb with rfl | h
      · exact .inl (by simp)
      · exact (hob3 b h).imp (fun h => List.mem_cons_of_mem _ h) id)
    obtain ⟨u4, k1, k2, k3⟩ := (show Wrs w2 bc base u2 _ w3 from ⟨u3, hW3, hS3, hob3⟩).next hS hob
    refine W ?_
    refine WQ_loop (j + 1, u3) ⟨rfl, rfl, rfl, rfl, trivial⟩ ⟨hlt, hv3, ?_, ?_, ?_⟩ (by dsimp only; omega)
    · dsimp only
      rw [List.take_succ_eq_append_getElem hlt, List.flatMap_append]
      simpa using hW3
    · exact hS.own hS3 (fun b hb => by
        rcases List.mem_cons.1 hb with rfl | h
        · exact .inl (by simp)
        · exact (hob b h).imp (fun h => List.mem_cons_of_mem _ h) id)
    · intro b hb
      rcases hob3 b hb with h | h
      · exact hob b h
      · exact .inr (Nat.le_trans hS.size h)
  · have hje : j = l.length := by omega
    subst hje
    repeat' (first | refine W1 ?_ | (exfalso; omega) | refine WL_split rfl rfl (fun hg => ?_) (fun hg => ?_) | refine WL_splitB rfl rfl (fun hg => ?_) (fun hg => ?_) | refine WC_cond rfl (fun hc => ?_) (fun hc => ?_) | refine WC_condB rfl (fun hc => ?_) (fun hc => ?_))
    first | refine WQ_ret1 rfl rfl ?_ | refine WQ_ret2 rfl rfl rfl ?_ | refine WQ_ret3 rfl rfl rfl rfl ?_ | refine WQ_ret0 rfl ?_ | refine WQ_end0 rfl ?_
    rw [List.take_length, List.append_assoc] at hW
    exact .mk ⟨rfl, u2, hW, hS, hob⟩
end Go.Proofs.YtgpibcgebpgmiaaDoor


namespace Go.Proofs.YtgpibcgebpgmiaaDoor
open Go Go.Eng Go.RowKit
set_option linter.unusedVariables false
theorem buildB0 (w : World) : (Instr.buildSlice 38 0 #[]).run Tryd.prog w = .ok (.slice (some ⟨w.heap.size, 0, none⟩) 0 0) (w.alloc (.cells #[] 5)) := by kernel_rfl
theorem Clone_any (v : Value) (xs : List UInt8) (w : World) (hs : SlV [] w v xs) (hl : xs.length ≤ 140737488355328) :
    Calls Tryd.prog 81 #[v] w (Ret fun r w' => Row [] w' w.heap.size 5 r xs ∧ Stp [] w w') := by
  have hs0 := hs
  obtain ⟨p, c, rfl, hlc, hm, hn, hc⟩ := hs
  refine calls_of_WC1 (n := 8) Tryd.func81 rfl rfl rfl ?_
  refine W ?_
  refine WL_pure (PR_eqlNil rfl rfl) rfl ?_
  cases p with
  | none =>
    have hx0 : xs = [] := by
      have := hn rfl
      exact List.eq_nil_of_length_eq_zero (by omega)
    subst hx0
    repeat' (first | refine W1 ?_ | (exfalso; omega) | refine WL_split rfl rfl (fun hg => ?_) (fun hg => ?_) | refine WL_splitB rfl rfl (fun hg => ?_) (fun hg => ?_) | refine WC_cond rfl (fun hc => ?_) (fun hc => ?_) | refine WC_condB rfl (fun hc => ?_) (fun hc => ?_))
    first | refine WQ_ret1 rfl rfl ?_ | refine WQ_ret2 rfl rfl rfl ?_ | refine WQ_ret3 rfl rfl rfl rfl ?_ | refine WQ_ret0 rfl ?_ | refine WQ_end0 rfl ?_
    exact .mk ⟨Row.nil, Stp.refl _ _⟩
  | some a =>
    repeat' (first | refine W1 ?_ | (exfalso; omega) | refine WL_split rfl rfl (fun hg => ?_) (fun hg => ?_) | refine WL_splitB rfl rfl (fun hg => ?_) (fun hg => ?_) | refine WC_cond rfl (fun hc => ?_) (fun hc => ?_) | refine WC_condB rfl (fun hc => ?_) (fun hc => ?_))
    refine WL_eff (OE_buildSlice (vs := []) rfl (buildB0)) rfl ?_
    rintro bv w1 hN
    have hrow : Row [] w1 w.heap.size 5 bv ([] : List UInt8) := hN.row (Nat.le_refl _) rfl rfl (by simp)
    have hT := NewSl.stp hN
    have hv : SlV (ob bv ++ []) w1 (.slice (some a) xs.length c) xs := hs0.ext hT (by simp) (fun b hb => .inr (hrow.ob_le b (by simpa using hb)).1)
    clear hN
    refine W ?_
    refine WL_eff (OE_append (X := []) (base := w.heap.size) rfl (by decide) rfl rfl hrow hv (by simp only [List.length_nil]; omega) (by simp only [List.length_nil, maxLen]; omega) hT.size) rfl ?_
    rintro r w2 ⟨hrow2, hT2, _⟩
    refine W ?_
    first | refine WQ_ret1 rfl rfl ?_ | refine WQ_ret2 rfl rfl rfl ?_ | refine WQ_ret3 rfl rfl rfl rfl ?_ | refine WQ_ret0 rfl ?_ | refine WQ_end0 rfl ?_
    exact .mk ⟨hrow2, hT.own hT2 (fun b hb => .inr (hrow.ob_le b hb).1)⟩
theorem Done_any (bc base : Nat) (v : Value) (xs : List UInt8) (w : World) (hc : Wr w bc base v xs) (hl : xs.length ≤ 140737488355328) :
    Calls Tryd.prog 59 #[.pointer (some ⟨bc, 0, none⟩)] w (Ret fun r w' => Row [] w' w.heap.size 5 r xs ∧ Stp [] w w') := by
  have hblk := hc.blk
  have hs := hc.row.slv0
  refine calls_of_WC1 (n := 8) Tryd.func59 rfl rfl rfl ?_
  refine W ?_
  refine WL_eff (OE_call rfl (evs1 rfl) (Clone_any v xs w hs hl)) rfl ?_
  rintro r w1 h
  refine W ?_
  first | refine WQ_ret1 rfl rfl ?_ | refine WQ_ret2 rfl rfl rfl ?_ | refine WQ_ret3 rfl rfl rfl rfl ?_ | refine WQ_ret0 rfl ?_ | refine WQ_end0 rfl ?_
  exact .mk h
/-! ### the reference -/
end Go.Proofs.YtgpibcgebpgmiaaDoor


namespace Go.Proofs.YtgpibcgebpgmiaaDoor
open Go Go.Eng Go.RowKit
set_option linter.unusedVariables false
set_option linter.unusedSimpArgs false
/-- the encoding of a compiled rule -/
def encC (q : Cr) : List UInt8 := textB q.name ++ intB q.frm ++ textB q.on ++ intsB (flatF q.cnd) ++ intsB (flatF q.due) ++ textB q.unl ++ textB q.els
/-- what the encoders ask: numbers are numbers of 64 bits, no part is immense -/
structure CrOk (q : Cr) : Prop where
  frm : I64 q.frm
  cnd : ∀ x ∈ q.cnd, I64 x.op ∧ I64 x.n
  due : ∀ x ∈ q.due, I64 x.op ∧ I64 x.n
  lcnd : q.cnd.length ≤ 100000
  ldue : q.due.length ≤ 100000
  lname : q.name.length ≤ 1048576
  lon : q.on.length ≤ 1048576
  lunl : q.unl.length ≤ 1048576
  lels : q.els.length ≤ 1048576
theorem flatF_I64 {l : List Ins} (h : ∀ x ∈ l, I64 x.op ∧ I64 x.n) : ∀ z ∈ flatF l, I64 z := by
  intro z hz
  simp only [flatF, List.mem_flatMap, List.mem_cons, List.not_mem_nil, or_false] at hz
  obtain ⟨x, hx, rfl | rfl⟩ := hz
  · exact (h x hx).1
  · exact (h x hx).2
theorem textB_len {s : Str} (h : s.length ≤ 1048576) : (textB s).length ≤ 1048586 := by
  have := uintB_len10 (n := s.length) (by omega)
  simp only [textB, List.length_append]
  omega
theorem intsB_len {l : List Ins} (h : ∀ x ∈ l, I64 x.op ∧ I64 x.n) (hl : l.length ≤ 100000) : (intsB (flatF l)).length ≤ 2000010 := by
  have h1 := flatF_len l
  have h2 := uintB_len10 (n := (flatF l).length) (by omega)
  have h3 := flatMap_intB_len _ (flatF_I64 h)
  simp only [intsB, List.length_append]
  omega
/-- a method of a writer that was made by the call itself -/
theorem Wrs.flat {w w1 w2 : World} {bc base : Nat} {v : Value} {xs ys : List UInt8} (hS : Stp [] w w1) (hW : Wr w1 bc base v xs) (hbc : w.heap.size ≤ bc) (h : Wrs w1 bc base v ys w2) : ∃ v', Wr w2 bc base v' ys ∧ Stp [] w w2 := by
  obtain ⟨v', h1, h2, _⟩ := h
  refine ⟨v', h1, hS.own h2 (fun b hb => ?_)⟩
  rcases List.mem_cons.1 hb with rfl | hb
  · exact .inr hbc
  · exact .inr (Nat.le_trans hbc (Nat.le_trans (Nat.le_of_lt hW.low) (hW.row.ob_le b hb).1))
theorem Encode_any (v : Value) (q : Cr) (w : World) (hq : CrOk q) (hv : CrV [] w v q) :
    Calls Tryd.prog 20 #[v] w (Ret fun r w' => Row [] w' w.heap.size 5 r (encC q) ∧ Stp [] w w') := by
  obtain ⟨kc, kd, rfl, hc1, hd1⟩ := hv
  have l1 := textB_len hq.lname
  have l2 := intB_len hq.frm
  have l3 := textB_len hq.lon
  have l4 := intsB_len hq.cnd hq.lcnd
  have l5 := intsB_len hq.due hq.ldue
  have l6 := textB_len hq.lunl
  have l7 := textB_len hq.lels
  have f1 := flatF_len q.cnd
  have f2 := flatF_len q.due
  have g1 := hq.lcnd
  have g2 := hq.ldue
  have g3 := hq.lname
  have g4 := hq.lon
  have g5 := hq.lunl
  have g6 := hq.lels
  refine calls_of_WC1 (n := 29) Tryd.func20 rfl rfl rfl ?_
  refine W ?_
  refine WL_eff (OE_box rfl) rfl ?_
  rintro _ wb ⟨b, rfl, hb, e0, hSb⟩
  replace e0 : Blk wb b 42 (crC q kc kd) := e0
  replace hc1 := hc1.up hSb
  replace hd1 := hd1.up hSb
  refine W ?_
  refine WL_eff OE_alloc rfl ?_
  rintro _ w1 ⟨bc, rfl, hbc, eW, hS⟩
  have hW : Wr w1 bc (bc + 1) (.slice none 0 0) [] := ⟨eW, Row.nil, by simp [ob], by omega, eW.lt⟩
  clear eW
  have e1 := e0.up hS
  refine W ?_
  refine WL_eff (OE_call rfl (evs2 rfl rfl) (Text_any bc (bc + 1) _ _ q.name _ (by omega) hW (by simp only [List.length_append, List.length_nil]; omega))) rfl ?_
  rintro _ w2 ⟨rfl, h⟩
  obtain ⟨u, hW2, hS2⟩ := h.flat hS hW hbc
  clear h hW hS e1
  have hW := hW2
  have hS := hS2
  clear hW2 hS2
  have e1 := e0.up hS
  refine W ?_
  refine WL_eff (OE_call rfl (evs2 rfl rfl) (Int_any bc (bc + 1) _ _ q.frm _ hq.frm hW (by simp only [List.length_append, List.length_nil]; omega))) rfl ?_
  rintro _ w2 ⟨rfl, h⟩
  obtain ⟨u, hW2, hS2⟩ := h.flat hS hW hbc
  clear h hW hS e1
  have hW := hW2
  have hS := hS2
  clear hW2 hS2
  have e1 := e0.up hS
  refine W ?_
  refine WL_eff (OE_call rfl (evs2 rfl rfl) (Text_any bc (bc + 1) _ _ q.on _ (by omega) hW (by simp only [List.length_append, List.length_nil]; omega))) rfl ?_
  rintro _ w2 ⟨rfl, h⟩
  obtain ⟨u, hW2, hS2⟩ := h.flat hS hW hbc
  clear h hW hS e1
  have hW := hW2
  have hS := hS2
  clear hW2 hS2
  have e1 := e0.up hS
  refine W ?_
  refine WL_eff (OE_call rfl (evs1 rfl) (Flat_any _ q.cnd _ (by omega) (hc1.up hS))) rfl ?_
  rintro vf w2 ⟨hrf, hT⟩
  have hle := hW.blk.lt
  have hvf : SlV (bc :: ob u) w2 vf (flatF q.cnd) := hrf.slv (X := bc :: ob u) (fun x hx => by
    rcases List.mem_cons.1 hx with rfl | hx
    · exact hle
    · exact (hW.row.ob_le x hx).2)
  replace hW := hW.up hT
  replace hS := hS.trans hT
  refine WL_eff (OE_call rfl (evs2 rfl rfl) (Ints_any bc (bc + 1) _ _ _ (flatF q.cnd) _ (flatF_I64 hq.cnd) (by omega) hvf hW (by simp only [List.length_append, List.length_nil]; omega))) rfl ?_
  rintro _ w3 ⟨rfl, h⟩
  obtain ⟨u, hW2, hS2⟩ := h.flat hS hW hbc
  clear h hW hS e1 hrf hvf hT
  have hW := hW2
  have hS := hS2
  clear hW2 hS2
  have e1 := e0.up hS
  refine W ?_
  refine WL_eff (OE_call rfl (evs1 rfl) (Flat_any _ q.due _ (by omega) (hd1.up hS))) rfl ?_
  rintro vf w2 ⟨hrf, hT⟩
  have hle := hW.blk.lt
  have hvf : SlV (bc :: ob u) w2 vf (flatF q.due) := hrf.slv (X := bc :: ob u) (fun x hx => by
    rcases List.mem_cons.1 hx with rfl | hx
    · exact hle
    · exact (hW.row.ob_le x hx).2)
  replace hW := hW.up hT
  replace hS := hS.trans hT
  refine WL_eff (OE_call rfl (evs2 rfl rfl) (Ints_any bc (bc + 1) _ _ _ (flatF q.due) _ (flatF_I64 hq.due) (by omega) hvf hW (by simp only [List.length_append, List.length_nil]; omega))) rfl ?_
  rintro _ w3 ⟨rfl, h⟩
  obtain ⟨u, hW2, hS2⟩ := h.flat hS hW hbc
  clear h hW hS e1 hrf hvf hT
  have hW := hW2
  have hS := hS2
  clear hW2 hS2
  have e1 := e0.up hS
  refine W ?_
  refine WL_eff (OE_call rfl (evs2 rfl rfl) (Text_any bc (bc + 1) _ _ q.unl _ (by omega) hW (by simp only [List.length_append, List.length_nil]; omega))) rfl ?_
  rintro _ w2 ⟨rfl, h⟩
  obtain ⟨u, hW2, hS2⟩ := h.flat hS hW hbc
  clear h hW hS e1
  have hW := hW2
  have hS := hS2
  clear hW2 hS2
  have e1 := e0.up hS
  refine W ?_
  refine WL_eff (OE_call rfl (evs2 rfl rfl) (Text_any bc (bc + 1) _ _ q.els _ (by omega) hW (by simp only [List.length_append, List.length_nil]; omega))) rfl ?_
  rintro _ w2 ⟨rfl, h⟩
  obtain ⟨u, hW2, hS2⟩ := h.flat hS hW hbc
  clear h hW hS e1
  have hW := hW2
  have hS := hS2
  clear hW2 hS2
  have e1 := e0.up hS
  refine W ?_
  refine WL_eff (OE_call rfl (evs1 rfl) (Done_any bc (bc + 1) _ _ _ hW (by simp only [List.length_append, List.length_nil]; omega))) rfl ?_
  rintro r w2 ⟨hr, hT⟩
  refine W ?_
  first | refine WQ_ret1 rfl rfl ?_ | refine WQ_ret2 rfl rfl rfl ?_ | refine WQ_ret3 rfl rfl rfl rfl ?_ | refine WQ_ret0 rfl ?_ | refine WQ_end0 rfl ?_
  have hSS := (hSb.trans hS).trans hT
  exact .mk ⟨by simpa [encC, List.append_assoc] using hr.lower (Nat.le_trans hSb.size hS.size), hSS⟩
end Go.Proofs.YtgpibcgebpgmiaaDoor


/-
The walk engine, part 19: a drawn region in which some operations 'alloc' hang free beside a chain of others: they may come at any time before the operations that join them.
-/
namespace Go.Eng
open Go Go.RowKit Go.Proofs
set_option linter.unusedVariables false

/-- an 'alloc' that hangs free: its number, its slot, its type, the zero value -/
structure Fl where
  i : Nat
  d : Nat
  T : Nat
  z : Value
structure FlOk (P : Program) (n : Nat) (ops : Array Oper) (F : List Fl) : Prop where
  op : ∀ f ∈ F, ∃ ty pos af, ops[f.i]? = some ⟨some f.d, .alloc f.T, ty, pos, af, none⟩
  zero : ∀ f ∈ F, Zer P f.T f.z
  small : ∀ f ∈ F, Nat.blt f.d n = true
  idx : (F.map Fl.i).Nodup
  dst : ∀ f ∈ F, ∀ g ∈ F, f.d = g.d → f = g

def checkP (ops : Array Oper) (Lt : List Nat) (is : List Nat) : List (Nat × Nat) → List (Nat × Nat) → Array Bool → Bool
  | [], join, listed => (subs is).all (fun rem => rem.isEmpty || Region.ready .any ops (lst listed is rem) == rem) && checkD ops Lt join (lst listed is [])
  | (i, 0) :: r, join, listed => (subs is).all (fun rem => (Region.ready .any ops (lst listed is rem)).contains i && Region.free .any ops (lst listed is rem) i) && !is.contains i && checkP ops Lt is r join (listed.setIfInBounds i true)
  | (i, 1) :: r, join, listed => (subs is).all (fun rem => (Region.ready .any ops (lst listed is rem)).contains i && Region.free .any ops (lst listed is rem) i) && bound ops Lt i && !is.contains i && checkP ops Lt is r join (listed.setIfInBounds i true)
  | (i, 2) :: r, join, listed => (subs is).all (fun rem => (Region.ready .any ops (lst listed is rem)).contains i && (Region.ready .any ops (lst listed is rem)).all (fun j => j == i || rem.contains j)) && !is.contains i && checkP ops Lt is r join (listed.setIfInBounds i true)
  | _ :: _, _, _ => false

theorem Has.cons {n : Nat} {e : Env} {a : Act} {d : Nat} {v : Value} (h : Has n e a) (hv : a.tmps.getD d undef = v) : Has n ((d, v) :: e) a := by
  refine ⟨h.defers, h.size, fun t x hx => ?_⟩
  rw [look_cons] at hx
  by_cases hd : d = t
  · subst hd; simp at hx; subst hx; exact hv
  · rw [if_neg hd] at hx; exact h.vals _ _ hx
theorem put_other {a : Act} {d t : Nat} {v : Value} (h : d ≠ t) : (a.put (some d) v).tmps.getD t undef = a.tmps.getD t undef := by
  simp [Act.put, Array.getElem?_setIfInBounds_ne h]
theorem put_same {n : Nat} {e : Env} {a : Act} {d : Nat} {v : Value} (h : Has n e a) (hd : Nat.blt d n = true) : (a.put (some d) v).tmps.getD d undef = v := by
  have hlt : d < a.tmps.size := by rw [h.size]; exact Nat.le_of_ble_eq_true hd
  simp [Act.put, hlt]
/-- what stands while the operations F hang free: those of 'done' have their blocks, which lie in D -/
structure FlAt (F : List Fl) (rem : List Nat) (done : List (Fl × Nat)) (w : World) (D : List Nat) (a : Act) : Prop where
  all : ∀ f ∈ F, f.i ∈ rem ∨ ∃ b, (f, b) ∈ done
  blk : ∀ p ∈ done, Blk w p.2 p.1.T p.1.z.cells.toList
  mem : ∀ p ∈ done, p.1 ∈ F ∧ p.2 ∈ D
  val : ∀ p ∈ done, a.tmps.getD p.1.d undef = .pointer (some ⟨p.2, 0, none⟩)
  inj : ∀ p ∈ done, ∀ q ∈ done, p.2 = q.2 → p = q
  old : ∀ p ∈ done, ¬ p.1.i ∈ rem

structure WP (P : Program) (n : Nat) (ops : Array Oper) (Lt : List Nat) (Q : Exit → Act → World → Prop) (F : List Fl) (main join : List (Nat × Nat)) (e : Env) (J : World → List Nat → Prop) : Prop where
  h : ∀ listed : Array Bool, Region.noSelect ops = true → checkP ops Lt (F.map Fl.i) main join listed = true → (∀ f ∈ F, look e f.d = none) → ∀ rem : List Nat, rem.Sublist (F.map Fl.i) → ∀ done w D a, FlAt F rem done w D a → J w D → Has n e a →
    wpAnyE P .any ops [] (fun j => Lt.contains j) (fun a w => Q .normal a w) (wt main + rem.length + wt join) (lst listed (F.map Fl.i) rem) a w
section rules
variable {P : Program} {n : Nat} {ops : Array Oper} {Lt : List Nat} {Q : Exit → Act → World → Prop} {F : List Fl} {rest join : List (Nat × Nat)} {e : Env} {J : World → List Nat → Prop}
variable {i d : Nat} {op : Op} {ty : TypeId} {pos : String} {af : Array Edge} {gd : Option (Nat × Bool)} {v : Value}

theorem FlAt.put {rem : List Nat} {done : List (Fl × Nat)} {w : World} {D : List Nat} {a : Act} (h : FlAt F rem done w D a) (hd : F.all (fun f => f.d != d) = true) : FlAt F rem done w D (a.put (some d) v) :=
  ⟨h.all, h.blk, h.mem, fun p hp => by
    have := List.all_eq_true.1 hd p.1 (h.mem p hp).1
    rw [put_other (by simp at this; exact fun h => this h.symm)]
    exact h.val p hp, h.inj, h.old⟩
/-- one of the free ones comes -/
theorem FlAt.next (hF : FlOk P n ops F) {rem : List Nat} {done : List (Fl × Nat)} {w w' : World} {D : List Nat} {a : Act} (h : FlAt F rem done w D a) {f : Fl} (hf : f ∈ F) (hr : f.i ∈ rem) (hnd : rem.Nodup) {b : Nat} (hb : w.heap.size ≤ b) (hB : Blk w' b f.T f.z.cells.toList) (hS : Stp [] w w') (ha : Has n e a) :
    FlAt F (rem.erase f.i) ((f, b) :: done) w' (b :: D) (a.put (some f.d) (.pointer (some ⟨b, 0, none⟩))) := by
  have hone : ∀ g ∈ F, g.i = f.i → g = f := by
    intro g hg hi
    have := hF.idx
    obtain ⟨x, hx, rfl⟩ := List.getElem_of_mem hf
    obtain ⟨y, hy, rfl⟩ := List.getElem_of_mem hg
    have h1 : (F.map Fl.i)[y]'(by simpa using hy) = (F.map Fl.i)[x]'(by simpa using hx) := by simpa using hi
    have h2 := (List.getElem_inj this).1 h1
    subst h2
    rfl
  have hne : ∀ p ∈ done, p.1 ≠ f := fun p hp hpf => h.old p hp (hpf ▸ hr)
  refine ⟨fun g hg => ?_, fun p hp => ?_, fun p hp => ?_, fun p hp => ?_, fun p hp q hq hpq => ?_, fun p hp => ?_⟩
  · by_cases hi : g.i = f.i
    · obtain rfl := hone g hg hi
      exact .inr ⟨b, by simp⟩
    · rcases h.all g hg with h1 | ⟨b', h1⟩
      · exact .inl ((List.mem_erase_of_ne hi).2 h1)
      · exact .inr ⟨b', by simp [h1]⟩
  · rcases List.mem_cons.1 hp with rfl | hp
    · exact hB
    · exact (h.blk p hp).up hS
  · rcases List.mem_cons.1 hp with rfl | hp
    · exact ⟨hf, by simp⟩
    · exact ⟨(h.mem p hp).1, by simp [(h.mem p hp).2]⟩
  · rcases List.mem_cons.1 hp with rfl | hp
    · exact put_same ha (hF.small _ hf)
    · rw [put_other (fun hd => hne p hp (hF.dst f hf p.1 (h.mem p hp).1 hd).symm)]
      exact h.val p hp
  · rcases List.mem_cons.1 hp with rfl | hp <;> rcases List.mem_cons.1 hq with rfl | hq
    · rfl
    · have := (h.blk q hq).lt; simp only at hpq; omega
    · have := (h.blk p hp).lt; simp only at hpq; omega
    · exact h.inj p hp q hq hpq
  · rcases List.mem_cons.1 hp with rfl | hp
    · exact hnd.not_mem_erase
    · exact fun hm => h.old p hp (List.mem_of_mem_erase hm)

end rules
end Go.Eng


namespace Go.Eng
open Go Go.RowKit Go.Proofs
set_option linter.unusedVariables false
section post
variable {P : Program} {n : Nat} {fn : Func} {R : Ending → World → Prop} {e : Env} {w : World} {Q : Exit → Act → World → Prop}
end post
end Go.Eng
namespace Go.Proofs.YtgpibcgebpgmiaaDoor
open Go Go.Eng Go.RowKit
set_option linter.unusedVariables false
/-- a part of a tree, and the tree in which it is replaced by m -/
inductive PartR (m : Nd) : Nd → Nd → Nd → Prop
  | here (n : Nd) : PartR m n n m
  | kid (n : Nd) (i : Nat) (hi : i < n.kids.length) (a b : Nd) (h : PartR m n.kids[i] a b) : PartR m n a (.mk n.kind n.num n.word (n.kids.set i b))
theorem sum_set (l : List Nat) (i : Nat) (h : i < l.length) (a : Nat) : (l.set i a).sum + l[i] = l.sum + a := by
  induction l generalizing i with
  | nil => simp at h
  | cons x l ih =>
    cases i with
    | zero => simp; omega
    | succ i =>
      have := ih i (by simpa using h)
      simp only [List.set_cons_succ, List.sum_cons, List.getElem_cons_succ]
      omega
theorem PartR.size {m n a b : Nd} (h : PartR m n a b) : sizeN a ≤ sizeN n ∧ sizeN b ≤ sizeN n + sizeN m := by
  induction h with
  | here n => exact ⟨Nat.le_refl _, by omega⟩
  | kid n i hi a b h ih =>
    have hk := size_kid (List.getElem_mem hi)
    refine ⟨by omega, ?_⟩
    rw [sizeN_eq (.mk _ _ _ _), sizeN_eq n]
    show 1 + ((n.kids.set i b).map sizeN).sum ≤ _
    rw [List.map_set]
    have := sum_set (n.kids.map sizeN) i (by simpa using hi) (sizeN b)
    simp only [List.getElem_map] at this
    omega
end Go.Proofs.YtgpibcgebpgmiaaDoor


namespace Go.Proofs.YtgpibcgebpgmiaaDoor
open Go Go.Eng Go.RowKit
set_option linter.unusedVariables false
/-- the sum of the sizes of the first kids -/
abbrev pre (l : List Nd) (j : Nat) : Nat := ((l.take j).map sizeN).sum
theorem pre_succ {l : List Nd} {j : Nat} (h : j < l.length) : pre l (j + 1) = pre l j + sizeN l[j] := by
  unfold pre
  rw [List.take_succ_eq_append_getElem h, List.map_append, List.sum_append]
  simp
theorem pre_all (l : List Nd) : pre l l.length = (l.map sizeN).sum := by unfold pre; rw [List.take_length]
/-- what the loop has found -/
def Fnd (m x : Nd) (at0 : Nat) (j : Nat) (p : Nd) (ks : List Nd) : Prop :=
  (pre x.kids j < at0 ∧ p = x ∧ ks = x.kids.take j) ∨ (at0 ≤ pre x.kids j ∧ ∃ i b, ∃ hi : i < x.kids.length, i < j ∧ PartR m x.kids[i] p b ∧ ks = (x.kids.set i b).take j)
theorem Fnd.len {m x p : Nd} {at0 j : Nat} {ks : List Nd} (h : Fnd m x at0 j p ks) (hj : j ≤ x.kids.length) : ks.length = j := by
  rcases h with ⟨_, _, rfl⟩ | ⟨_, i, b, hi, _, _, rfl⟩ <;> simp <;> omega
theorem Fnd.skip {m x p : Nd} {at0 j : Nat} {ks : List Nd} (h : Fnd m x at0 j p ks) (hj : j < x.kids.length) (hn : pre x.kids (j + 1) < at0 ∨ at0 ≤ pre x.kids j) : Fnd m x at0 (j + 1) p (ks ++ [x.kids[j]]) := by
  have hs := pre_succ hj
  have hp := size_pos x.kids[j]
  rcases h with ⟨h1, rfl, rfl⟩ | ⟨h1, i, b, hi, hij, hr, rfl⟩
  · left
    refine ⟨by omega, rfl, ?_⟩
    rw [List.take_succ_eq_append_getElem hj]
  · right
    refine ⟨by omega, i, b, hi, by omega, hr, ?_⟩
    rw [List.take_succ_eq_append_getElem (by simpa using hj), List.getElem_set_ne (by omega)]
theorem Fnd.fin {m x p : Nd} {at0 : Nat} {ks : List Nd} (h : Fnd m x at0 x.kids.length p ks) (h1 : at0 < sizeN x) : PartR m x p (.mk x.kind x.num x.word ks) := by
  rw [sizeN_eq] at h1
  rcases h with ⟨h2, _⟩ | ⟨_, i, b, hi, _, hr, rfl⟩
  · rw [pre_all] at h2; omega
  · rw [List.take_of_length_le (by simp)]
    exact .kid x i hi _ _ hr
theorem NdV.parts {X : List Nat} {w : World} {v : Value} {x : Nd} (h : NdV X w v x) : ∃ p c, v = .agg #[.int .i64 x.kind, .int .i64 x.num, str x.word, .slice p x.kids.length c] ∧ SlV X w (.slice p x.kids.length c) x.kids := by
  obtain ⟨kv, rfl, hs⟩ := h
  obtain ⟨p, c, rfl, -⟩ := id hs
  exact ⟨p, c, rfl, hs⟩
end Go.Proofs.YtgpibcgebpgmiaaDoor


namespace Go.Proofs.YtgpibcgebpgmiaaDoor
open Go Go.Eng Go.RowKit
set_option linter.unusedVariables false
theorem typeT_kid {x y : Nd} (h : typeT x ≠ 0) (hy : y ∈ x.kids) : typeT y ≠ 0 := by
  intro h0
  apply h
  rw [typeT_eq]
  unfold combT
  split
  · rfl
  · rw [if_pos (by rw [← h0]; exact List.mem_map_of_mem hy)]
end Go.Proofs.YtgpibcgebpgmiaaDoor


/-
Reading the bytes of an encoding: plain Lean.
-/
namespace Go.Eng
open Go
abbrev Bs := List UInt8
/-- an unsigned number: its byte number i comes next; an error, or the number and what is left -/
def rdU : Nat → Bs → Sum Int (Nat × Bs)
  | i, [] => if i = 10 then .inl 7 else .inl 6
  | i, c :: r => if i = 10 then .inl 7 else if c.toNat < 128 then (if (i = 9 ∧ 1 < c.toNat) ∨ (0 < i ∧ c.toNat = 0) then .inl 7 else .inr (c.toNat, r))
    else match rdU (i + 1) r with
      | .inl e => .inl e
      | .inr (v, r') => .inr (c.toNat % 128 + 128 * v, r')
theorem pow_split (i : Nat) (h : i ≤ 8) : 2 ^ (64 - 7 * i) = 128 * 2 ^ (64 - 7 * (i + 1)) := by
  rw [show (128 : Nat) = 2 ^ 7 from rfl, ← Nat.pow_add]
  congr 1
  omega
theorem rdU_enc (n : Nat) : ∀ (i : Nat) (r : Bs), i ≤ 9 → n < 2 ^ (64 - 7 * i) → (0 < i → 0 < n) → rdU i (uintB n ++ r) = .inr (n, r) := by
  induction n using Nat.strongRecOn with
  | _ n ih =>
  intro i r hi hn h0
  by_cases h : n < 128
  · rw [uintB_lo h]
    show rdU i (UInt8.ofNat n :: r) = _
    have hb : (UInt8.ofNat n).toNat = n := by rw [UInt8.toNat_ofNat']; omega
    have h9 : ¬ ((i = 9 ∧ 1 < n) ∨ (0 < i ∧ n = 0)) := by
      rintro (⟨rfl, h1⟩ | ⟨h1, h2⟩)
      · simp at hn; omega
      · have := h0 h1; omega
    rw [rdU, if_neg (by omega), hb, if_pos h, if_neg h9]
  · have hi8 : i ≤ 8 := by
      rcases Nat.lt_or_ge i 9 with h1 | h1
      · omega
      · have : i = 9 := by omega
        subst this
        simp at hn
        omega
    rw [uintB_hi (by omega)]
    show rdU i (UInt8.ofNat (128 + n % 128) :: (uintB (n / 128) ++ r)) = _
    have hb : (UInt8.ofNat (128 + n % 128)).toNat = 128 + n % 128 := by rw [UInt8.toNat_ofNat']; omega
    have hp := pow_split i hi8
    rw [rdU, if_neg (by omega), hb, if_neg (by omega), ih (n / 128) (by omega) (i + 1) r (by omega) (by omega) (by omega)]
    simp only [Sum.inr.injEq, Prod.mk.injEq, and_true]
    omega
theorem rdU_dec (bs : Bs) : ∀ (i v : Nat) (r : Bs), i ≤ 9 → rdU i bs = .inr (v, r) → bs = uintB v ++ r ∧ v < 2 ^ (64 - 7 * i) ∧ (0 < i → 0 < v) := by
  induction bs with
  | nil => intro i v r hi h; rw [rdU, if_neg (by omega)] at h; cases h
  | cons c bs ih =>
    intro i v r hi h
    rw [rdU, if_neg (by omega)] at h
    split at h
    · rename_i hc
      split at h
      · cases h
      · rename_i hn
        simp only [Sum.inr.injEq, Prod.mk.injEq] at h
        obtain ⟨rfl, rfl⟩ := h
        refine ⟨?_, ?_, fun h0 => ?_⟩
        · rw [uintB_lo hc]
          simp
        · rcases Nat.lt_or_ge i 9 with h1 | h1
          · have : 2 ^ 7 ≤ 2 ^ (64 - 7 * i) := Nat.pow_le_pow_right (by decide) (by omega)
            omega
          · have : i = 9 := by omega
            subst this
            simp only [show 64 - 7 * 9 = 1 from rfl]
            omega
        · omega
    · rename_i hc
      rcases Nat.lt_or_ge i 9 with h1 | h1
      · cases hr : rdU (i + 1) bs with
        | inl e => rw [hr] at h; cases h
        | inr p =>
          obtain ⟨v', r'⟩ := p
          rw [hr] at h
          simp only [Sum.inr.injEq, Prod.mk.injEq] at h
          obtain ⟨rfl, rfl⟩ := h
          obtain ⟨e1, e2, e3⟩ := ih (i + 1) v' r' (by omega) hr
          have hp := pow_split i (by omega)
          have hc2 : c.toNat < 256 := c.toNat_lt
          have hv0 := e3 (by omega)
          refine ⟨?_, by omega, by omega⟩
          rw [uintB_hi (by omega), e1, show (c.toNat % 128 + 128 * v') / 128 = v' by omega]
          have : UInt8.ofNat (128 + (c.toNat % 128 + 128 * v') % 128) = c := by
            apply UInt8.toNat_inj.1
            rw [UInt8.toNat_ofNat']
            omega
          rw [this]
          rfl
      · have hi9 : i = 9 := by omega
        subst hi9
        cases bs with
        | nil => rw [rdU, if_pos rfl] at h; cases h
        | cons d bs => rw [rdU, if_pos rfl] at h; cases h
theorem rdU_short (n : Nat) : ∀ (i m : Nat), i ≤ 9 → n < 2 ^ (64 - 7 * i) → m < (uintB n).length → rdU i ((uintB n).take m) = .inl 6 := by
  induction n using Nat.strongRecOn with
  | _ n ih =>
  intro i m hi hn hm
  by_cases h : n < 128
  · rw [uintB_lo h] at hm ⊢
    have : m = 0 := by simp at hm; exact hm
    subst this
    rw [List.take_zero, rdU, if_neg (by omega)]
  · have hi8 : i ≤ 8 := by
      rcases Nat.lt_or_ge i 9 with h1 | h1
      · omega
      · have : i = 9 := by omega
        subst this
        simp at hn
        omega
    rw [uintB_hi (by omega)] at hm ⊢
    cases m with
    | zero => rw [List.take_zero, rdU, if_neg (by omega)]
    | succ m =>
      have hb : (UInt8.ofNat (128 + n % 128)).toNat = 128 + n % 128 := by rw [UInt8.toNat_ofNat']; omega
      have hp := pow_split i hi8
      rw [List.take_succ_cons, rdU, if_neg (by omega), hb, if_neg (by omega), ih (n / 128) (by omega) (i + 1) m (by omega) (by omega) (by simpa using hm)]

/-! ### a reader: what is left, the error -/
structure Rs where
  bs : Bs
  e : Int
def uintS (s : Rs) : Rs × Nat :=
  if s.e = 0 then (match rdU 0 s.bs with
    | .inl e => (⟨s.bs, e⟩, 0)
    | .inr (v, r) => (⟨r, 0⟩, v)) else (s, 0)
/-- the number of an unsigned number -/
def zagI (u : Nat) : Int := if u % 2 = 1 then -((u / 2 : Nat) : Int) - 1 else ((u / 2 : Nat) : Int)
theorem zag_zig {z : Int} : zagI (zigN z) = z := by
  unfold zagI zigN
  split <;> split <;> omega
theorem zig_zag (u : Nat) : zigN (zagI u) = u := by
  unfold zagI zigN
  split <;> split <;> omega
theorem zag_I64 {u : Nat} (h : u < 18446744073709551616) : I64 (zagI u) := by
  unfold zagI I64
  split <;> omega
def intS (s : Rs) : Rs × Int := ((uintS s).1, zagI (uintS s).2)
def lengthS (most : Nat) (s : Rs) : Rs × Nat :=
  if (uintS s).1.e = 0 then (if most < (uintS s).2 then (⟨(uintS s).1.bs, 2⟩, 0) else uintS s) else ((uintS s).1, 0)
def textS (most : Nat) (s : Rs) : Rs × Str :=
  if (lengthS most s).1.e = 0 then (if (lengthS most s).1.bs.length < (lengthS most s).2 then (⟨(lengthS most s).1.bs, 6⟩, [])
    else (⟨(lengthS most s).1.bs.drop (lengthS most s).2, 0⟩, (lengthS most s).1.bs.take (lengthS most s).2)) else ((lengthS most s).1, [])
def intsLp : Nat → Rs → List Int → Rs × List Int
  | 0, s, out => (s, out)
  | n + 1, s, out => if s.e = 0 then intsLp n (intS s).1 (out ++ [(intS s).2]) else (s, out)
def intsS (most : Nat) (s : Rs) : Rs × List Int :=
  if (intsLp (lengthS most s).2 (lengthS most s).1 []).1.e = 0 then intsLp (lengthS most s).2 (lengthS most s).1 [] else ((intsLp (lengthS most s).2 (lengthS most s).1 []).1, [])
def endS (s : Rs) : Int := if s.e = 0 ∧ 0 < s.bs.length then 7 else s.e

theorem uintS_enc {n : Nat} (h : n < 18446744073709551616) (r : Bs) : uintS ⟨uintB n ++ r, 0⟩ = (⟨r, 0⟩, n) := by
  unfold uintS
  rw [if_pos rfl, rdU_enc n 0 r (by omega) (by simpa using h) (by omega)]
theorem rdU_err (bs : Bs) : ∀ (i : Nat) (e : Int), rdU i bs = .inl e → e = 6 ∨ e = 7 := by
  induction bs with
  | nil =>
    intro i e h
    rw [rdU] at h
    split at h <;> cases h <;> simp
  | cons c bs ih =>
    intro i e h
    rw [rdU] at h
    split at h
    · cases h; simp
    · split at h
      · split at h <;> cases h; simp
      · cases hr : rdU (i + 1) bs with
        | inl e' => rw [hr] at h; cases h; exact ih _ _ hr
        | inr p => rw [hr] at h; cases h
theorem uintS_dec {s : Rs} (h : (uintS s).1.e = 0) : s.e = 0 ∧ s.bs = uintB (uintS s).2 ++ (uintS s).1.bs ∧ (uintS s).2 < 18446744073709551616 := by
  unfold uintS at h ⊢
  split
  · rename_i h0
    rw [if_pos h0] at h
    cases hr : rdU 0 s.bs with
    | inl e =>
      rw [hr] at h
      have := rdU_err _ _ _ hr
      simp only at h
      omega
    | inr p =>
      obtain ⟨v, r⟩ := p
      obtain ⟨e1, e2, _⟩ := rdU_dec s.bs 0 v r (by omega) hr
      exact ⟨h0, e1, by simpa using e2⟩
  · rename_i h0
    rw [if_neg h0] at h
    exact absurd h h0
theorem uintS_short {n : Nat} (h : n < 18446744073709551616) {m : Nat} (hm : m < (uintB n).length) : (uintS ⟨(uintB n).take m, 0⟩).1.e = 6 := by
  unfold uintS
  rw [if_pos rfl, rdU_short n 0 m (by omega) (by simpa using h) hm]
theorem uintS_bad {s : Rs} (h : s.e ≠ 0) : uintS s = (s, 0) := by unfold uintS; rw [if_neg h]
theorem intS_enc {z : Int} (h : I64 z) (r : Bs) : intS ⟨intB z ++ r, 0⟩ = (⟨r, 0⟩, z) := by
  unfold intS intB
  rw [uintS_enc (zigN_lt h)]
  simp [zag_zig]
theorem intS_dec {s : Rs} (h : (intS s).1.e = 0) : s.e = 0 ∧ s.bs = intB (intS s).2 ++ (intS s).1.bs ∧ I64 (intS s).2 := by
  obtain ⟨h1, h2, h3⟩ := uintS_dec (s := s) h
  exact ⟨h1, by unfold intB intS; rw [zig_zag]; exact h2, zag_I64 h3⟩
theorem intS_short {z : Int} (h : I64 z) {m : Nat} (hm : m < (intB z).length) : (intS ⟨(intB z).take m, 0⟩).1.e = 6 := uintS_short (zigN_lt h) hm
theorem intS_bad0 {s : Rs} (h : s.e ≠ 0) : intS s = (s, 0) := by unfold intS; rw [uintS_bad h]; simp [zagI]
theorem lengthS_enc {n most : Nat} (h : n ≤ most) (hm : most < 18446744073709551616) (r : Bs) : lengthS most ⟨uintB n ++ r, 0⟩ = (⟨r, 0⟩, n) := by
  unfold lengthS
  rw [uintS_enc (by omega)]
  rw [if_pos rfl, if_neg (by simp only; omega)]
theorem lengthS_dec {s : Rs} {most : Nat} (h : (lengthS most s).1.e = 0) : s.e = 0 ∧ s.bs = uintB (lengthS most s).2 ++ (lengthS most s).1.bs ∧ (lengthS most s).2 ≤ most := by
  unfold lengthS at h ⊢
  split
  · rename_i h0
    rw [if_pos h0] at h
    split
    · rename_i h1; rw [if_pos h1] at h; simp at h
    · rename_i h1
      obtain ⟨e1, e2, _⟩ := uintS_dec h0
      exact ⟨e1, e2, by omega⟩
  · rename_i h0
    rw [if_neg h0] at h
    exact absurd h h0
theorem lengthS_bad {s : Rs} {most : Nat} (h : s.e ≠ 0) : lengthS most s = (s, 0) := by
  unfold lengthS
  rw [uintS_bad h, if_neg h]
theorem lengthS_short {n most : Nat} (h : n < 18446744073709551616) {m : Nat} (hm : m < (uintB n).length) : (lengthS most ⟨(uintB n).take m, 0⟩).1.e = 6 := by
  have h1 := uintS_short h hm
  unfold lengthS
  rw [if_neg (by rw [h1]; decide)]
  exact h1
theorem textS_enc {t : Str} {most : Nat} (h : t.length ≤ most) (hm : most < 18446744073709551616) (r : Bs) : textS most ⟨textB t ++ r, 0⟩ = (⟨r, 0⟩, t) := by
  unfold textS textB
  rw [List.append_assoc, lengthS_enc h hm]
  rw [if_pos rfl, if_neg (by simp)]
  simp
theorem textS_bad {s : Rs} {most : Nat} (h : s.e ≠ 0) : textS most s = (s, []) := by
  unfold textS
  rw [lengthS_bad h, if_neg h]
theorem textS_short {t : Str} {most : Nat} (h : t.length ≤ most) (hm : most < 18446744073709551616) {m : Nat} (hlt : m < (textB t).length) : (textS most ⟨(textB t).take m, 0⟩).1.e = 6 := by
  unfold textB at hlt ⊢
  by_cases h1 : m < (uintB t.length).length
  · rw [List.take_append_of_le_length (by omega)]
    have h2 := lengthS_short (most := most) (n := t.length) (by omega) h1
    unfold textS
    rw [if_neg (by rw [h2]; decide)]
    exact h2
  · rw [List.take_append, List.take_of_length_le (by omega)]
    unfold textS
    rw [lengthS_enc h hm]
    rw [if_pos rfl, if_pos (by simp only [List.length_take]; simp only [List.length_append] at hlt; omega)]
theorem intsLp_bad {s : Rs} (h : s.e ≠ 0) : ∀ (n : Nat) (out : List Int), intsLp n s out = (s, out)
  | 0, _ => rfl
  | n + 1, out => by unfold intsLp; rw [if_neg h]
theorem intsLp_enc (l : List Int) (h : ∀ z ∈ l, I64 z) : ∀ (r : Bs) (out : List Int), intsLp l.length ⟨l.flatMap intB ++ r, 0⟩ out = (⟨r, 0⟩, out ++ l) := by
  induction l with
  | nil => intro r out; simp [intsLp]
  | cons z l ih =>
    intro r out
    rw [List.length_cons, intsLp, if_pos rfl, List.flatMap_cons, List.append_assoc, intS_enc (h z (by simp))]
    rw [ih (fun z hz => h z (by simp [hz]))]
    simp
theorem intsLp_dec : ∀ (n : Nat) (s : Rs) (out : List Int), (intsLp n s out).1.e = 0 → s.e = 0 ∧ ∃ l, l.length = n ∧ (intsLp n s out).2 = out ++ l ∧ s.bs = l.flatMap intB ++ (intsLp n s out).1.bs ∧ ∀ z ∈ l, I64 z
  | 0, s, out, h => ⟨h, [], rfl, by simp [intsLp], by simp [intsLp], by simp⟩
  | n + 1, s, out, h => by
    by_cases h0 : s.e = 0
    · unfold intsLp at h ⊢
      rw [if_pos h0] at h ⊢
      obtain ⟨h1, l, h2, h3, h4, h5⟩ := intsLp_dec n _ _ h
      obtain ⟨e1, e2, e3⟩ := intS_dec h1
      refine ⟨h0, (intS s).2 :: l, by simp [h2], by rw [h3]; simp, ?_, ?_⟩
      · rw [e2, h4, List.flatMap_cons, List.append_assoc]
      · intro z hz
        rcases List.mem_cons.1 hz with rfl | hz
        · exact e3
        · exact h5 z hz
    · rw [intsLp_bad h0] at h
      exact absurd h h0
theorem intsLp_short (l : List Int) (h : ∀ z ∈ l, I64 z) : ∀ (m : Nat) (out : List Int), m < (l.flatMap intB).length → (intsLp l.length ⟨(l.flatMap intB).take m, 0⟩ out).1.e = 6 := by
  induction l with
  | nil => intro m out hm; simp at hm
  | cons z l ih =>
    intro m out hm
    rw [List.flatMap_cons] at hm ⊢
    rw [List.length_cons, intsLp, if_pos rfl]
    by_cases h1 : m < (intB z).length
    · rw [List.take_append_of_le_length (by omega)]
      have h2 := intS_short (h z (by simp)) h1
      rw [intsLp_bad (by rw [h2]; decide)]
      exact h2
    · rw [List.take_append, List.take_of_length_le (by omega), intS_enc (h z (by simp))]
      exact ih (fun z hz => h z (by simp [hz])) _ _ (by simp only [List.length_append] at hm; omega)
theorem intsS_enc {l : List Int} {most : Nat} (hl : ∀ z ∈ l, I64 z) (h : l.length ≤ most) (hm : most < 18446744073709551616) (r : Bs) : intsS most ⟨intsB l ++ r, 0⟩ = (⟨r, 0⟩, l) := by
  unfold intsS intsB
  rw [List.append_assoc, lengthS_enc h hm]
  simp only
  rw [intsLp_enc l hl]
  rw [if_pos rfl]
  rfl
theorem intsS_dec {s : Rs} {most : Nat} (h : (intsS most s).1.e = 0) : s.e = 0 ∧ s.bs = intsB (intsS most s).2 ++ (intsS most s).1.bs ∧ (intsS most s).2.length ≤ most ∧ ∀ z ∈ (intsS most s).2, I64 z := by
  unfold intsS at h ⊢
  split
  · rename_i h0
    obtain ⟨h1, l, h2, h3, h4, h5⟩ := intsLp_dec _ _ _ h0
    obtain ⟨e1, e2, e3⟩ := lengthS_dec h1
    rw [List.nil_append] at h3
    refine ⟨e1, ?_, by rw [h3]; omega, by rw [h3]; exact h5⟩
    rw [h3]
    unfold intsB
    rw [h2, List.append_assoc, ← h4]
    exact e2
  · rename_i h0
    rw [if_neg h0] at h
    exact absurd h h0
theorem intsS_bad {s : Rs} {most : Nat} (h : s.e ≠ 0) : intsS most s = (s, []) := by
  unfold intsS
  rw [lengthS_bad h]
  show (if s.e = 0 then (s, []) else (s, [])) = (s, [])
  split <;> rfl
theorem intsS_short {l : List Int} {most : Nat} (hl : ∀ z ∈ l, I64 z) (h : l.length ≤ most) (hm : most < 18446744073709551616) {m : Nat} (hlt : m < (intsB l).length) : (intsS most ⟨(intsB l).take m, 0⟩).1.e = 6 := by
  have key : (intsLp (lengthS most ⟨(intsB l).take m, 0⟩).2 (lengthS most ⟨(intsB l).take m, 0⟩).1 []).1.e = 6 := by
    unfold intsB at hlt ⊢
    by_cases h1 : m < (uintB l.length).length
    · rw [List.take_append_of_le_length (by omega)]
      have h2 := lengthS_short (most := most) (n := l.length) (by omega) h1
      rw [intsLp_bad (by rw [h2]; decide)]
      exact h2
    · rw [List.take_append, List.take_of_length_le (by omega), lengthS_enc h hm]
      exact intsLp_short l hl _ _ (by simp only [List.length_append] at hlt; omega)
  unfold intsS
  rw [if_neg (by rw [key]; decide)]
  exact key
end Go.Eng


namespace Go.Proofs.YtgpibcgebpgmiaaDoor
open Go Go.Eng Go.RowKit
set_option linter.unusedVariables false
/-- instructions from their numbers -/
def pairF : List Int → List Ins
  | a :: b :: r => ⟨a, b⟩ :: pairF r
  | _ => []
theorem pairF_flatF (l : List Ins) : pairF (flatF l) = l := by
  induction l with
  | nil => rfl
  | cons x l ih =>
    show pairF (x.op :: x.n :: flatF l) = _
    rw [pairF, ih]
/-- the steps of the decoder -/
def dS1 (bs : Bs) := textS 12 ⟨bs, 0⟩
def dS2 (bs : Bs) := intS (dS1 bs).1
def dS3 (bs : Bs) := textS 12 (dS2 bs).1
def dS4 (bs : Bs) := intsS 400 (dS3 bs).1
def dS5 (bs : Bs) := intsS 400 (dS4 bs).1
def dS6 (bs : Bs) := textS 12 (dS5 bs).1
def dS7 (bs : Bs) := textS 12 (dS6 bs).1
def decQ (bs : Bs) : Cr := ⟨(dS1 bs).2, (dS2 bs).2, (dS3 bs).2, pairF (dS4 bs).2, pairF (dS5 bs).2, (dS6 bs).2, (dS7 bs).2⟩
def decE (bs : Bs) : Int :=
  if endS (dS7 bs).1 = 0 then (if (dS4 bs).2.length % 2 = 1 ∨ (dS5 bs).2.length % 2 = 1 then 7 else if chkC (decQ bs) = 0 then 0 else 22) else endS (dS7 bs).1
/-- the compiled rule of an encoding -/
def decF (bs : Bs) : Cr := if decE bs = 0 then decQ bs else crZ
/-- what a rule must be like to be decoded -/
structure CrFit (q : Cr) : Prop where
  frm : I64 q.frm
  cnd : ∀ x ∈ q.cnd, I64 x.op ∧ I64 x.n
  due : ∀ x ∈ q.due, I64 x.op ∧ I64 x.n
  lcnd : q.cnd.length ≤ 200
  ldue : q.due.length ≤ 200
  lname : q.name.length ≤ 12
  lon : q.on.length ≤ 12
  lunl : q.unl.length ≤ 12
  lels : q.els.length ≤ 12
theorem CrFit.ok {q : Cr} (h : CrFit q) : CrOk q := ⟨h.frm, h.cnd, h.due, Nat.le_trans h.lcnd (by decide), Nat.le_trans h.ldue (by decide), Nat.le_trans h.lname (by decide), Nat.le_trans h.lon (by decide), Nat.le_trans h.lunl (by decide), Nat.le_trans h.lels (by decide)⟩
theorem dec_steps {q : Cr} (h : CrFit q) (r : Bs) :
    dS1 (encC q ++ r) = (⟨intB q.frm ++ (textB q.on ++ (intsB (flatF q.cnd) ++ (intsB (flatF q.due) ++ (textB q.unl ++ (textB q.els ++ r))))), 0⟩, q.name) ∧
    dS2 (encC q ++ r) = (⟨textB q.on ++ (intsB (flatF q.cnd) ++ (intsB (flatF q.due) ++ (textB q.unl ++ (textB q.els ++ r)))), 0⟩, q.frm) ∧
    dS3 (encC q ++ r) = (⟨intsB (flatF q.cnd) ++ (intsB (flatF q.due) ++ (textB q.unl ++ (textB q.els ++ r))), 0⟩, q.on) ∧
    dS4 (encC q ++ r) = (⟨intsB (flatF q.due) ++ (textB q.unl ++ (textB q.els ++ r)), 0⟩, flatF q.cnd) ∧
    dS5 (encC q ++ r) = (⟨textB q.unl ++ (textB q.els ++ r), 0⟩, flatF q.due) ∧
    dS6 (encC q ++ r) = (⟨textB q.els ++ r, 0⟩, q.unl) ∧ dS7 (encC q ++ r) = (⟨r, 0⟩, q.els) := by
  have f1 := flatF_len q.cnd
  have f2 := flatF_len q.due
  have g1 := h.lcnd
  have g2 := h.ldue
  have s1 : dS1 (encC q ++ r) = (⟨intB q.frm ++ (textB q.on ++ (intsB (flatF q.cnd) ++ (intsB (flatF q.due) ++ (textB q.unl ++ (textB q.els ++ r))))), 0⟩, q.name) := by
    unfold dS1 encC
    simp only [List.append_assoc]
    exact textS_enc h.lname (by decide) _
  have s2 : dS2 (encC q ++ r) = (⟨textB q.on ++ (intsB (flatF q.cnd) ++ (intsB (flatF q.due) ++ (textB q.unl ++ (textB q.els ++ r)))), 0⟩, q.frm) := by
    unfold dS2; rw [s1]; exact intS_enc h.frm _
  have s3 : dS3 (encC q ++ r) = (⟨intsB (flatF q.cnd) ++ (intsB (flatF q.due) ++ (textB q.unl ++ (textB q.els ++ r))), 0⟩, q.on) := by
    unfold dS3; rw [s2]; exact textS_enc h.lon (by decide) _
  have s4 : dS4 (encC q ++ r) = (⟨intsB (flatF q.due) ++ (textB q.unl ++ (textB q.els ++ r)), 0⟩, flatF q.cnd) := by
    unfold dS4; rw [s3]; exact intsS_enc (flatF_I64 h.cnd) (by omega) (by decide) _
  have s5 : dS5 (encC q ++ r) = (⟨textB q.unl ++ (textB q.els ++ r), 0⟩, flatF q.due) := by
    unfold dS5; rw [s4]; exact intsS_enc (flatF_I64 h.due) (by omega) (by decide) _
  have s6 : dS6 (encC q ++ r) = (⟨textB q.els ++ r, 0⟩, q.unl) := by
    unfold dS6; rw [s5]; exact textS_enc h.lunl (by decide) _
  have s7 : dS7 (encC q ++ r) = (⟨r, 0⟩, q.els) := by
    unfold dS7; rw [s6]; exact textS_enc h.lels (by decide) _
  exact ⟨s1, s2, s3, s4, s5, s6, s7⟩
/-- the encoding is decoded -/
theorem dec_enc {q : Cr} (h : CrFit q) (hc : chkC q = 0) : decE (encC q) = 0 ∧ decQ (encC q) = q := by
  obtain ⟨s1, s2, s3, s4, s5, s6, s7⟩ := dec_steps h []
  rw [List.append_nil] at s1 s2 s3 s4 s5 s6 s7
  have hq : decQ (encC q) = q := by
    unfold decQ
    rw [s1, s2, s3, s4, s5, s6, s7]
    simp only
    rw [pairF_flatF, pairF_flatF]
  have f1 := flatF_len q.cnd
  have f2 := flatF_len q.due
  refine ⟨?_, hq⟩
  unfold decE
  rw [hq, s4, s5, s7]
  simp only
  rw [if_pos (by rfl), if_neg (by omega), if_pos hc]
/-- one more byte -/
theorem dec_more {q : Cr} (h : CrFit q) (b : UInt8) : decE (encC q ++ [b]) = 7 := by
  obtain ⟨s1, s2, s3, s4, s5, s6, s7⟩ := dec_steps h [b]
  unfold decE
  rw [s7]
  have : endS ⟨[b], 0⟩ = 7 := rfl
  simp only
  rw [this, if_neg (by decide)]
/-- a part of the encoding -/
theorem endS_six {s : Rs} (h : s.e = 6) : endS s = 6 := by
  unfold endS
  rw [if_neg (by omega), h]
theorem take_app {α : Type} (a b : List α) (m : Nat) (h : a.length ≤ m) : (a ++ b).take m = a ++ b.take (m - a.length) := by
  rw [List.take_append, List.take_of_length_le h]
theorem dec_short {q : Cr} (h : CrFit q) {m : Nat} (hm : m < (encC q).length) : decE ((encC q).take m) = 6 := by
  have f1 := flatF_len q.cnd
  have f2 := flatF_len q.due
  have g1 := h.lcnd
  have g2 := h.ldue
  generalize hbs : (encC q).take m = bs
  have fin : (dS7 bs).1.e = 6 → decE bs = 6 := fun h7 => by
    unfold decE
    rw [endS_six h7, if_neg (by decide)]
  have b6 : (dS6 bs).1.e = 6 → (dS7 bs).1.e = 6 := fun h => by unfold dS7; rw [textS_bad (by rw [h]; decide)]; exact h
  have b5 : (dS5 bs).1.e = 6 → (dS6 bs).1.e = 6 := fun h => by unfold dS6; rw [textS_bad (by rw [h]; decide)]; exact h
  have b4 : (dS4 bs).1.e = 6 → (dS5 bs).1.e = 6 := fun h => by unfold dS5; rw [intsS_bad (by rw [h]; decide)]; exact h
  have b3 : (dS3 bs).1.e = 6 → (dS4 bs).1.e = 6 := fun h => by unfold dS4; rw [intsS_bad (by rw [h]; decide)]; exact h
  have b2 : (dS2 bs).1.e = 6 → (dS3 bs).1.e = 6 := fun h => by unfold dS3; rw [textS_bad (by rw [h]; decide)]; exact h
  have b1 : (dS1 bs).1.e = 6 → (dS2 bs).1.e = 6 := fun h => by unfold dS2; rw [intS_bad0 (by rw [h]; decide)]; exact h
  have henc : encC q = textB q.name ++ (intB q.frm ++ (textB q.on ++ (intsB (flatF q.cnd) ++ (intsB (flatF q.due) ++ (textB q.unl ++ textB q.els))))) := by simp [encC]
  rw [henc] at hbs hm
  by_cases c1 : m < (textB q.name).length
  · refine fin (b6 (b5 (b4 (b3 (b2 (b1 ?_))))))
    rw [List.take_append_of_le_length (by omega)] at hbs
    unfold dS1
    rw [← hbs]
    exact textS_short h.lname (by decide) c1
  rw [take_app _ _ _ (by omega)] at hbs
  have s1 : dS1 bs = (⟨(intB q.frm ++ (textB q.on ++ (intsB (flatF q.cnd) ++ (intsB (flatF q.due) ++ (textB q.unl ++ textB q.els))))).take (m - (textB q.name).length), 0⟩, q.name) := by
    unfold dS1; rw [← hbs]; exact textS_enc h.lname (by decide) _
  rw [List.length_append] at hm
  generalize hm1 : m - (textB q.name).length = m1 at *
  replace hm : m1 < (intB q.frm ++ (textB q.on ++ (intsB (flatF q.cnd) ++ (intsB (flatF q.due) ++ (textB q.unl ++ textB q.els))))).length := by omega
  by_cases c2 : m1 < (intB q.frm).length
  · refine fin (b6 (b5 (b4 (b3 (b2 ?_)))))
    rw [List.take_append_of_le_length (by omega)] at s1
    unfold dS2
    rw [s1]
    exact intS_short h.frm c2
  rw [take_app _ _ _ (by omega)] at s1
  have s2 : dS2 bs = (⟨(textB q.on ++ (intsB (flatF q.cnd) ++ (intsB (flatF q.due) ++ (textB q.unl ++ textB q.els)))).take (m1 - (intB q.frm).length), 0⟩, q.frm) := by
    unfold dS2; rw [s1]; exact intS_enc h.frm _
  rw [List.length_append] at hm
  generalize hm2 : m1 - (intB q.frm).length = m2 at *
  replace hm : m2 < (textB q.on ++ (intsB (flatF q.cnd) ++ (intsB (flatF q.due) ++ (textB q.unl ++ textB q.els)))).length := by omega
  by_cases c3 : m2 < (textB q.on).length
  · refine fin (b6 (b5 (b4 (b3 ?_))))
    rw [List.take_append_of_le_length (by omega)] at s2
    unfold dS3
    rw [s2]
    exact textS_short h.lon (by decide) c3
  rw [take_app _ _ _ (by omega)] at s2
  have s3 : dS3 bs = (⟨(intsB (flatF q.cnd) ++ (intsB (flatF q.due) ++ (textB q.unl ++ textB q.els))).take (m2 - (textB q.on).length), 0⟩, q.on) := by
    unfold dS3; rw [s2]; exact textS_enc h.lon (by decide) _
  rw [List.length_append] at hm
  generalize hm3 : m2 - (textB q.on).length = m3 at *
  replace hm : m3 < (intsB (flatF q.cnd) ++ (intsB (flatF q.due) ++ (textB q.unl ++ textB q.els))).length := by omega
  by_cases c4 : m3 < (intsB (flatF q.cnd)).length
  · refine fin (b6 (b5 (b4 ?_)))
    rw [List.take_append_of_le_length (by omega)] at s3
    unfold dS4
    rw [s3]
    exact intsS_short (flatF_I64 h.cnd) (by omega) (by decide) c4
  rw [take_app _ _ _ (by omega)] at s3
  have s4 : dS4 bs = (⟨(intsB (flatF q.due) ++ (textB q.unl ++ textB q.els)).take (m3 - (intsB (flatF q.cnd)).length), 0⟩, flatF q.cnd) := by
    unfold dS4; rw [s3]; exact intsS_enc (flatF_I64 h.cnd) (by omega) (by decide) _
  rw [List.length_append] at hm
  generalize hm4 : m3 - (intsB (flatF q.cnd)).length = m4 at *
  replace hm : m4 < (intsB (flatF q.due) ++ (textB q.unl ++ textB q.els)).length := by omega
  by_cases c5 : m4 < (intsB (flatF q.due)).length
  · refine fin (b6 (b5 ?_))
    rw [List.take_append_of_le_length (by omega)] at s4
    unfold dS5
    rw [s4]
    exact intsS_short (flatF_I64 h.due) (by omega) (by decide) c5
  rw [take_app _ _ _ (by omega)] at s4
  have s5 : dS5 bs = (⟨(textB q.unl ++ textB q.els).take (m4 - (intsB (flatF q.due)).length), 0⟩, flatF q.due) := by
    unfold dS5; rw [s4]; exact intsS_enc (flatF_I64 h.due) (by omega) (by decide) _
  rw [List.length_append] at hm
  generalize hm5 : m4 - (intsB (flatF q.due)).length = m5 at *
  replace hm : m5 < (textB q.unl ++ textB q.els).length := by omega
  by_cases c6 : m5 < (textB q.unl).length
  · refine fin (b6 ?_)
    rw [List.take_append_of_le_length (by omega)] at s5
    unfold dS6
    rw [s5]
    exact textS_short h.lunl (by decide) c6
  rw [take_app _ _ _ (by omega)] at s5
  have s6 : dS6 bs = (⟨(textB q.els).take (m5 - (textB q.unl).length), 0⟩, q.unl) := by
    unfold dS6; rw [s5]; exact textS_enc h.lunl (by decide) _
  rw [List.length_append] at hm
  refine fin ?_
  unfold dS7
  rw [s6]
  exact textS_short h.lels (by decide) (by omega)
end Go.Proofs.YtgpibcgebpgmiaaDoor


namespace Go.Proofs.YtgpibcgebpgmiaaDoor
open Go Go.Eng Go.RowKit
set_option linter.unusedVariables false
/-- the code c lies at p in C -/
def Seg (C : List Ins) (p : Nat) (c : List Ins) : Prop := ∃ A B, C = A ++ c ++ B ∧ A.length = p
theorem Seg.left {C a b : List Ins} {p : Nat} (h : Seg C p (a ++ b)) : Seg C p a := by
  obtain ⟨A, B, rfl, hp⟩ := h
  exact ⟨A, b ++ B, by simp, hp⟩
theorem Seg.right {C a b : List Ins} {p : Nat} (h : Seg C p (a ++ b)) : Seg C (p + a.length) b := by
  obtain ⟨A, B, rfl, hp⟩ := h
  exact ⟨A ++ a, B, by simp, by simp [hp]⟩
theorem Seg.at {C r : List Ins} {x : Ins} {p : Nat} (h : Seg C p (x :: r)) : C.getD p ⟨0, 0⟩ = x := by
  obtain ⟨A, B, rfl, hp⟩ := h
  subst hp
  simp
/-- steps from a place on -/
def runP (C : List Ins) : Nat → Nat → List (Option Shp) → Option (List (Option Shp))
  | _, 0, st => some st
  | p, k + 1, st => (stepM st p (C.getD p ⟨0, 0⟩)).bind (runP C (p + 1) k)
theorem runP_add (C : List Ins) (b : Nat) : ∀ (a p : Nat) (st : List (Option Shp)), runP C p (a + b) st = (runP C p a st).bind (runP C (p + a) b)
  | 0, p, st => by simp [runP]
  | a + 1, p, st => by
    rw [show a + 1 + b = (a + b) + 1 by omega, runP, runP]
    cases h : stepM st p (C.getD p ⟨0, 0⟩) with
    | none => rfl
    | some st' =>
      simp only [Option.bind_some]
      rw [runP_add C b a (p + 1) st', show p + 1 + a = p + (a + 1) by omega]
theorem runP_one (C : List Ins) (p : Nat) (st : List (Option Shp)) : runP C p 1 st = stepM st p (C.getD p ⟨0, 0⟩) := by
  rw [runP]
  cases stepM st p (C.getD p ⟨0, 0⟩) <;> rfl
theorem runM_runP (C : List Ins) (st : List (Option Shp)) : ∀ k : Nat, runM C k st = runP C 0 k st
  | 0 => rfl
  | k + 1 => by
    rw [runM, runP_add, runM_runP C st k]
    cases runP C 0 k st with
    | none => rfl
    | some st' => simp only [Option.bind_some, Nat.zero_add]; rw [runP_one]
/-- the code c at p leads from the shape s to the shape s' -/
def Runs (C : List Ins) (p : Nat) (c : List Ins) (s s' : Shp) : Prop :=
  ∀ st : List (Option Shp), st.length = C.length → p + c.length < C.length → st[p]? = some (some s) → (∀ i, p < i → i < p + c.length → st[i]? = some none) →
    (st[p + c.length]? = some none ∨ st[p + c.length]? = some (some s')) →
    ∃ st', runP C p c.length st = some st' ∧ st'.length = C.length ∧ st'[p + c.length]? = some (some s') ∧ ∀ i, p + c.length < i → st'[i]? = st[i]?
theorem reachP {st : List (Option Shp)} {t : Nat} {sh : Shp} (h : t < st.length) (h2 : st[t]? = some none ∨ st[t]? = some (some sh)) :
    ∃ st', reachM st (t : Int) sh = some st' ∧ st'.length = st.length ∧ st'[t]? = some (some sh) ∧ ∀ i, i ≠ t → st'[i]? = st[i]? := by
  unfold reachM
  rw [if_pos (by omega), Int.toNat_natCast, List.getD_eq_getElem?_getD]
  rcases h2 with h2 | h2
  · rw [h2]
    exact ⟨_, rfl, by simp, by simp [h], fun i hi => List.getElem?_set_ne (fun e => hi e.symm)⟩
  · rw [h2]
    simp only [Option.getD_some, if_pos]
    exact ⟨_, rfl, rfl, h2, fun _ _ => rfl⟩
theorem Runs.app {C a b : List Ins} {p : Nat} {s s1 s2 : Shp} (ha : Runs C p a s s1) (hb : Runs C (p + a.length) b s1 s2) (h1 : a ≠ []) (h2 : b ≠ []) : Runs C p (a ++ b) s s2 := by
  intro st hl hlt h0 hn hq
  have l1 := List.length_pos_iff.2 h1
  have l2 := List.length_pos_iff.2 h2
  simp only [List.length_append] at hlt hn hq ⊢
  obtain ⟨st1, r1, e1, e2, e3⟩ := ha st hl (by omega) h0 (fun i hi hi2 => hn i hi (by omega)) (.inl (hn _ (by omega) (by omega)))
  obtain ⟨st2, r2, g1, g2, g3⟩ := hb st1 e1 (by omega) e2 (fun i hi hi2 => by rw [e3 i hi]; exact hn i (by omega) (by omega)) (by rw [e3 _ (by omega), Nat.add_assoc]; exact hq)
  refine ⟨st2, by rw [runP_add, r1]; exact r2, g1, by rw [← Nat.add_assoc]; exact g2, fun i hi => by rw [g3 i (by omega), e3 i (by omega)]⟩
theorem runs_one {C : List Ins} {p : Nat} {x : Ins} {s s' : Shp} (hs : Seg C p [x]) (h1 : x.op ≠ 24) (h2 : x.op ≠ 13) (h3 : x.op ≠ 14) (hx : nextM x s = some s') : Runs C p [x] s s' := by
  intro st hl hlt h0 hn hq
  simp only [List.length_cons, List.length_nil, Nat.zero_add] at hlt hq ⊢
  obtain ⟨st', r1, r2, r3, r4⟩ := reachP (st := st) (t := p + 1) (sh := s') (by omega) hq
  refine ⟨st', ?_, by omega, r3, fun i hi => r4 i (by omega)⟩
  rw [runP_one, hs.at]
  unfold stepM
  rw [List.getD_eq_getElem?_getD, h0]
  simp only [Option.getD_some, hx]
  rw [if_neg h1, if_neg h2, if_neg h3]
  exact r1
/-- operations one behind the other, with at most b values -/
def foldB (b : Nat) : List Ins → Shp → Option Shp
  | [], s => some s
  | x :: r, s => match nextM x s with
    | none => none
    | some s' => if s'.length ≤ b then foldB b r s' else none
theorem next_frame {x : Ins} {ts r s : Shp} (h : nextM x ts = some r) (hl : s.length + r.length ≤ 16) : nextM x (s ++ ts) = some (s ++ r) := by
  unfold nextM at h ⊢
  dsimp only at h ⊢
  split at h
  · rename_i hc
    obtain ⟨c1, c2, c3, c4⟩ := hc
    simp only [Option.some.injEq] at h
    have e1 : (s ++ ts).length - (effF x).1.length = s.length + (ts.length - (effF x).1.length) := by rw [List.length_append]; omega
    have e2 : (s ++ ts).drop (s.length + (ts.length - (effF x).1.length)) = ts.drop (ts.length - (effF x).1.length) := by
      rw [List.drop_append, List.drop_of_length_le (by omega), List.nil_append]
      congr 1
      omega
    have e3 : (s ++ ts).take (s.length + (ts.length - (effF x).1.length)) = s ++ ts.take (ts.length - (effF x).1.length) := by
      rw [List.take_append, List.take_of_length_le (by omega), show s.length + (ts.length - (effF x).1.length) - s.length = ts.length - (effF x).1.length by omega]
    rw [e1, e2, e3]
    have e4 : s ++ ts.take (ts.length - (effF x).1.length) ++ (effF x).2.2.1 = s ++ r := by rw [List.append_assoc, h]
    rw [e4, if_pos ⟨c1, by rw [List.length_append]; omega, c3, by rw [List.length_append]; omega⟩]
  · cases h
theorem runs_line {C : List Ins} (b : Nat) : ∀ (L : List Ins) (p : Nat) (s ts r : Shp), L ≠ [] → Seg C p L → (∀ x ∈ L, x.op ≠ 24 ∧ x.op ≠ 13 ∧ x.op ≠ 14) → foldB b L ts = some r → s.length + b ≤ 16 → Runs C p L (s ++ ts) (s ++ r)
  | [], _, _, _, _, h, _, _, _, _ => absurd rfl h
  | [x], p, s, ts, r, _, hs, ho, hf, hb => by
    obtain ⟨o1, o2, o3⟩ := ho x (by simp)
    unfold foldB at hf
    cases hx : nextM x ts with
    | none => rw [hx] at hf; cases hf
    | some s1 =>
      rw [hx] at hf
      simp only at hf
      split at hf
      · rename_i hl
        simp only [foldB, Option.some.injEq] at hf
        subst hf
        exact runs_one hs o1 o2 o3 (next_frame hx (by omega))
      · cases hf
  | x :: y :: L, p, s, ts, r, _, hs, ho, hf, hb => by
    obtain ⟨o1, o2, o3⟩ := ho x (by simp)
    rw [foldB] at hf
    cases hx : nextM x ts with
    | none => rw [hx] at hf; cases hf
    | some s1 =>
      rw [hx] at hf
      simp only at hf
      split at hf
      · rename_i hl
        have hs1 : Seg C p ([x] ++ (y :: L)) := hs
        exact Runs.app (a := [x]) (runs_one hs1.left o1 o2 o3 (next_frame hx (by omega))) (runs_line b (y :: L) _ s s1 r (by simp) hs1.right (fun z hz => ho z (by simp [hz])) hf hb) (by simp) (by simp)
      · cases hf
/-- a condition and two cases -/
theorem runs_ch {C Lc Ly Ln : List Ins} {p : Nat} {s s' : Shp} (t1 t2 : Int)
    (hs : Seg C p (Lc ++ [⟨14, t1⟩] ++ Ly ++ [⟨13, t2⟩] ++ Ln)) (ht1 : t1 = ((p + Lc.length + 1 + Ly.length + 1 : Nat) : Int)) (ht2 : t2 = ((p + Lc.length + 1 + Ly.length + 1 + Ln.length : Nat) : Int))
    (hc : Runs C p Lc s (s ++ [2])) (hy : Runs C (p + Lc.length + 1) Ly s s') (hn : Runs C (p + Lc.length + 1 + Ly.length + 1) Ln s s') (h1 : Lc ≠ []) (h2 : Ly ≠ []) (h3 : Ln ≠ []) (hl : s.length ≤ 16) (hl' : s'.length ≤ 16) :
    Runs C p (Lc ++ [⟨14, t1⟩] ++ Ly ++ [⟨13, t2⟩] ++ Ln) s s' := by
  intro st hlen hlt h0 hno hq
  have l1 := List.length_pos_iff.2 h1
  have l2 := List.length_pos_iff.2 h2
  have l3 := List.length_pos_iff.2 h3
  have hlen0 : (Lc ++ [(⟨14, t1⟩ : Ins)] ++ Ly ++ [(⟨13, t2⟩ : Ins)] ++ Ln).length = Lc.length + (1 + (Ly.length + (1 + Ln.length))) := by simp only [List.length_append, List.length_cons, List.length_nil]; omega
  rw [hlen0] at hlt hno hq ⊢
  have g14 : C.getD (p + Lc.length) ⟨0, 0⟩ = ⟨14, t1⟩ := (show Seg C (p + Lc.length) (⟨14, t1⟩ :: (Ly ++ [⟨13, t2⟩] ++ Ln)) from (show Seg C p (Lc ++ (⟨14, t1⟩ :: (Ly ++ [⟨13, t2⟩] ++ Ln))) by simpa using hs).right).at
  have g13 : C.getD (p + Lc.length + 1 + Ly.length) ⟨0, 0⟩ = ⟨13, t2⟩ := by
    have h := (show Seg C p ((Lc ++ [⟨14, t1⟩] ++ Ly) ++ (⟨13, t2⟩ :: Ln)) by simpa using hs).right.at
    rw [← h]
    congr 1
    simp only [List.length_append, List.length_cons, List.length_nil]
    omega
  -- the condition
  obtain ⟨st1, r1, e1, e2, e3⟩ := hc st hlen (by omega) h0 (fun i hi hi2 => hno i hi (by omega)) (.inl (hno _ (by omega) (by omega)))
  -- the jump if not
  have n14 : nextM ⟨14, t1⟩ (s ++ [2]) = some s := by
    have := next_frame (x := ⟨14, t1⟩) (ts := [2]) (r := []) (s := s) (by simp [nextM, effF]) (by simpa using hl)
    simpa using this
  obtain ⟨st2, q1, q2, q3, q4⟩ := reachP (st := st1) (t := p + Lc.length + 1 + Ly.length + 1) (sh := s) (by omega) (.inl (by rw [e3 _ (by omega)]; exact hno _ (by omega) (by omega)))
  obtain ⟨st3, u1, u2, u3, u4⟩ := reachP (st := st2) (t := p + Lc.length + 1) (sh := s) (by omega) (.inl (by rw [q4 _ (by omega), e3 _ (by omega)]; exact hno _ (by omega) (by omega)))
  have s14 : runP C (p + Lc.length) 1 st1 = some st3 := by
    rw [runP_one, g14]
    unfold stepM
    rw [List.getD_eq_getElem?_getD, e2]
    simp only [Option.getD_some, n14]
    rw [if_neg (by simp), if_neg (by simp), if_pos trivial, if_pos (by omega), ht1, q1]
    simp only [Option.bind_some]
    rw [← u1]
    congr 1
  -- one case
  obtain ⟨st4, v1, v2, v3, v4⟩ := hy st3 (by omega) (by omega) u3 (fun i hi hi2 => by rw [u4 i (by omega), q4 i (by omega), e3 i (by omega)]; exact hno i (by omega) (by omega)) (.inl (by rw [u4 _ (by omega), q4 _ (by omega), e3 _ (by omega)]; exact hno _ (by omega) (by omega)))
  -- the jump
  have n13 : nextM ⟨13, t2⟩ s' = some s' := by
    simp [nextM, effF, hl']
  have hq4 : st4[p + Lc.length + 1 + Ly.length + 1 + Ln.length]? = st[p + (Lc.length + (1 + (Ly.length + (1 + Ln.length))))]? := by
    rw [v4 _ (by omega), u4 _ (by omega), q4 _ (by omega), e3 _ (by omega)]
    congr 1
    omega
  obtain ⟨st5, w1, w2, w3, w4⟩ := reachP (st := st4) (t := p + Lc.length + 1 + Ly.length + 1 + Ln.length) (sh := s') (by omega) (by rw [hq4]; exact hq)
  have s13 : runP C (p + Lc.length + 1 + Ly.length) 1 st4 = some st5 := by
    rw [runP_one, g13]
    unfold stepM
    rw [List.getD_eq_getElem?_getD, v3]
    simp only [Option.getD_some, n13]
    rw [if_neg (by simp), if_pos trivial, if_pos (by omega), ht2, w1]
  -- the other case
  obtain ⟨st6, x1, x2, x3, x4⟩ := hn st5 (by omega) (by omega) (by rw [w4 _ (by omega), v4 _ (by omega), u4 _ (by omega)]; exact q3) (fun i hi hi2 => by rw [w4 i (by omega), v4 i (by omega), u4 i (by omega), q4 i (by omega), e3 i (by omega)]; exact hno i (by omega) (by omega)) (.inr w3)
  refine ⟨st6, ?_, x2, ?_, fun i hi => by rw [x4 i (by omega), w4 i (by omega), v4 i (by omega), u4 i (by omega), q4 i (by omega), e3 i (by omega)]⟩
  · rw [runP_add, r1, Option.bind_some, runP_add, s14, Option.bind_some, runP_add, v1, Option.bind_some, runP_add, s13, Option.bind_some]
    exact x1
  · rw [← x3]
    congr 1
    omega
end Go.Proofs.YtgpibcgebpgmiaaDoor


namespace Go.Proofs.YtgpibcgebpgmiaaDoor
open Go Go.Eng Go.RowKit
set_option linter.unusedVariables false
set_option linter.unusedSimpArgs false
theorem sig_mem {x : Sig} (h : sigI x ≠ 0) : (x, Value.int .i64 (sigI x)) ∈ sigs := by
  have hs := sigF_int x
  unfold sigI sigF mget at *
  cases hf : sigs.find? (fun p => decide (p.1 = x)) with
  | none => rw [hf] at h; simp at h
  | some p =>
    have h1 := List.mem_of_find?_eq_some hf
    have h2 := List.find?_some hf
    simp only [decide_eq_true_eq] at h2
    rw [hf] at hs
    simp only at hs ⊢
    rw [← hs, ← h2]
    exact h1
theorem sig_cases {x : Sig} (h : sigI x ≠ 0) : ∃ e ∈ sigs, x = e.1 ∧ e.2 = .int .i64 (sigI x) := ⟨_, sig_mem h, rfl, rfl⟩
theorem ts_of {ts : List Int} (h0 : (0 : Int) ∉ ts) (h3 : ts.length ≤ 3) (hn : ts ≠ []) (h2 : ts.getD 2 0 = 0) : (ts.getD 1 0 = 0 ∧ ts = [ts.getD 0 0]) ∨ (ts.getD 1 0 ≠ 0 ∧ ts = [ts.getD 0 0, ts.getD 1 0]) := by
  match ts, h3 with
  | [], _ => exact absurd rfl hn
  | [a], _ => left; exact ⟨rfl, rfl⟩
  | [a, b], _ => right; refine ⟨fun hb => h0 ?_, rfl⟩; simp at hb; simp [hb]
  | [a, b, c], _ => exact absurd (by simp at h2; simp [h2]) h0
theorem combT_cases {k n : Int} {s : Str} {ts : List Int} (h : combT k n s ts ≠ 0) :
    (ts = [] ∧ combT k n s ts = leafN k n s) ∨
    ((0 : Int) ∉ ts ∧ ts.length ≤ 3 ∧ ts ≠ [] ∧ ((k = 9 ∧ ts = [2, combT k n s ts, combT k n s ts]) ∨ (k = 6 ∧ ts.getD 2 0 = 0 ∧ combT k n s ts = binT s (ts.getD 0 0) (ts.getD 1 0)) ∨ (combT k n s ts = sigI ⟨k, s, ts.getD 0 0, ts.getD 1 0, ts.getD 2 0⟩))) := by
  unfold combT at h ⊢
  split at h
  · exact absurd rfl h
  · rename_i h3
    split at h
    · exact absurd rfl h
    · rename_i h0
      rw [if_neg h3, if_neg h0]
      split at h
      · rename_i he
        left
        exact ⟨he, by rw [if_pos he]⟩
      · rename_i he
        right
        rw [if_neg he]
        refine ⟨h0, by omega, he, ?_⟩
        split at h
        · exact absurd rfl h
        · rename_i hn
          rw [if_neg hn]
          split at h
          · rename_i h9
            left
            rw [if_pos h9]
            refine ⟨h9.1, ?_⟩
            obtain ⟨_, _, e2, e3⟩ := h9
            match ts, h3 with
            | [], _ => exact absurd rfl he
            | [a], _ => simp at e2 e3 h
            | [a, b], _ => simp at e2 e3 h; exact absurd e3 h
            | [a, b, c], _ => simp at e2 e3 ⊢; exact ⟨e2, e3.symm⟩
            | a :: b :: c :: d :: r, h3 => simp at h3
          · rename_i h9
            rw [if_neg h9]
            split at h
            · rename_i h6
              right; left
              rw [if_pos h6]
              exact ⟨h6.1, h6.2, rfl⟩
            · rename_i h6
              right; right
              rw [if_neg h6]
theorem len2 {α : Type} {l : List α} (h : l.length = 2) : ∃ a b, l = [a, b] := by
  match l, h with
  | [a, b], _ => exact ⟨a, b, rfl⟩
theorem len3 {α : Type} {l : List α} (h : l.length = 3) : ∃ a b c, l = [a, b, c] := by
  match l, h with
  | [a, b, c], _ => exact ⟨a, b, c, rfl⟩
theorem codeN_ne (x : Nd) : typeT x ≠ 0 → ∀ p, codeN x p ≠ [] := by
  induction x using Nd.ind with
  | h k n s l ih =>
  intro ht p
  have hk : ∀ y ∈ l, typeT y ≠ 0 := fun y hy => typeT_kid (x := .mk k n s l) ht hy
  rw [codeN]
  unfold combC
  have hp : ∀ p, l ≠ [] → plainC k s (l.map codeN) p ≠ [] := by
    intro p hl
    unfold plainC
    cases l with
    | nil => exact absurd rfl hl
    | cons y r =>
      have := ih y (by simp) (hk y (by simp)) p
      simp only [List.map_cons, seqC]
      intro h
      simp only [List.append_eq_nil_iff] at h
      exact this h.1.1.1
  split
  · simp
  · rename_i hl
    have hl' : l ≠ [] := fun h => hl (by rw [h]; rfl)
    split
    · unfold chC; simp
    · split
      · unfold chC; simp
      · split
        · unfold chC; simp
        · split
          · simp
          · exact hp p hl'
theorem runs_seq {C : List Ins} : ∀ (l : List Nd), (∀ y ∈ l, ∀ p s, Seg C p (codeN y p) → s.length + nestN y ≤ 16 → Runs C p (codeN y p) s (s ++ [typeT y])) → (∀ y ∈ l, ∀ p, codeN y p ≠ []) →
    ∀ p s, l ≠ [] → Seg C p (seqC (l.map codeN) p) → (∀ y ∈ l, s.length + (l.length - 1) + nestN y ≤ 16) → Runs C p (seqC (l.map codeN) p) s (s ++ l.map typeT)
  | [], _, _, _, _, h, _, _ => absurd rfl h
  | [y], hr, hne, p, s, _, hs, hb => by
    have e : seqC ([y].map codeN) p = codeN y p := by simp [seqC]
    rw [e] at hs ⊢
    exact hr y (by simp) p s hs (by have := hb y (by simp); simpa using this)
  | y :: z :: l, hr, hne, p, s, _, hs, hb => by
    have e : seqC ((y :: z :: l).map codeN) p = codeN y p ++ seqC ((z :: l).map codeN) (p + (codeN y p).length) := by simp [seqC]
    rw [e] at hs ⊢
    have h1 := hr y (by simp) p s hs.left (by have := hb y (by simp); omega)
    have h2 := runs_seq (z :: l) (fun y hy => hr y (by simp [hy])) (fun y hy => hne y (by simp [hy])) (p + (codeN y p).length) (s ++ [typeT y]) (by simp) hs.right (fun w hw => by
      have := hb w (by simp [hw])
      simp only [List.length_append, List.length_cons, List.length_nil] at this ⊢
      omega)
    have h3 : seqC ((z :: l).map codeN) (p + (codeN y p).length) ≠ [] := by
      simp only [List.map_cons, seqC]
      intro h
      simp only [List.append_eq_nil_iff] at h
      exact hne z (by simp) _ h.1
    have := Runs.app h1 h2 (hne y (by simp) p) h3
    simpa using this
/-- kids, and operations behind them -/
theorem runs_plain {C : List Ins} {l : List Nd} {L : List Ins} {p : Nat} {s ts r : Shp} (hr : ∀ y ∈ l, ∀ p s, Seg C p (codeN y p) → s.length + nestN y ≤ 16 → Runs C p (codeN y p) s (s ++ [typeT y])) (hne : ∀ y ∈ l, ∀ p, codeN y p ≠ [])
    (hts : l.map typeT = ts) (hl : l ≠ []) (hL : L ≠ []) (hs : Seg C p (seqC (l.map codeN) p ++ L)) (hb : ∀ y ∈ l, s.length + (l.length - 1) + nestN y ≤ 16) (ho : ∀ x ∈ L, x.op ≠ 24 ∧ x.op ≠ 13 ∧ x.op ≠ 14) (hf : foldB 2 L ts = some r) (h2 : s.length + 2 ≤ 16) :
    Runs C p (seqC (l.map codeN) p ++ L) s (s ++ r) := by
  have h1 := runs_seq l hr hne p s hl hs.left hb
  rw [hts] at h1
  have h3 : seqC (l.map codeN) p ≠ [] := by
    cases l with
    | nil => exact absurd rfl hl
    | cons y l =>
      simp only [List.map_cons, seqC]
      intro h
      simp only [List.append_eq_nil_iff] at h
      exact hne y (by simp) _ h.1
  exact Runs.app h1 (runs_line 2 L _ s ts r hL hs.right ho hf h2) h3 hL
def extraL (k : Int) (s : Str) : List Ins := (if k = 8 ∨ k = 5 ∧ s = [45] then [⟨8, 0⟩] else []) ++ insO (opF s)
theorem plainC_eq (k : Int) (s : Str) (cs : List Cf) (p : Nat) : plainC k s cs p = seqC cs p ++ extraL k s := by unfold plainC extraL; rw [List.append_assoc]
def okL (L : List Ins) (ts : List Int) (t : Int) : Bool := decide (L ≠ []) && L.all (fun x => decide (x.op ≠ 24 ∧ x.op ≠ 13 ∧ x.op ≠ 14)) && decide (foldB 2 L ts = some [t])
theorem okL_spec {L : List Ins} {ts : List Int} {t : Int} (h : okL L ts t = true) : L ≠ [] ∧ (∀ x ∈ L, x.op ≠ 24 ∧ x.op ≠ 13 ∧ x.op ≠ 14) ∧ foldB 2 L ts = some [t] := by
  unfold okL at h
  simp only [Bool.and_eq_true, decide_eq_true_eq, List.all_eq_true] at h
  exact ⟨h.1.1, h.1.2, h.2⟩
/-- every row of the table of signatures: its operations have its types -/
def sigOk (e : SigE) : Bool :=
  match e.2 with
  | .int .i64 t => decide (e.1.kind ≠ 9) && decide (e.1.kind ≠ 6) && decide (e.1.c = 0) && okL (extraL e.1.kind e.1.s) (if e.1.b = 0 then [e.1.a] else [e.1.a, e.1.b]) t
  | _ => false
theorem sigs_ok : sigs.all sigOk = true := by decide +kernel
theorem arith_ok : opsA.all (fun s => okL (extraL 6 s ++ (if s = [45] then [⟨6, 0⟩] else [])) [1, 1] 1 && !decide (s = [97, 110, 100]) && !decide (s = [111, 114])) = true := by decide +kernel
theorem comp_ok : opsC.all (fun s => okL (extraL 6 s) [1, 1] 2 && okL (extraL 6 s) [3, 3] 2 && !decide (s = [97, 110, 100]) && !decide (s = [111, 114]) && !decide (s = [45])) = true := by decide +kernel
theorem code_runs (C : List Ins) (x : Nd) : typeT x ≠ 0 → ∀ p s, Seg C p (codeN x p) → s.length + nestN x ≤ 16 → Runs C p (codeN x p) s (s ++ [typeT x]) := by
  induction x using Nd.ind with
  | h k n s l ih =>
  intro ht p sh hs hb
  have hk : ∀ y ∈ l, typeT y ≠ 0 := fun y hy => typeT_kid (x := .mk k n s l) ht hy
  have hr : ∀ y ∈ l, ∀ p s, Seg C p (codeN y p) → s.length + nestN y ≤ 16 → Runs C p (codeN y p) s (s ++ [typeT y]) := fun y hy => ih y hy (hk y hy)
  have hne : ∀ y ∈ l, ∀ p, codeN y p ≠ [] := fun y hy => codeN_ne y (hk y hy)
  have hnest : ∀ y ∈ l, nestN y + 1 ≤ nestN (.mk k n s l) := fun y hy => by have := nest_kid (x := .mk k n s l) hy; omega
  have hrange := typeT_range (.mk k n s l)
  have hteq : typeT (.mk k n s l) = combT k n s (l.map typeT) := typeT_eq _
  rw [codeN] at hs ⊢
  rw [hteq] at ht hrange ⊢
  rcases combT_cases ht with ⟨he, hc⟩ | ⟨h0, h3, hn0, hc⟩
  · -- a leaf
    have hl : l = [] := by simpa using he
    subst hl
    unfold combC at hs ⊢
    rw [if_pos (show (List.map codeN ([] : List Nd)).length = 0 from rfl)] at hs ⊢
    rw [hc] at ht ⊢
    have hlen : sh.length + 1 ≤ 16 := by
      have : 1 ≤ nestN (.mk k n s []) := by rw [nestN_eq]; omega
      omega
    refine runs_one hs ?_ ?_ ?_ ?_
    · unfold leafI; split <;> (try split) <;> (try split) <;> simp
    · unfold leafI; split <;> (try split) <;> (try split) <;> simp
    · unfold leafI; split <;> (try split) <;> (try split) <;> simp
    · have hnx : nextM (leafI k n s) [] = some [leafN k n s] := by
        unfold leafN at ht ⊢
        unfold leafI
        by_cases k4 : k = 4
        · subst k4
          rw [if_pos rfl] at ht ⊢
          split at ht
          · rename_i hn
            rw [if_pos hn]
            have hf : ((fieldF s).2.1 = 3 ∧ ((fieldF s).1 = 0 ∨ (fieldF s).1 = 1)) ∨ ((fieldF s).2.1 = 1 ∧ 2 ≤ (fieldF s).1 ∧ (fieldF s).1 < 7) := by
              have h1 : (fieldF s).2.2 = true := by
                cases hb : (fieldF s).2.2 with
                | true => rfl
                | false => exact absurd (fieldF_no hb) ht
              obtain ⟨i, hi, hsn, _⟩ := (field_spec s (fieldF s).1).1 ⟨h1, rfl⟩
              subst hsn
              match i, hi with
              | 0, _ => decide +kernel
              | 1, _ => decide +kernel
              | 2, _ => decide +kernel
              | 3, _ => decide +kernel
              | 4, _ => decide +kernel
              | 5, _ => decide +kernel
              | 6, _ => decide +kernel
            rw [if_neg (by decide), if_neg (by decide), if_neg (by decide)]
            rcases hf with ⟨e1, e2⟩ | ⟨e1, e2, e3⟩
            · simp [nextM, effF, e1, e2]; omega
            · simp [nextM, effF, e1]; omega
          · exact absurd rfl ht
        · rw [if_neg k4] at ht ⊢
          split at ht
          · exact absurd rfl ht
          · rename_i hs0
            rw [if_neg hs0]
            by_cases k1 : k = 1
            · rw [if_pos k1] at ht ⊢
              rw [if_pos k1]
              split at ht
              · rename_i h; rw [if_pos h]; simp [nextM, effF]; omega
              · exact absurd rfl ht
            · rw [if_neg k1] at ht ⊢
              rw [if_neg k1]
              by_cases k2 : k = 2
              · rw [if_pos k2] at ht ⊢
                rw [if_pos k2]
                split at ht
                · rename_i h; rw [if_pos h]; simp [nextM, effF]; omega
                · exact absurd rfl ht
              · rw [if_neg k2] at ht ⊢
                rw [if_neg k2]
                by_cases k3 : k = 3
                · rw [if_pos k3] at ht ⊢
                  rw [if_pos k3]
                  split at ht
                  · rename_i h; rw [if_pos h]; simp [nextM, effF]; omega
                  · exact absurd rfl ht
                · rw [if_neg k3] at ht; exact absurd rfl ht
      have := next_frame (s := sh) hnx (by simpa using hlen)
      simpa using this
  · have hl : l ≠ [] := fun h => hn0 (by rw [h]; rfl)
    have hlen : l.length ≤ 3 := by simpa using h3
    have hlen0 : ¬ (l.map codeN).length = 0 := by simpa using hl
    unfold combC at hs ⊢
    rw [if_neg hlen0] at hs ⊢
    rcases hc with ⟨h9, hts⟩ | ⟨h6, hg2, hbt⟩ | hsg
    · -- if
      rw [if_pos h9] at hs ⊢
      generalize combT k n s (l.map typeT) = t at *
      have hl3 : l.length = 3 := by have := congrArg List.length hts; simpa using this
      obtain ⟨a, b, c, rfl⟩ := len3 hl3
      · simp only [List.map_cons, List.map_nil, List.cons.injEq, and_true] at hts
        obtain ⟨ta, tb, tc⟩ := hts
        simp only [List.map_cons, List.map_nil, List.getD_cons_zero, List.getD_cons_succ] at hs ⊢
        unfold chC at hs ⊢
        have na := hnest a (by simp)
        have nb := hnest b (by simp)
        have nc := hnest c (by simp)
        refine runs_ch _ _ hs rfl rfl ?_ ?_ ?_ (hne a (by simp) _) (hne b (by simp) _) (hne c (by simp) _) (by omega) (by simp only [List.length_append, List.length_cons, List.length_nil]; omega)
        · rw [← ta]
          exact hr a (by simp) p sh (by have := hs.left.left.left.left; exact this) (by omega)
        · rw [← tb]
          have h2 := hs.left.left.right
          simp only [List.length_append, List.length_cons, List.length_nil] at h2
          exact hr b (by simp) _ sh h2 (by omega)
        · rw [← tc]
          have h2 := hs.right
          simp only [List.length_append, List.length_cons, List.length_nil] at h2
          have e : p + ((codeN a p).length + (0 + 1) + (codeN b (p + (codeN a p).length + 1)).length + (0 + 1)) = p + (codeN a p).length + 1 + (codeN b (p + (codeN a p).length + 1)).length + 1 := by omega
          rw [e] at h2
          exact hr c (by simp) _ sh h2 (by omega)
    · -- a binary operator
      subst h6
      rw [if_neg (by decide)] at hs ⊢
      rcases ts_of h0 h3 hn0 hg2 with ⟨hb0, hts⟩ | ⟨hb0, hts⟩
      · exfalso
        apply ht
        rw [hbt, hb0]
        have ha0 : (l.map typeT).getD 0 0 ≠ 0 := fun h => h0 (by rw [hts, h]; simp)
        unfold binT
        split
        · rw [if_neg (by omega)]
        · split
          · rw [if_neg (by omega)]
          · split
            · rw [if_neg (by omega)]
            · rfl
      · have hl2 : l.length = 2 := by have := congrArg List.length hts; simpa using this
        obtain ⟨a, b, rfl⟩ := len2 hl2
        · simp only [List.map_cons, List.map_nil, List.getD_cons_zero, List.getD_cons_succ] at hbt
          have na := hnest a (by simp)
          have nb := hnest b (by simp)
          have ra := typeT_range a
          have hbnd : ∀ y ∈ [a, b], sh.length + ([a, b].length - 1) + nestN y ≤ 16 := fun y hy => by
            have := hnest y hy
            simp only [List.length_cons, List.length_nil]
            omega
          have h2 : sh.length + 2 ≤ 16 := by
            have : 1 ≤ nestN a := by rw [nestN_eq]; omega
            omega
          by_cases hA : s ∈ opsA
          · have hok := List.all_eq_true.1 arith_ok s hA
            simp only [Bool.and_eq_true, Bool.not_eq_true', decide_eq_false_iff_not] at hok
            obtain ⟨⟨hok, hand⟩, hor⟩ := hok
            obtain ⟨o1, o2, o3⟩ := okL_spec hok
            have hab : typeT a = typeT b ∧ typeT a = 1 := by
              unfold binT at hbt
              rw [if_pos hA] at hbt
              split at hbt
              · assumption
              · exact absurd hbt ht
            have ht1 : combT 6 n s ([a, b].map typeT) = 1 := by
              show combT 6 n s [typeT a, typeT b] = 1
              rw [hbt]; unfold binT; rw [if_pos hA, if_pos hab]
            rw [ht1]
            rw [if_neg (by intro h; exact hand h.2), if_neg (by intro h; exact hor h.2)] at hs ⊢
            split at hs
            · rename_i hm
              rw [if_pos hm]
              rw [plainC_eq, List.append_assoc] at hs ⊢
              rw [if_pos hm.2] at o1 o2 o3
              exact runs_plain hr hne (ts := [1, 1]) (by simp [hab.2, ← hab.1]) (by simp) o1 hs hbnd o2 o3 h2
            · rename_i hm
              rw [if_neg hm]
              have hm' : ¬ s = [45] := fun h => hm ⟨rfl, h⟩
              rw [if_neg hm', List.append_nil] at o1 o2 o3
              rw [plainC_eq] at hs ⊢
              exact runs_plain hr hne (ts := [1, 1]) (by simp [hab.2, ← hab.1]) (by simp) o1 hs hbnd o2 o3 h2
          · by_cases hC : s ∈ opsC
            · have hok := List.all_eq_true.1 comp_ok s hC
              simp only [Bool.and_eq_true, Bool.not_eq_true', decide_eq_false_iff_not] at hok
              obtain ⟨⟨⟨⟨hok1, hok3⟩, hand⟩, hor⟩, hmi⟩ := hok
              have hab : typeT a = typeT b ∧ ¬ typeT a = 2 := by
                unfold binT at hbt
                rw [if_neg hA, if_pos hC] at hbt
                split at hbt
                · assumption
                · exact absurd hbt ht
              have ht2 : combT 6 n s ([a, b].map typeT) = 2 := by
                show combT 6 n s [typeT a, typeT b] = 2
                rw [hbt]; unfold binT; rw [if_neg hA, if_pos hC, if_pos hab]
              rw [ht2]
              rw [if_neg (by intro h; exact hand h.2), if_neg (by intro h; exact hor h.2), if_neg (by intro h; exact hmi h.2), plainC_eq] at hs ⊢
              have ka := hk a (by simp)
              have h13 : typeT a = 1 ∨ typeT a = 3 := by omega
              rcases h13 with h | h
              · obtain ⟨o1, o2, o3⟩ := okL_spec hok1
                exact runs_plain hr hne (ts := [1, 1]) (by simp [h, ← hab.1]) (by simp) o1 hs hbnd o2 o3 h2
              · obtain ⟨o1, o2, o3⟩ := okL_spec hok3
                exact runs_plain hr hne (ts := [3, 3]) (by simp [h, ← hab.1]) (by simp) o1 hs hbnd o2 o3 h2
            · have hL : s ∈ opsL := by
                by_cases hL : s ∈ opsL
                · exact hL
                · exfalso; apply ht; show combT 6 n s [typeT a, typeT b] = 0; rw [hbt]; unfold binT; rw [if_neg hA, if_neg hC, if_neg hL]
              have hab : typeT a = typeT b ∧ typeT a = 2 := by
                unfold binT at hbt
                rw [if_neg hA, if_neg hC, if_pos hL] at hbt
                split at hbt
                · assumption
                · exact absurd hbt ht
              have ht2 : combT 6 n s ([a, b].map typeT) = 2 := by
                show combT 6 n s [typeT a, typeT b] = 2
                rw [hbt]; unfold binT; rw [if_neg hA, if_neg hC, if_pos hL, if_pos hab]
              rw [ht2]
              have hconst : ∀ (z : Int) (q : Nat), (z = 0 ∨ z = 1) → Seg C q [⟨2, z⟩] → Runs C q [⟨2, z⟩] sh (sh ++ [2]) := fun z q hz hsq => by
                have hnx : nextM ⟨2, z⟩ [] = some [2] := by simp [nextM, effF, hz]
                have := next_frame (s := sh) hnx (by simp only [List.length_cons, List.length_nil]; omega)
                rw [List.append_nil] at this
                exact runs_one hsq (by simp) (by simp) (by simp) this
              simp only [opsL, List.mem_cons, List.not_mem_nil, or_false] at hL
              rcases hL with hL | hL
              · rw [if_pos ⟨rfl, hL⟩] at hs ⊢
                simp only [List.map_cons, List.map_nil, List.getD_cons_zero, List.getD_cons_succ] at hs ⊢
                unfold chC at hs ⊢
                refine runs_ch _ _ hs rfl rfl ?_ ?_ ?_ (hne a (by simp) _) (hne b (by simp) _) (by simp) (by omega) (by simp only [List.length_append, List.length_cons, List.length_nil]; omega)
                · have h1 := hr a (by simp) p sh hs.left.left.left.left (by omega)
                  rw [hab.2] at h1
                  exact h1
                · have h2 := hs.left.left.right
                  simp only [List.length_append, List.length_cons, List.length_nil] at h2
                  have h1 := hr b (by simp) _ sh h2 (by omega)
                  rw [← hab.1, hab.2] at h1
                  exact h1
                · have h2 := hs.right
                  simp only [List.length_append, List.length_cons, List.length_nil] at h2
                  have e : p + ((codeN a p).length + (0 + 1) + (codeN b (p + (codeN a p).length + 1)).length + (0 + 1)) = p + (codeN a p).length + 1 + (codeN b (p + (codeN a p).length + 1)).length + 1 := by omega
                  rw [e] at h2
                  exact hconst 0 _ (.inl rfl) h2
              · have hna : ¬ ((6 : Int) = 6 ∧ s = [97, 110, 100]) := by rintro ⟨_, h⟩; rw [hL] at h; exact absurd h (by decide)
                rw [if_neg hna, if_pos ⟨rfl, hL⟩] at hs ⊢
                simp only [List.map_cons, List.map_nil, List.getD_cons_zero, List.getD_cons_succ] at hs ⊢
                unfold chC at hs ⊢
                refine runs_ch _ _ hs rfl rfl ?_ ?_ ?_ (hne a (by simp) _) (by simp) (hne b (by simp) _) (by omega) (by simp only [List.length_append, List.length_cons, List.length_nil]; omega)
                · have h1 := hr a (by simp) p sh hs.left.left.left.left (by omega)
                  rw [hab.2] at h1
                  exact h1
                · have h2 := hs.left.left.right
                  simp only [List.length_append, List.length_cons, List.length_nil] at h2
                  exact hconst 1 _ (.inr rfl) h2
                · have h2 := hs.right
                  simp only [List.length_append, List.length_cons, List.length_nil] at h2
                  have e : p + ((codeN a p).length + (0 + 1) + (0 + 1) + (0 + 1)) = p + (codeN a p).length + 1 + (0 + 1) + 1 := by omega
                  rw [e] at h2
                  have h1 := hr b (by simp) _ sh h2 (by omega)
                  rw [← hab.1, hab.2] at h1
                  exact h1
    · -- the other operators
      obtain ⟨e, he, hxe, hev⟩ := sig_cases (by rw [← hsg]; exact ht)
      have hok := List.all_eq_true.1 sigs_ok e he
      unfold sigOk at hok
      rw [hev] at hok
      simp only [Bool.and_eq_true, decide_eq_true_eq] at hok
      obtain ⟨⟨⟨k9, k6⟩, hc0⟩, hokl⟩ := hok
      rw [← hxe] at k9 k6 hc0 hokl
      simp only at k9 k6 hc0 hokl
      obtain ⟨o1, o2, o3⟩ := okL_spec hokl
      rw [if_neg k9, if_neg (by intro h; exact k6 h.1), if_neg (by intro h; exact k6 h.1), if_neg (by intro h; exact k6 h.1), plainC_eq] at hs ⊢
      rw [hsg]
      have hts : l.map typeT = (if (l.map typeT).getD 1 0 = 0 then [(l.map typeT).getD 0 0] else [(l.map typeT).getD 0 0, (l.map typeT).getD 1 0]) := by
        rcases ts_of h0 h3 hn0 hc0 with ⟨h1, h2⟩ | ⟨h1, h2⟩
        · rw [if_pos h1]; exact h2
        · rw [if_neg h1]; exact h2
      have hl2 : l.length ≤ 2 := by
        have := congrArg List.length hts
        rw [List.length_map] at this
        split at this <;> simp only [List.length_cons, List.length_nil] at this <;> omega
      have h2 : sh.length + 2 ≤ 16 := by
        cases l with
        | nil => exact absurd rfl hl
        | cons y r =>
          have := hnest y (by simp)
          have : 1 ≤ nestN y := by rw [nestN_eq]; omega
          omega
      exact runs_plain hr hne hts hl o1 hs (fun y hy => by have := hnest y hy; omega) o2 o3 h2
/-- the code of an expression is valid and has its type -/
theorem verM_expr (y : Nd) (ht : typeT y ≠ 0) (hn : nestN y ≤ 12) (hl : (exprF y).length ≤ 200) : verM (exprF y) = (typeT y, 0) := by
  have hne := codeN_ne y ht 0
  have hpos := List.length_pos_iff.2 hne
  unfold exprF at hl ⊢
  have hlen : (codeN y 0 ++ [(⟨24, 0⟩ : Ins)]).length = (codeN y 0).length + 1 := by simp
  have hr := code_runs (codeN y 0 ++ [⟨24, 0⟩]) y ht 0 [] ⟨[], [⟨24, 0⟩], by simp, rfl⟩ (by simp only [List.length_nil]; omega)
  obtain ⟨st, r1, r2, r3, _⟩ := hr ((some []) :: List.replicate ((codeN y 0 ++ [(⟨24, 0⟩ : Ins)]).length - 1) none) (by simp) (by rw [hlen]; omega) (by simp) (fun i hi hi2 => by
    cases i with
    | zero => omega
    | succ i =>
      rw [List.getElem?_cons_succ, List.getElem?_replicate, if_pos (by rw [hlen]; omega)]) (.inl (by
    rw [Nat.zero_add]
    obtain ⟨m, hm⟩ : ∃ m, (codeN y 0).length = m + 1 := ⟨(codeN y 0).length - 1, by omega⟩
    rw [hm, List.getElem?_cons_succ, List.getElem?_replicate, if_pos (by rw [hlen]; omega)]))
  rw [Nat.zero_add] at r3
  rw [List.nil_append] at r3
  unfold verM
  rw [if_neg (by rw [hlen] at hl ⊢; omega)]
  have hrun : runM (codeN y 0 ++ [⟨24, 0⟩]) (codeN y 0 ++ [(⟨24, 0⟩ : Ins)]).length ((some []) :: List.replicate ((codeN y 0 ++ [(⟨24, 0⟩ : Ins)]).length - 1) none) = some st := by
    rw [runM_runP]
    conv => lhs; arg 3; rw [hlen]
    rw [runP_add, r1, Option.bind_some, Nat.zero_add, runP_one]
    have hg : (codeN y 0 ++ [(⟨24, 0⟩ : Ins)]).getD (codeN y 0).length ⟨0, 0⟩ = ⟨24, 0⟩ := by simp
    rw [hg]
    unfold stepM
    rw [List.getD_eq_getElem?_getD, r3]
    have hnx : nextM ⟨24, 0⟩ [typeT y] = some [typeT y] := by simp [nextM, effF]
    simp only [Option.getD_some, hnx]
    rw [if_pos trivial, if_pos (by constructor <;> simp [r2])]
  rw [hrun]
  have e : (codeN y 0 ++ [(⟨24, 0⟩ : Ins)]).length - 1 = (codeN y 0).length := by rw [hlen]; omega
  simp only [e]
  rw [List.getD_eq_getElem?_getD, r3]
  rfl
end Go.Proofs.YtgpibcgebpgmiaaDoor


namespace Go.Proofs.YtgpibcgebpgmiaaDoor
open Go Go.Eng Go.RowKit
set_option linter.unusedVariables false
set_option linter.unusedSimpArgs false
/-! ### parts -/
theorem PartR.type {m n a b : Nd} (h : PartR m n a b) : typeT n ≠ 0 → typeT a ≠ 0 := by
  induction h with
  | here n => exact id
  | kid n i hi a b h ih => exact fun ht => ih (typeT_kid ht (List.getElem_mem hi))
theorem PartR.same {m n a b : Nd} (h : PartR m n a b) : typeT a = typeT m → typeT b = typeT n := by
  induction h with
  | here n => exact fun h => h.symm
  | kid n i hi a b h ih =>
    intro hm
    have hb := ih hm
    rw [typeT_eq (.mk _ _ _ _), typeT_eq n]
    show combT n.kind n.num n.word ((n.kids.set i b).map typeT) = _
    rw [List.map_set, hb]
    congr 1
    apply List.ext_getElem (by simp)
    intro j h1 h2
    rw [List.getElem_set]
    split
    · rename_i e; subst e; simp
    · rfl
end Go.Proofs.YtgpibcgebpgmiaaDoor

/-
The walk engine, part 4 B: as part 4, with a base below which the old blocks stand (blocks made inside the region may change). The operations are taken in one order of our own; each either yields one value in every world that may come up, or is the only one that is ready.
-/
namespace Go.EngB
open Go Go.Eng Go.RowKit Go.Proofs
set_option linter.unusedVariables false
/-- the blocks below S.1 that are not of S.2 stand -/
structure StpB (S : Nat × List Nat) (w w' : World) : Prop where
  os : w'.os = w.os
  tape : w'.tape = w.tape
  output : w'.output = w.output
  size : w.heap.size ≤ w'.heap.size
  block : ∀ b, b < S.1 → b ∉ S.2 → w'.heap[b]? = w.heap[b]?
theorem StpB.refl (S : Nat × List Nat) (w : World) : StpB S w w := ⟨rfl, rfl, rfl, Nat.le_refl _, fun _ _ _ => rfl⟩
theorem StpB.trans {S : Nat × List Nat} {a b c : World} (h : StpB S a b) (k : StpB S b c) : StpB S a c :=
  ⟨k.os.trans h.os, k.tape.trans h.tape, k.output.trans h.output, Nat.le_trans h.size k.size, fun x hx hn => (k.block x hx hn).trans (h.block x hx hn)⟩
theorem StpB.blk {B b T : Nat} {cs : List Value} {w w' : World} (h : StpB (B, []) w w') (hb : Blk w b T cs) (hl : b < B) : Blk w' b T cs := by
  unfold Blk at *
  rw [h.block b hl (by simp)]
  exact hb

section any
variable {P : Program} {ops : Array Oper} {md : Region.Mode} {S : Nat × List Nat} {Lt : Nat → Bool}

theorem wp_noQ {o : Oper} {a : Act} {w : World} {K : Act → World → Prop} {Q : Exit → Act → World → Prop} (h : o.wp P a w K (fun _ _ _ => False)) : o.wp P a w K Q := by
  unfold Oper.wp at *
  generalize (execOp a.eval o).run P w = r at *
  cases r with
  | ok n w' =>
    cases n <;> simp only [Oper.upon] at h ⊢
    case enter f args =>
      refine Calls.mono h (fun e w'' he => ?_)
      cases e with
      | returned v => exact he
      | panicked c => exact he.elim
      | outgrown => obtain ⟨_, _, hf⟩ := he; exact hf.elim
    all_goals exact h
  | halt x w' => cases x <;> simp only [Oper.upon] at h

theorem wpOp_noQ {i : Nat} {K : Act → World → Prop} {Q : Exit → Act → World → Prop} {a : Act} {w : World} (h : wpOp P ops (fun _ _ _ => False) i K a w) : wpOp P ops Q i K a w := by
  unfold wpOp at *
  cases ho : ops[i]? with
  | none => simp only [ho] at h ⊢; exact h
  | some o =>
    simp only [ho] at h ⊢
    split
    · rename_i hw
      simp only [hw, if_true] at h
      rcases h with h | ⟨_, _, _, hf⟩
      · exact .inl (wp_noQ h)
      · exact hf.elim
    · rename_i hw; simp only [hw] at h; exact h

/-- whatever order is picked from here on; the old blocks stand but behind the operations of Lt -/
def wpAnyE (P : Program) (md : Region.Mode) (ops : Array Oper) (S : Nat × List Nat) (Lt : Nat → Bool) (Z : Act → World → Prop) : Nat → Array Bool → Act → World → Prop
  | 0, listed, a, w => Region.ready md ops listed = [] ∧ Z a w
  | fuel + 1, listed, a, w =>
    (Region.ready md ops listed = [] → Z a w) ∧
    ∀ i ∈ Region.ready md ops listed, wpOp P ops (fun _ _ _ => False) i (fun a' w' => (StpB S w w' ∨ Lt i = true) ∧ wpAnyE P md ops S Lt Z fuel (listed.setIfInBounds i true) a' w') a w

theorem wpAny_of_E {Z : Act → World → Prop} {Q : Exit → Act → World → Prop} (hZ : ∀ a w, Z a w → Q .normal a w) : ∀ (fuel : Nat) (listed : Array Bool) (a : Act) (w : World),
    wpAnyE P md ops S Lt Z fuel listed a w → wpAny P md ops Q fuel listed a w
  | 0, _, _, _, h => ⟨h.1, hZ _ _ h.2⟩
  | fuel + 1, _, _, _, h => ⟨fun h0 => hZ _ _ (h.1 h0), fun i hi => wpOp_mono (fun a' w' hk => wpAny_of_E hZ fuel _ a' w' hk.2) (wpOp_noQ (h.2 i hi))⟩

/-- operation o yields v in every world to which R leads -/
def YE (P : Program) (ops : Array Oper) (R : World → World → Prop) (o : Oper) (v : Value) (a : Act) (w : World) : Prop :=
  (Region.wanted o (yielded ops a.tmps) = true ∧ ∀ w', R w w' → (execOp a.eval o).run P w' = .ok (.value v) w') ∨
  (Region.wanted o (yielded ops a.tmps) = false ∧ v = undef)

theorem YE.same {R : World → World → Prop} {o : Oper} {v : Value} {a a' : Act} {w : World} (hy : YE P ops R o v a w) (he : execOp a'.eval o = execOp a.eval o)
    (hw : Region.wanted o (yielded ops a'.tmps) = Region.wanted o (yielded ops a.tmps)) : YE P ops R o v a' w := by
  unfold YE at *
  rw [he, hw]
  exact hy

theorem first_E {Z : Act → World → Prop} {R : World → World → Prop} (hR0 : ∀ w, R w w) (hRt : ∀ a b c, R a b → R b c → R a c) {i : Nat} {oi : Oper} {v : Value} (hi : ops[i]? = some oi)
    (hRs : ∀ j oj, ops[j]? = some oj → (∀ e ∈ oj.after, Region.binds md e = true → e.on ≠ i) → j ≠ i → ∀ w w', (StpB S w w' ∨ Lt j = true) → R w w')
    (hsel : ∀ (j : Nat) (o : Oper) cs b, ops[j]? = some o → o.op ≠ .select cs b) :
    ∀ (fuel : Nat) (listed : Array Bool) (a : Act) (w : World),
      (∀ j oj, ops[j]? = some oj → j ≠ i → listed.getD j true = false → (∀ e ∈ oj.after, Region.binds md e = true → e.on ≠ i) → oi.apart ops oj = true) →
      (StpB S w w ∨ Lt i = true → True) → i ∈ Region.ready md ops listed → YE P ops R oi v a w →
      wpAnyE P md ops S Lt Z fuel (listed.setIfInBounds i true) (a.put oi.dst v) w → wpAnyE P md ops S Lt Z (fuel + 1) listed a w := by
  have now : ∀ (fuel : Nat) (listed : Array Bool) (a : Act) (w : World), YE P ops R oi v a w → wpAnyE P md ops S Lt Z fuel (listed.setIfInBounds i true) (a.put oi.dst v) w →
      wpOp P ops (fun _ _ _ => False) i (fun a' w' => (StpB S w w' ∨ Lt i = true) ∧ wpAnyE P md ops S Lt Z fuel (listed.setIfInBounds i true) a' w') a w := by
    intro fuel listed a w hy H
    unfold wpOp
    simp only [hi]
    rcases hy with ⟨hw, hv⟩ | ⟨hw, rfl⟩
    · simp only [hw, if_true, Oper.wp, hv w (hR0 w), Oper.upon]; exact .inl ⟨.inl (StpB.refl _ _), H⟩
    · simp only [hw, Bool.false_eq_true, if_false]; exact ⟨.inl (StpB.refl _ _), H⟩
  intro fuel
  induction fuel with
  | zero =>
    intro listed a w _ _ hr hy H
    refine ⟨fun h => (by rw [h] at hr; cases hr), fun j hj => ?_⟩
    by_cases hji : j = i
    · subst hji; exact now _ _ _ _ hy H
    · have := ready_mono hj hji
      rw [H.1] at this
      cases this
  | succ fuel ih =>
    intro listed a w hfree hx hr hy H
    refine ⟨fun h => (by rw [h] at hr; cases hr), fun j hj => ?_⟩
    by_cases hji : j = i
    · subst hji; exact now _ _ _ _ hy H
    · have h1 := H.2 j (ready_mono hj hji)
      obtain ⟨hjun, oj, hoj, hall⟩ := mem_ready.1 hj
      have hnot : ∀ e ∈ oj.after, Region.binds md e = true → e.on ≠ i := fun e he hb heq => by
        have h1 := hall e he hb
        have h0 := (mem_ready.1 hr).1
        rw [heq] at h1
        rcases Nat.lt_or_ge i listed.size with h' | h'
        · simp [h'] at h0 h1; rw [h0] at h1; cases h1
        · simp [Array.getElem?_eq_none h'] at h1
      have hap := hfree j oj hoj hji hjun hnot
      obtain ⟨p1, p2, p3⟩ := Oper.apart_spec hap
      have keep : ∀ (a : Act), YE P ops R oi v a w → ∀ u, YE P ops R oi v (a.put oj.dst u) w := fun a hy u =>
        hy.same (execOp_put oi (fun cs b => hsel i oi cs b hi) a oj.dst u p3) (wanted_put oi a oj.dst u p3)
      have keepD : ∀ (a : Act) d, YE P ops R oi v a w → YE P ops R oi v { a with defers := d :: a.defers } w := fun a d hy => hy.same rfl rfl
      have later : ∀ (a : Act) w', (StpB S w w' ∨ Lt j = true) → YE P ops R oi v a w → YE P ops R oi v a w' := fun a w' hs hy => by
        rcases hy with ⟨hw, hv⟩ | hw
        · exact .inl ⟨hw, fun w'' h'' => hv w'' (hRt _ _ _ (hRs j oj hoj hnot hji w w' hs) h'')⟩
        · exact .inr hw
      have hfree' : ∀ k ok, ops[k]? = some ok → k ≠ i → (listed.setIfInBounds j true).getD k true = false →
          (∀ e ∈ ok.after, Region.binds md e = true → e.on ≠ i) → oi.apart ops ok = true := fun k ok hk hki hun hno => by
        refine hfree k ok hk hki ?_ hno
        by_cases hjk : j = k
        · subst hjk; exact hjun
        · rw [getD_set_ne true hjk] at hun; exact hun
      have fin : ∀ a' w', YE P ops R oi v a' w → (StpB S w w' ∨ Lt j = true) ∧ wpAnyE P md ops S Lt Z fuel ((listed.setIfInBounds i true).setIfInBounds j true) (a'.put oi.dst v) w' →
          (StpB S w w' ∨ Lt j = true) ∧ wpAnyE P md ops S Lt Z (fuel + 1) (listed.setIfInBounds j true) a' w' := by
        rintro a' w' hy' ⟨hs, hk⟩
        refine ⟨hs, ih _ a' w' hfree' (fun _ => trivial) (ready_mono hr (Ne.symm hji)) (later a' w' hs hy') ?_⟩
        rw [Array.setIfInBounds_comm _ _ hji]
        exact hk
      have hsj : ∀ cs b, oj.op ≠ .select cs b := fun cs b => hsel j oj cs b hoj
      unfold wpOp at *
      simp only [hoj] at *
      rw [wanted_put oj a oi.dst v p1] at h1
      split
      · rename_i hw
        simp only [hw, if_true] at h1
        rcases h1 with h1 | ⟨_, _, _, hf⟩
        case inr => exact hf.elim
        refine .inl ?_
        unfold Oper.wp at *
        rw [execOp_put oj hsj a oi.dst v p1] at h1
        generalize (execOp a.eval oj).run P w = r at *
        cases r with
        | ok n w' =>
          cases n <;> simp only [Oper.upon] at h1 ⊢
          case value u => exact fin _ _ (keep a hy u) (by rw [← Act.put_comm a v u p2]; exact h1)
          case skip => exact fin _ _ (keep a hy _) (by rw [← Act.put_comm a v undef p2]; exact h1)
          case defer d =>
            refine fin _ _ (keep _ (keepD a d hy) _) ?_
            rw [← Act.put_comm _ v undef p2, ← Act.put_defers]
            exact h1
          case enter f args =>
            refine Calls.mono h1 fun e w'' he => ?_
            cases e with
            | returned u => exact fin _ _ (keep a hy u) (by rw [← Act.put_comm a v u p2]; exact he)
            | panicked c => exact he
            | outgrown => exact he
          case row row args => exact Rows.mono h1 fun u w'' he => fin _ _ (keep a hy u) (by rw [← Act.put_comm a v u p2]; exact he)
        | halt x w' =>
          cases x <;> simp only [Oper.upon] at h1
      · rename_i hw
        simp only [hw] at h1
        exact fin _ _ (keep a hy _) (by rw [← Act.put_comm a v undef p2]; exact h1)
end any

/-! ### the order, and what a Bool asks of it -/
/-- 0: yields one value in every world; 1: in every world in which the old blocks stand; else: it alone is ready -/
def bound (ops : Array Oper) (Lt : List Nat) (i : Nat) : Bool :=
  Lt.all fun j => j == i || (match ops[j]? with | some oj => oj.after.any (fun e => Region.binds .any e && e.on == i) | none => true)
/-- the numbers of the bits that are set -/
def bits (m : Nat) : List Nat := (List.range 64).filter (fun j => m.testBit j)
def subs : List Nat → List (List Nat)
  | [] => [[]]
  | x :: r => subs r ++ (subs r).map (x :: ·)
/-- all of 'is' but those of 'rem' are listed -/
def lst (listed : Array Bool) (is rem : List Nat) : Array Bool := Array.ofFn (n := listed.size) fun j => listed[j] || (is.contains j.val && !rem.contains j.val)
/-- tags: below 100000 one operation; from there on a set of operations without order, as bits -/
def wt : List (Nat × Nat) → Nat
  | [] => 0
  | (_, k) :: r => (if k < 100000 then 1 else (bits (k - 100000)).length) + wt r
theorem wt_small {i k : Nat} {r : List (Nat × Nat)} (h : k < 100000) : wt ((i, k) :: r) = wt r + 1 := by simp [wt, h]; omega
/-- 'sk': an operation that was listed already, and whose place in the order is passed over -/
def checkS (ops : Array Oper) (Lt : List Nat) : List (Nat × Nat) → Option Nat → Array Bool → Bool
  | [], sk, listed => sk.isNone && (Region.ready .any ops listed).isEmpty
  | (i, 0) :: r, sk, listed => (Region.ready .any ops listed).contains i && Region.free .any ops listed i && checkS ops Lt r sk (listed.setIfInBounds i true)
  | (i, 1) :: r, sk, listed => (Region.ready .any ops listed).contains i && Region.free .any ops listed i && bound ops Lt i && checkS ops Lt r sk (listed.setIfInBounds i true)
  | (i, 2) :: r, sk, listed => if sk = some i then checkS ops Lt r none listed else Region.ready .any ops listed == [i] && checkS ops Lt r sk (listed.setIfInBounds i true)
  | (i, q + 3) :: r, sk, listed => if sk = some q ∧ q + 3 < 100000 then (Region.ready .any ops listed == [i] && checkS ops Lt r sk (listed.setIfInBounds i true)) else sk.isNone && if q + 3 < 100000 then (Region.ready .any ops listed == [i, q] && checkS ops Lt r none (listed.setIfInBounds i true) && Region.ready .any ops (listed.setIfInBounds q true) == [i] && checkS ops Lt r (some q) ((listed.setIfInBounds q true).setIfInBounds i true))
    else (subs (bits (q + 3 - 100000))).all (fun rem => rem.isEmpty || Region.ready .any ops (lst listed (bits (q + 3 - 100000)) rem) == rem) && checkS ops Lt r none (lst listed (bits (q + 3 - 100000)) [])
def checkD (ops : Array Oper) (Lt : List Nat) (ord : List (Nat × Nat)) (listed : Array Bool) : Bool := checkS ops Lt ord none listed
def delO (q : Nat) : List (Nat × Nat) → List (Nat × Nat)
  | [] => []
  | (i, 2) :: r => if i = q then r else (i, 2) :: delO q r
  | (i, 0) :: r => (i, 0) :: delO q r
  | (i, 1) :: r => (i, 1) :: delO q r
  | (i, k + 3) :: r => if k = q ∧ k + 3 < 100000 then (i, 2) :: delO q r else (i, k + 3) :: delO q r
theorem checkS_del {ops : Array Oper} {Lt : List Nat} {q : Nat} : ∀ (r : List (Nat × Nat)) (listed : Array Bool), checkS ops Lt r (some q) listed = true → checkS ops Lt (delO q r) none listed = true ∧ wt r = wt (delO q r) + 1
  | [], listed, h => by simp [checkS] at h
  | (i, 0) :: r, listed, h => by
    simp only [checkS, Bool.and_eq_true] at h
    obtain ⟨h1, h2⟩ := checkS_del r _ h.2
    simp only [delO, checkS, Bool.and_eq_true]
    exact ⟨⟨h.1, h1⟩, by simp [wt, h2]; omega⟩
  | (i, 1) :: r, listed, h => by
    simp only [checkS, Bool.and_eq_true] at h
    obtain ⟨h1, h2⟩ := checkS_del r _ h.2
    simp only [delO, checkS, Bool.and_eq_true]
    exact ⟨⟨h.1, h1⟩, by simp [wt, h2]; omega⟩
  | (i, 2) :: r, listed, h => by
    by_cases e : i = q
    · subst e
      simp only [checkS, if_pos] at h
      simp only [delO, if_pos]
      exact ⟨h, by simp [wt]; omega⟩
    · have e' : ¬ (some q = some i) := by simpa using fun h => e h.symm
      simp only [checkS, if_neg e', Bool.and_eq_true] at h
      obtain ⟨h1, h2⟩ := checkS_del r _ h.2
      simp only [delO, if_neg e, checkS]
      refine ⟨?_, by simp [wt, h2]; omega⟩
      rw [if_neg (by simp)]
      simp only [Bool.and_eq_true]
      exact ⟨h.1, h1⟩
  | (i, k + 3) :: r, listed, h => by
    by_cases e : k = q ∧ k + 3 < 100000
    · simp only [checkS] at h
      rw [if_pos ⟨by rw [e.1], e.2⟩] at h
      simp only [Bool.and_eq_true] at h
      obtain ⟨h1, h2⟩ := checkS_del r _ h.2
      simp only [delO, if_pos e, checkS]
      refine ⟨?_, by rw [wt_small e.2, wt_small (by decide), h2]⟩
      rw [if_neg (by simp)]
      simp only [Bool.and_eq_true]
      exact ⟨h.1, h1⟩
    · simp only [checkS] at h
      rw [if_neg (fun h' => e ⟨(Option.some.inj h'.1).symm, h'.2⟩)] at h
      simp at h

structure WD (P : Program) (n : Nat) (ops : Array Oper) (S : Nat × List Nat) (Lt : List Nat) (Q : Exit → Act → World → Prop) (ord : List (Nat × Nat)) (e : Env) (w : World) : Prop where
  h : ∀ listed : Array Bool, Region.noSelect ops = true → checkD ops Lt ord listed = true → ∀ a, Has n e a → wpAnyE P .any ops S (fun j => Lt.contains j) (fun a w => Q .normal a w) (wt ord) listed a w

section rules
variable {P : Program} {n : Nat} {Q : Exit → Act → World → Prop} {e : Env} {w : World} {ops : Array Oper} {S : Nat × List Nat} {Lt : List Nat} {rest : List (Nat × Nat)}

theorem WC_drawn {id : Nat} {l : List Oper} (m : Nat) (S : Nat × List Nat) (Lt : List Nat) (ord : List (Nat × Nat)) (hlm : l.length = m) (hm : P.follows .mixedOrders = true) (hs : Region.noSelect l.toArray = true) (hl : Nat.beq (wt ord) l.length = true)
    (hB : checkD l.toArray Lt ord (Array.replicate m false) = true)
    (h : ∀ w', Stp [] w w' → WD P n l.toArray S Lt Q ord e w') : WC P n (.region id l.toArray true) Q e w := by
  subst hlm
  refine ⟨fun a ha => wp_region_any hm ?_⟩
  have h1 := (h { w with drawn := w.drawn + 1 } (Stp.drew [] w)).h _ hs hB a ha
  have h2 := wpAny_of_E (Q := Q) (fun a w hz => hz) _ _ _ _ h1
  rw [Nat.eq_of_beq_eq_true hl] at h2
  simpa using h2

theorem WD_nil (h : WQ n Q .normal e w) : WD P n ops S Lt Q [] e w :=
  ⟨fun _ _ hB a ha => ⟨by simpa [checkD, checkS] using hB, h.h a ha⟩⟩

def gdOk (ops : Array Oper) (e : Env) : Option (Nat × Bool) → Prop
  | none => True
  | some (j, b) => yld ops e j = some (.bool b)
theorem wanted_ok {o : Oper} {a : Act} (ha : Has n e a) (hg : gdOk ops e o.guard) : Region.wanted o (yielded ops a.tmps) = true := by
  unfold Region.wanted
  cases hgd : o.guard with
  | none => rfl
  | some jb =>
    obtain ⟨j, b⟩ := jb
    rw [hgd] at hg
    simp [yielded_of ha hg]
theorem WD_step0 {i d : Nat} {o : Oper} {v : Value} (hi : ops[i]? = some o) (hd : o.dst = some d) (hY : ∀ a, Has n e a → YE P ops (fun _ _ => True) o v a w) (hdn : Nat.blt d n = true)
    (k : WD P n ops S Lt Q rest ((d, v) :: e) w) : WD P n ops S Lt Q ((i, 0) :: rest) e w := by
  refine ⟨fun listed hs hB a ha => ?_⟩
  simp only [checkD, checkS, Bool.and_eq_true] at hB
  obtain ⟨⟨h1, h2⟩, h3⟩ := hB
  have hk := k.h _ hs h3 _ (ha.put (v := v) hdn)
  rw [← hd] at hk
  rw [wt_small (by decide)]
  exact first_E (R := fun _ _ => True) (fun _ => trivial) (fun _ _ _ _ _ => trivial) hi (fun _ _ _ _ _ _ _ _ => trivial) (Region.noSelect_spec hs) _ _ _ _ (Region.free_spec hi h2) (fun _ => trivial) (by simpa using h1) (hY a ha) hk

theorem bound_spec {i j : Nat} {oj : Oper} (hb : bound ops Lt i = true) (hj : ops[j]? = some oj) (hn : ∀ e ∈ oj.after, Region.binds .any e = true → e.on ≠ i) (hji : j ≠ i) : Lt.contains j = false := by
  cases hc : Lt.contains j with
  | false => rfl
  | true =>
    have hm : j ∈ Lt := by simpa using hc
    have := (List.all_eq_true.1 hb) j hm
    simp only [hj, Bool.or_eq_true, beq_iff_eq, hji, false_or] at this
    obtain ⟨e, he, hbe⟩ := Array.any_eq_true'.1 this
    simp only [Bool.and_eq_true, beq_iff_eq] at hbe
    exact absurd hbe.2 (hn e he hbe.1)

theorem WD_step1 {i d : Nat} {o : Oper} {v : Value} (hi : ops[i]? = some o) (hd : o.dst = some d) (hY : ∀ a, Has n e a → YE P ops (StpB S) o v a w) (hdn : Nat.blt d n = true)
    (k : WD P n ops S Lt Q rest ((d, v) :: e) w) : WD P n ops S Lt Q ((i, 1) :: rest) e w := by
  refine ⟨fun listed hs hB a ha => ?_⟩
  simp only [checkD, checkS, Bool.and_eq_true] at hB
  obtain ⟨⟨⟨h1, h2⟩, hb⟩, h3⟩ := hB
  have hk := k.h _ hs h3 _ (ha.put (v := v) hdn)
  rw [← hd] at hk
  rw [wt_small (by decide)]
  refine first_E (R := StpB S) (fun w => StpB.refl _ w) (fun _ _ _ h k => h.trans k) hi (fun j oj hj hn hji w w' hs => ?_) (Region.noSelect_spec hs) _ _ _ _ (Region.free_spec hi h2) (fun _ => trivial) (by simpa using h1) (hY a ha) hk
  rcases hs with hs | hs
  · exact hs
  · rw [bound_spec hb hj hn hji] at hs; cases hs

variable {i d : Nat} {op : Op} {ty : TypeId} {pos : String} {af : Array Edge} {gd : Option (Nat × Bool)} {v : Value}
/-- an operation that looks at no memory -/
theorem WD_free (hi : ops[i]? = some ⟨some d, op, ty, pos, af, gd⟩) (hg : gdOk ops e gd) (hp : ∀ w', PR P n ⟨some d, op, ty, pos, af, gd⟩ e w' v) (hdn : Nat.blt d n = true)
    (k : WD P n ops S Lt Q rest ((d, v) :: e) w) : WD P n ops S Lt Q ((i, 0) :: rest) e w :=
  WD_step0 hi rfl (fun a ha => .inl ⟨wanted_ok ha hg, fun w' _ => (hp w').h a ha⟩) hdn k
/-- one that reads old memory -/
theorem WD_read (hi : ops[i]? = some ⟨some d, op, ty, pos, af, gd⟩) (hg : gdOk ops e gd) (hp : ∀ w', StpB S w w' → PR P n ⟨some d, op, ty, pos, af, gd⟩ e w' v) (hdn : Nat.blt d n = true)
    (k : WD P n ops S Lt Q rest ((d, v) :: e) w) : WD P n ops S Lt Q ((i, 1) :: rest) e w :=
  WD_step1 hi rfl (fun a ha => .inl ⟨wanted_ok ha hg, fun w' hw => (hp w' hw).h a ha⟩) hdn k
/-- one that is passed over -/
theorem WD_pass0 (hi : ops[i]? = some ⟨some d, op, ty, pos, af, gd⟩) (hg : noB ops e gd = true) (hdn : Nat.blt d n = true)
    (k : WD P n ops S Lt Q rest ((d, undef) :: e) w) : WD P n ops S Lt Q ((i, 0) :: rest) e w :=
  WD_step0 hi rfl (fun a ha => .inr ⟨wanted_noB ha hg, rfl⟩) hdn k
theorem WD_pass1 (hi : ops[i]? = some ⟨some d, op, ty, pos, af, gd⟩) (hg : noB ops e gd = true) (hdn : Nat.blt d n = true)
    (k : WD P n ops S Lt Q rest ((d, undef) :: e) w) : WD P n ops S Lt Q ((i, 1) :: rest) e w :=
  WD_step1 hi rfl (fun a ha => .inr ⟨wanted_noB ha hg, rfl⟩) hdn k

/-- one operation, whatever else is ready -/
structure WD1 (P : Program) (n : Nat) (ops : Array Oper) (S : Nat × List Nat) (Lt : List Nat) (Q : Exit → Act → World → Prop) (i : Nat) (ord : List (Nat × Nat)) (e : Env) (w : World) : Prop where
  h : ∀ listed : Array Bool, Region.noSelect ops = true → checkD ops Lt ord (listed.setIfInBounds i true) = true → ∀ a, Has n e a →
    wpOp P ops (fun _ _ _ => False) i (fun a' w' => (StpB S w w' ∨ Lt.contains i = true) ∧ wpAnyE P .any ops S (fun j => Lt.contains j) (fun a w => Q .normal a w) (wt ord) (listed.setIfInBounds i true) a' w') a w
theorem WD1_mk {o : Oper} {dst : Option Nat} {G : Value → World → Prop} (hi : ops[i]? = some o) (hdst : o.dst = dst) (hg : gdOk ops e o.guard) (hp : OE P n o e w (fun v w' => (StpB S w w' ∨ Lt.contains i = true) ∧ G v w'))
    (k : ∀ v w' a', G v w' → ∀ a, Has n e a → a' = a.put dst v → ∃ e', Has n e' a' ∧ WD P n ops S Lt Q rest e' w') : WD1 P n ops S Lt Q i rest e w := by
  refine ⟨fun listed hs h3 a ha => ?_⟩
  unfold wpOp
  simp only [hi]
  rw [if_pos (wanted_ok ha hg)]
  refine .inl (Oper.wp_mono ?_ (hp.h a ha _))
  rintro a' w' ⟨v, rfl, hs', hG⟩
  obtain ⟨e', he', hk⟩ := k v w' (a.put o.dst v) hG a ha (by rw [hdst])
  exact ⟨hs', hk.h _ hs h3 _ he'⟩
theorem WD_one (h : WD1 P n ops S Lt Q i rest e w) : WD P n ops S Lt Q ((i, 2) :: rest) e w := by
  refine ⟨fun listed hs hB a ha => ?_⟩
  simp only [checkD, checkS] at hB
  rw [if_neg (by simp)] at hB
  simp only [Bool.and_eq_true, beq_iff_eq] at hB
  obtain ⟨h1, h3⟩ := hB
  rw [wt_small (by decide)]
  refine ⟨fun h0 => absurd (h1 ▸ h0) (by simp), fun j hj => ?_⟩
  rw [h1] at hj
  obtain rfl : j = i := by simpa using hj
  exact h.h _ hs h3 a ha
/-- two are ready, and both orders are shown -/
theorem WD_two {q : Nat} (hq : Nat.blt (q + 3) 100000 = true) (h1 : WD1 P n ops S Lt Q i rest e w) (h2 : WD1 P n ops S Lt Q q ((i, 2) :: delO q rest) e w) : WD P n ops S Lt Q ((i, q + 3) :: rest) e w := by
  refine ⟨fun listed hs hB a ha => ?_⟩
  have hq' : q + 3 < 100000 := Nat.le_of_ble_eq_true hq
  simp only [checkD, checkS] at hB
  rw [if_neg (by simp), if_pos hq'] at hB
  simp only [Bool.and_eq_true, beq_iff_eq] at hB
  obtain ⟨_, ⟨⟨hr, hr1⟩, hr2⟩, h3⟩ := hB
  obtain ⟨h4, h5⟩ := checkS_del _ _ h3
  have hw : wt ((i, q + 3) :: rest) = wt rest + 1 := wt_small hq'
  rw [hw]
  refine ⟨fun h0 => absurd (hr ▸ h0) (by simp), fun j hj => ?_⟩
  rw [hr] at hj
  have c2 : checkD ops Lt ((i, 2) :: delO q rest) (listed.setIfInBounds q true) = true := by
    simp only [checkD, checkS]
    rw [if_neg (by simp)]
    simp only [Bool.and_eq_true, beq_iff_eq]
    exact ⟨hr2, h4⟩
  have hw2 : wt rest = wt ((i, 2) :: delO q rest) := by rw [wt_small (by decide), h5]
  have hj' : j = i ∨ j = q := by simpa using hj
  rcases hj' with rfl | rfl
  · exact h1.h _ hs hr1 a ha
  · rw [hw2]
    exact h2.h _ hs c2 a ha
theorem subs_mem : ∀ {is rem : List Nat}, rem.Sublist is → rem ∈ subs is
  | [], rem, h => by simp at h; simp [subs, h]
  | x :: r, rem, h => by
    simp only [subs, List.mem_append, List.mem_map]
    cases h with
    | cons _ h => exact .inl (subs_mem h)
    | cons_cons _ h => exact .inr ⟨_, subs_mem h, rfl⟩
theorem lst_all (listed : Array Bool) (is : List Nat) : lst listed is is = listed := by
  apply Array.ext
  · simp [lst]
  · intro j h1 h2
    simp only [lst, Array.getElem_ofFn]
    cases is.contains j <;> simp
theorem lst_step {listed : Array Bool} {is rem : List Nat} {j : Nat} (hn : rem.Nodup) (hr : rem.Sublist is) (hj : j ∈ rem) : (lst listed is rem).setIfInBounds j true = lst listed is (rem.erase j) := by
  apply Array.ext
  · simp [lst]
  · intro m h1 h2
    have hm : m < listed.size := by simpa [lst] using h2
    rw [Array.getElem_setIfInBounds]
    · simp only [lst, Array.getElem_ofFn]
      by_cases e : j = m
      · subst e
        have h3 : is.contains j = true := by simpa using hr.subset hj
        have h4 : (rem.erase j).contains j = false := by
          have := hn.not_mem_erase (a := j)
          simpa using this
        simp only [h3, h4, if_true, Bool.not_false, Bool.and_true, Bool.or_true]
      · rw [if_neg e]
        have : (rem.erase j).contains m = rem.contains m := by
          rw [Bool.eq_iff_iff]
          simp only [List.contains_iff_mem]
          exact List.mem_erase_of_ne (fun h => e h.symm)
        rw [this]
    · simpa [lst] using hm
/-- a set of effects without order among them -/
theorem WD_set {q : Nat} (is : List Nat) (J : List Nat → World → Prop) (hq : Nat.ble 100000 (q + 3) = true) (his : bits (q + 3 - 100000) = is) (hnd : is.Nodup) (h0 : J is w)
    (step : ∀ rem j w', rem.Sublist is → j ∈ rem → J rem w' → ∃ o, ops[j]? = some o ∧ o.dst = none ∧ gdOk ops e o.guard ∧ OE P n o e w' (fun _ w'' => (StpB S w' w'' ∨ Lt.contains j = true) ∧ J (rem.erase j) w''))
    (fin : ∀ w', J [] w' → WD P n ops S Lt Q rest e w') : WD P n ops S Lt Q ((i, q + 3) :: rest) e w := by
  refine ⟨fun listed hs hB a ha => ?_⟩
  have hq' : ¬ q + 3 < 100000 := Nat.not_lt.2 (Nat.le_of_ble_eq_true hq)
  have hw : wt ((i, q + 3) :: rest) = is.length + wt rest := by simp only [wt]; rw [if_neg hq', his]
  rw [hw]
  simp only [checkD, checkS] at hB
  rw [if_neg (by simp), if_neg hq', his] at hB
  simp only [Bool.and_eq_true] at hB
  obtain ⟨_, hall, hrest⟩ := hB
  have hready : ∀ rem : List Nat, rem.Sublist is → 0 < rem.length → Region.ready .any ops (lst listed is rem) = rem := fun rem hr h0 => by
    have := List.all_eq_true.1 hall rem (subs_mem hr)
    cases rem with
    | nil => simp at h0
    | cons x r => simpa using this
  have key : ∀ (k : Nat) (rem : List Nat), rem.length = k → rem.Sublist is → ∀ w' a, Has n e a → J rem w' → wpAnyE P .any ops S (fun j => Lt.contains j) (fun a w => Q .normal a w) (k + wt rest) (lst listed is rem) a w' := by
    intro k
    induction k with
    | zero =>
      intro rem hl hr w' a ha hJ
      obtain rfl := List.length_eq_zero_iff.1 hl
      rw [Nat.zero_add]
      exact (fin w' hJ).h _ hs hrest a ha
    | succ k ih =>
      intro rem hl hr w' a ha hJ
      rw [show k + 1 + wt rest = (k + wt rest) + 1 by omega]
      refine ⟨fun h => ?_, fun j hj => ?_⟩
      · rw [hready rem hr (by omega)] at h
        subst h
        simp at hl
      · rw [hready rem hr (by omega)] at hj
        obtain ⟨o, hi, hdst, hg, hp⟩ := step rem j w' hr hj hJ
        unfold wpOp
        simp only [hi]
        rw [if_pos (wanted_ok ha hg)]
        refine .inl (Oper.wp_mono ?_ (hp.h a ha _))
        rintro a' w'' ⟨v, rfl, hs', hJ'⟩
        refine ⟨hs', ?_⟩
        rw [lst_step (hr.nodup hnd) hr hj, hdst]
        exact ih _ (by rw [List.length_erase_of_mem hj]; omega) (List.erase_sublist.trans hr) w'' _ ha hJ'
  have := key is.length is rfl (List.Sublist.refl _) w a ha h0
  rwa [lst_all] at this
theorem WD_only {o : Oper} {dst : Option Nat} {G : Value → World → Prop} (hi : ops[i]? = some o) (hdst : o.dst = dst) (hg : gdOk ops e o.guard) (hp : OE P n o e w (fun v w' => (StpB S w w' ∨ Lt.contains i = true) ∧ G v w'))
    (k : ∀ v w' a', G v w' → ∀ a, Has n e a → a' = a.put dst v → ∃ e', Has n e' a' ∧ WD P n ops S Lt Q rest e' w') : WD P n ops S Lt Q ((i, 2) :: rest) e w :=
  WD_one (WD1_mk hi hdst hg hp k)
/-- an effect that is passed over -/
theorem WD_pass2 (hi : ops[i]? = some ⟨some d, op, ty, pos, af, gd⟩) (hg : noB ops e gd = true) (hdn : Nat.blt d n = true)
    (k : WD P n ops S Lt Q rest ((d, undef) :: e) w) : WD P n ops S Lt Q ((i, 2) :: rest) e w := by
  refine WD_one ⟨fun listed hs h3 a ha => ?_⟩
  unfold wpOp
  simp only [hi]
  have hw := wanted_noB (o := ⟨some d, op, ty, pos, af, gd⟩) ha hg
  rw [if_neg (by simp [hw])]
  exact ⟨.inl (StpB.refl _ _), k.h _ hs h3 _ (ha.put (v := undef) hdn)⟩
theorem WD1_eff {G : Value → World → Prop} (hi : ops[i]? = some ⟨some d, op, ty, pos, af, gd⟩) (hg : gdOk ops e gd) (hp : OE P n ⟨some d, op, ty, pos, af, gd⟩ e w G) (hG : ∀ v w', G v w' → StpB S w w') (hdn : Nat.blt d n = true)
    (k : ∀ v w', G v w' → WD P n ops S Lt Q rest ((d, v) :: e) w') : WD1 P n ops S Lt Q i rest e w :=
  WD1_mk (G := G) hi rfl hg (hp.mono fun v w' h => ⟨.inl (hG v w' h), h⟩) (fun v w' a' h a ha e => ⟨_, by rw [e]; exact ha.put hdn, k v w' h⟩)
/-- the only one that is ready: it leaves the old blocks alone -/
theorem WD_eff {G : Value → World → Prop} (hi : ops[i]? = some ⟨some d, op, ty, pos, af, gd⟩) (hg : gdOk ops e gd) (hp : OE P n ⟨some d, op, ty, pos, af, gd⟩ e w G) (hG : ∀ v w', G v w' → StpB S w w') (hdn : Nat.blt d n = true)
    (k : ∀ v w', G v w' → WD P n ops S Lt Q rest ((d, v) :: e) w') : WD P n ops S Lt Q ((i, 2) :: rest) e w :=
  WD_only (G := G) hi rfl hg (hp.mono fun v w' h => ⟨.inl (hG v w' h), h⟩) (fun v w' a' h a ha e => ⟨_, by rw [e]; exact ha.put hdn, k v w' h⟩)
theorem WD_eff0 {G : Value → World → Prop} (hi : ops[i]? = some ⟨none, op, ty, pos, af, gd⟩) (hg : gdOk ops e gd) (hp : OE P n ⟨none, op, ty, pos, af, gd⟩ e w G) (hG : ∀ v w', G v w' → StpB S w w')
    (k : ∀ v w', G v w' → WD P n ops S Lt Q rest e w') : WD P n ops S Lt Q ((i, 2) :: rest) e w :=
  WD_only (G := G) hi rfl hg (hp.mono fun v w' h => ⟨.inl (hG v w' h), h⟩) (fun v w' a' h a ha e => ⟨_, by rw [e]; exact ha, k v w' h⟩)
theorem WD_late0 {G : Value → World → Prop} (hi : ops[i]? = some ⟨none, op, ty, pos, af, gd⟩) (hg : gdOk ops e gd) (hp : OE P n ⟨none, op, ty, pos, af, gd⟩ e w G) (hL : Lt.contains i = true)
    (k : ∀ v w', G v w' → WD P n ops S Lt Q rest e w') : WD P n ops S Lt Q ((i, 2) :: rest) e w :=
  WD_only (G := G) hi rfl hg (hp.mono fun v w' h => ⟨.inr hL, h⟩) (fun v w' a' h a ha e => ⟨_, by rw [e]; exact ha, k v w' h⟩)
end rules
end Go.EngB


namespace Go.Proofs.YtgpibcgebpgmiaaDoor
open Go Go.Eng Go.RowKit
set_option linter.unusedVariables false
set_option linter.unusedSimpArgs false
/-- the bounds of an instruction of a code -/
def insB (m : Nat) (z : Ins) : Prop := 0 ≤ z.op ∧ z.op ≤ 24 ∧ 0 ≤ z.n ∧ z.n ≤ 2147483647 + (m : Int)
theorem insB.le {m k : Nat} {z : Ins} (h : insB m z) (hk : m ≤ k) : insB k z := ⟨h.1, h.2.1, h.2.2.1, by have := h.2.2.2; omega⟩
theorem seqC_B : ∀ (l : List Nd) (p m : Nat), (∀ y ∈ l, ∀ p, ∀ z ∈ codeN y p, insB (p + (codeN y p).length) z) → p + (seqC (l.map codeN) p).length ≤ m → ∀ z ∈ seqC (l.map codeN) p, insB m z
  | [], p, m, _, _, z, hz => by simp [seqC] at hz
  | y :: l, p, m, h, hm, z, hz => by
    simp only [List.map_cons, seqC, List.mem_append, List.length_append] at hz hm
    rcases hz with hz | hz
    · exact (h y (by simp) p z hz).le (by omega)
    · exact seqC_B l _ m (fun y hy => h y (by simp [hy])) (by omega) z hz
theorem opF_B (s : Str) : ∀ o ∈ opF s, 0 ≤ o ∧ o ≤ 24 := by
  intro o ho
  unfold opF at ho
  cases h : opEs.find? (fun p => decide (p.1 = s)) with
  | none => rw [h] at ho; cases ho
  | some p =>
    rw [h] at ho
    have hall : ∀ q ∈ opEs, ∀ o ∈ q.2, 0 ≤ o ∧ o ≤ 24 := by decide +kernel
    exact hall p (List.mem_of_find?_eq_some h) o ho
theorem extraL_B (k : Int) (s : Str) (m : Nat) : ∀ z ∈ extraL k s, insB m z := by
  intro z hz
  unfold extraL insO at hz
  simp only [List.mem_append, List.mem_map] at hz
  rcases hz with hz | ⟨o, ho, rfl⟩
  · split at hz
    · simp only [List.mem_cons, List.not_mem_nil, or_false] at hz
      subst hz
      exact ⟨by decide, by decide, by decide, by simp only; omega⟩
    · cases hz
  · obtain ⟨h1, h2⟩ := opF_B s o ho
    exact ⟨h1, h2, by simp, by simp only; omega⟩
theorem chC_B (c y n : Cf) (p m : Nat) (hc : ∀ p, ∀ z ∈ c p, insB (p + (c p).length) z) (hy : ∀ p, ∀ z ∈ y p, insB (p + (y p).length) z) (hn : ∀ p, ∀ z ∈ n p, insB (p + (n p).length) z) (hm : p + (chC c y n p).length ≤ m) : ∀ z ∈ chC c y n p, insB m z := by
  intro z hz
  unfold chC at hz hm
  simp only [List.mem_append, List.mem_cons, List.not_mem_nil, or_false, List.length_append, List.length_cons, List.length_nil] at hz hm
  rcases hz with (((hz | rfl) | hz) | rfl) | hz
  · exact (hc p z hz).le (by omega)
  · exact ⟨by simp, by simp, by simp only; omega, by simp only; omega⟩
  · exact (hy _ z hz).le (by omega)
  · exact ⟨by simp, by simp, by simp only; omega, by simp only; omega⟩
  · exact (hn _ z hz).le (by omega)
theorem leafI_B (k n : Int) (s : Str) (m : Nat) (h : leafN k n s ≠ 0) : insB m (leafI k n s) := by
  unfold leafN at h
  unfold leafI
  by_cases k4 : k = 4
  · subst k4
    rw [if_pos rfl] at h
    have hf : (fieldF s).2.2 = true := by
      cases hb : (fieldF s).2.2 with
      | true => rfl
      | false => rw [fieldF_no hb] at h; simp at h
    obtain ⟨i, hi, _, he⟩ := (field_spec s (fieldF s).1).1 ⟨hf, rfl⟩
    rw [if_neg (by decide), if_neg (by decide), if_neg (by decide)]
    exact ⟨by simp, by simp, by simp only; omega, by simp only; omega⟩
  · rw [if_neg k4] at h
    split at h
    · exact absurd rfl h
    · by_cases k1 : k = 1
      · rw [if_pos k1] at h ⊢
        split at h
        · exact ⟨by simp, by simp, by simp only; omega, by simp only; omega⟩
        · exact absurd rfl h
      · rw [if_neg k1] at h ⊢
        by_cases k2 : k = 2
        · rw [if_pos k2] at h ⊢
          split at h
          · exact ⟨by simp, by simp, by simp only; omega, by simp only; omega⟩
          · exact absurd rfl h
        · rw [if_neg k2] at h ⊢
          by_cases k3 : k = 3
          · rw [if_pos k3] at h ⊢
            split at h
            · exact ⟨by simp, by simp, by simp only; omega, by simp only; omega⟩
            · exact absurd rfl h
          · rw [if_neg k3] at h; exact absurd rfl h
theorem code_B (x : Nd) : typeT x ≠ 0 → ∀ p, ∀ z ∈ codeN x p, insB (p + (codeN x p).length) z := by
  induction x using Nd.ind with
  | h k n s l ih =>
  intro ht p
  have hk : ∀ y ∈ l, typeT y ≠ 0 := fun y hy => typeT_kid (x := .mk k n s l) ht hy
  have ih' : ∀ y ∈ l, ∀ p, ∀ z ∈ codeN y p, insB (p + (codeN y p).length) z := fun y hy => ih y hy (hk y hy)
  have hteq : typeT (.mk k n s l) = combT k n s (l.map typeT) := typeT_eq _
  rw [hteq] at ht
  have hplain : ∀ m, p + (plainC k s (l.map codeN) p).length ≤ m → ∀ z ∈ plainC k s (l.map codeN) p, insB m z := fun m hm z hz => by
    rw [plainC_eq] at hz hm
    rw [List.length_append] at hm
    rcases List.mem_append.1 hz with hz | hz
    · exact seqC_B l p m ih' (by omega) z hz
    · exact extraL_B k s m z hz
  have hget : ∀ i, ∀ p, ∀ z ∈ (l.map codeN).getD i nilC p, insB (p + ((l.map codeN).getD i nilC p).length) z := fun i p z hz => by
    by_cases hi : i < l.length
    · have e : (l.map codeN).getD i nilC = codeN l[i] := by rw [List.getD_eq_getElem?_getD, List.getElem?_eq_getElem (by simpa using hi)]; simp
      rw [e] at hz ⊢
      exact ih' _ (List.getElem_mem hi) p z hz
    · have e : (l.map codeN).getD i nilC = nilC := by rw [List.getD_eq_getElem?_getD, List.getElem?_eq_none (by simpa using hi)]; rfl
      rw [e] at hz
      cases hz
  have hbool : ∀ b : Int, (b = 0 ∨ b = 1) → ∀ p : Nat, ∀ z ∈ [(⟨2, b⟩ : Ins)], insB (p + [(⟨2, b⟩ : Ins)].length) z := fun b hb p z hz => by
    simp only [List.mem_cons, List.not_mem_nil, or_false] at hz
    subst hz
    exact ⟨by simp, by simp, by simp only; omega, by simp only; omega⟩
  have hle : ∀ c : List Ins, p + c.length ≤ p + c.length := fun c => Nat.le_refl _
  rw [codeN]
  rcases combT_cases ht with ⟨he, hc⟩ | ⟨h0, h3, hn0, hc⟩
  · have hl : l = [] := by simpa using he
    subst hl
    unfold combC
    rw [if_pos (show (List.map codeN ([] : List Nd)).length = 0 from rfl)]
    intro z hz
    simp only [List.mem_cons, List.not_mem_nil, or_false] at hz
    subst hz
    exact leafI_B k n s _ (by rw [← hc]; exact ht)
  · have hl : l ≠ [] := fun h => hn0 (by rw [h]; rfl)
    have hlen0 : ¬ (l.map codeN).length = 0 := by simpa using hl
    unfold combC
    rw [if_neg hlen0]
    split
    · exact chC_B _ _ _ p _ (hget 0) (hget 1) (hget 2) (Nat.le_refl _)
    · split
      · exact chC_B _ _ _ p _ (hget 0) (hget 1) (hbool 0 (.inl rfl)) (Nat.le_refl _)
      · split
        · exact chC_B _ _ _ p _ (hget 0) (hbool 1 (.inr rfl)) (hget 1) (Nat.le_refl _)
        · split
          · intro z hz
            rcases List.mem_append.1 hz with hz | hz
            · exact hplain _ (by simp) z hz
            · simp only [List.mem_cons, List.not_mem_nil, or_false] at hz
              subst hz
              exact ⟨by simp, by simp, by simp only; omega, by simp only; omega⟩
          · exact hplain _ (Nat.le_refl _)
theorem exprF_I64 (x : Nd) (ht : typeT x ≠ 0) (hl : (exprF x).length ≤ 200) : ∀ z ∈ exprF x, I64 z.op ∧ I64 z.n := by
  intro z hz
  unfold exprF at hz hl
  rw [List.length_append] at hl
  rcases List.mem_append.1 hz with hz | hz
  · obtain ⟨h1, h2, h3, h4⟩ := code_B x ht 0 z hz
    unfold I64
    constructor <;> omega
  · simp only [List.mem_cons, List.not_mem_nil, or_false] at hz
    subst hz
    unfold I64
    simp
theorem named_len {s : Str} (h : namedT s = true) : s.length ≤ 12 := by
  unfold namedT nameOk at h
  simp only [Bool.and_eq_true, decide_eq_true_eq] at h
  have := h.1
  omega
/-- the compiled rule of a rule without an error -/
theorem rule_fit (r : Rul) (h : ruleE r = 0) : CrFit (crF r) ∧ chkC (crF r) = 0 := by
  unfold crF
  rw [if_pos h]
  unfold ruleE at h
  split at h
  · contradiction
  · rename_i hck
    have hck' : checkT r = 0 := by omega
    unfold checkT at hck'
    split at hck'
    · simp at hck'
    · rename_i hnm
      split at hck'
      · simp at hck'
      · rename_i hfr
        split at hck'
        · contradiction
        · rename_i hm1
          have hm1' : mustF r.cnd 2 = 0 := by omega
          split at h
          · contradiction
          · rename_i he1
            have he1' : errX r.cnd = 0 := by omega
            have key : ∀ (x : Nd) (t : Int), t ≠ 0 → mustF x t = 0 → errX x = 0 → nestN x ≤ 12 ∧ typeT x = t ∧ (exprF x).length ≤ 200 := fun x t ht0 hm he => by
              unfold mustF at hm
              unfold errX at he
              split at hm
              · rename_i hn
                rw [if_pos hn] at he
                split at hm
                · simp at hm
                · rename_i h0
                  rw [if_neg h0] at he
                  split at hm
                  · rename_i htt
                    split at he
                    · simp at he
                    · exact ⟨hn, htt, by omega⟩
                  · simp at hm
              · simp at hm
            obtain ⟨n1, t1, l1⟩ := key r.cnd 2 (by decide) hm1' he1'
            obtain ⟨n2, t2, l2⟩ := key r.due 3 (by decide) hck' h
            have v1 := verM_expr r.cnd (by omega) n1 l1
            have v2 := verM_expr r.due (by omega) n2 l2
            have hnm' : namesT r = true := by simpa using hnm
            unfold namesT at hnm'
            simp only [Bool.and_eq_true, Bool.or_eq_true, decide_eq_true_eq] at hnm'
            obtain ⟨⟨⟨a1, a2⟩, a3⟩, a4⟩ := hnm'
            refine ⟨⟨show I64 r.frm by unfold I64; omega, exprF_I64 _ (by omega) l1, exprF_I64 _ (by omega) l2, l1, l2, named_len a1, named_len a2, ?_, ?_⟩, ?_⟩
            · rcases a3 with h | h
              · rw [show (⟨r.name, r.frm, r.on, exprF r.cnd, exprF r.due, r.unl, r.els⟩ : Cr).unl = r.unl from rfl, h]; simp
              · exact named_len h
            · rcases a4 with h | h
              · rw [show (⟨r.name, r.frm, r.on, exprF r.cnd, exprF r.due, r.unl, r.els⟩ : Cr).els = r.els from rfl, h]; simp
              · exact named_len h
            · unfold chkC badC
              simp only [v1, v2, t1, t2, a1, a2]
              rcases a3 with h3 | h3 <;> rcases a4 with h4 | h4 <;> simp [h3, h4] <;> omega
end Go.Proofs.YtgpibcgebpgmiaaDoor


/-
The walk engine, part 20: a scope without a goto, a label.
-/
namespace Go.Eng
open Go Go.RowKit Go.Proofs
set_option linter.unusedVariables false
section
variable {P : Program} {n : Nat} {Q : Exit → Act → World → Prop} {e : Env} {w : World}
theorem WC_scope {c : Code} (h : WC P n c (Exit.noGoto Q) e w) : WC P n (.scope c) Q e w := ⟨fun a ha => wp_scope_straight (h.h a ha)⟩
theorem WC_label {l : Nat} (h : WQ n Q .normal e w) : WC P n (.label l) Q e w := ⟨fun a ha => wp_label (h.h a ha)⟩
theorem WQ_noGoto_ret (h : WQ n Q .ret e w) : WQ n (Exit.noGoto Q) .ret e w := ⟨fun a ha => h.h a ha⟩
end
end Go.Eng


namespace Go.Proofs.YtgpibcgebpgmiaaDoor
open Go Go.Eng Go.RowKit
set_option linter.unusedVariables false
/-- a reader: its block -/
def Rd (X : List Nat) (w : World) (b : Nat) (s : Rs) : Prop := ∃ v, Blk w b 131 [v, .int .i64 s.e] ∧ SlV (b :: X) w v s.bs
theorem Rd.up {X : List Nat} {w w' : World} {b : Nat} {s : Rs} (h : Rd X w b s) (hS : Stp [] w w') : Rd X w' b s := by
  obtain ⟨v, h1, h2⟩ := h
  exact ⟨v, h1.up hS, h2.up hS⟩
def addOn (i acc : Nat) : Sum Int (Nat × Bs) → Sum Int (Nat × Bs)
  | .inl e => .inl e
  | .inr (v, r) => .inr (acc + 128 ^ i * v, r)
theorem rdU_nil {i : Nat} (h : i ≠ 10) : rdU i [] = .inl 6 := by rw [rdU, if_neg h]
theorem rdU_ten (bs : Bs) : rdU 10 bs = .inl 7 := by cases bs <;> rw [rdU, if_pos rfl]
theorem rdU_end {i : Nat} {c : UInt8} {r : Bs} (h : i ≠ 10) (hc : c.toNat < 128) : rdU i (c :: r) = if (i = 9 ∧ 1 < c.toNat) ∨ (0 < i ∧ c.toNat = 0) then .inl 7 else .inr (c.toNat, r) := by rw [rdU, if_neg h, if_pos hc]
theorem rdU_on {i acc : Nat} {c : UInt8} {r : Bs} (h : i ≠ 10) (hc : ¬ c.toNat < 128) : addOn i acc (rdU i (c :: r)) = addOn (i + 1) (acc + c.toNat % 128 * 128 ^ i) (rdU (i + 1) r) := by
  rw [rdU, if_neg h, if_neg hc]
  cases rdU (i + 1) r with
  | inl e => rfl
  | inr p =>
    obtain ⟨v, r'⟩ := p
    simp only [addOn, Sum.inr.injEq, Prod.mk.injEq, and_true]
    rw [Nat.pow_succ, Nat.mul_add, Nat.mul_comm (128 ^ i) (c.toNat % 128), ← Nat.mul_assoc (128 ^ i) 128 v]
    omega
theorem pow7 (i : Nat) : 128 ^ i = 2 ^ (7 * i) := by rw [Nat.pow_mul]
/-- acc | d << 7 i -/
theorem or_shift {i acc d : Nat} (hi : i ≤ 9) (ha : acc < 128 ^ i) (hd : d < 128) : acc ||| (d * 128 ^ i) % 18446744073709551616 = acc + (d * 128 ^ i) % 18446744073709551616 := by
  rw [Nat.or_comm, Nat.add_comm acc]
  have e64 : (18446744073709551616 : Nat) = 2 ^ (7 * i) * 2 ^ (64 - 7 * i) := by rw [← Nat.pow_add, show 7 * i + (64 - 7 * i) = 64 by omega]
  rw [pow7] at ha ⊢
  refine nat_join (7 * i) _ _ ?_ ha
  rw [e64, Nat.mul_comm d, Nat.mul_mod_mul_left, Nat.mul_mod_right]
theorem Fail_any (b e1 : Nat) (v : Value) (e : Int) (w : World) (hb : Blk w b 131 [v, .int .i64 e]) :
    Calls Tryd.prog 83 #[.pointer (some ⟨b, 0, none⟩), .int .i64 (e1 : Int)] w (Ret fun r w' => r = .tuple #[] ∧ Blk w' b 131 [v, .int .i64 (if e = 0 then (e1 : Int) else e)] ∧ Stp [b] w w') := by
  refine calls_of_WC2 (n := 13) Tryd.func83 rfl rfl rfl ?_
  by_cases h : e = 0
  · repeat' (first | refine W1 ?_ | (exfalso; omega) | refine WL_split rfl rfl (fun hg => ?_) (fun hg => ?_) | refine WL_splitB rfl rfl (fun hg => ?_) (fun hg => ?_) | refine WC_cond rfl (fun hc => ?_) (fun hc => ?_) | refine WC_condB rfl (fun hc => ?_) (fun hc => ?_))
    refine WL_eff0 (OE_store1 (u := .int .i64 (e1 : Int)) rfl rfl rfl rfl hb (by simp)) ?_
    rintro _ w1 ⟨hT, hb1⟩
    refine W ?_
    first | refine WQ_ret1 rfl rfl ?_ | refine WQ_ret2 rfl rfl rfl ?_ | refine WQ_ret3 rfl rfl rfl rfl ?_ | refine WQ_ret0 rfl ?_ | refine WQ_end0 rfl ?_
    exact .mk ⟨rfl, by rw [if_pos h]; exact hb1, hT⟩
  · repeat' (first | refine W1 ?_ | (exfalso; omega) | refine WL_split rfl rfl (fun hg => ?_) (fun hg => ?_) | refine WL_splitB rfl rfl (fun hg => ?_) (fun hg => ?_) | refine WC_cond rfl (fun hc => ?_) (fun hc => ?_) | refine WC_condB rfl (fun hc => ?_) (fun hc => ?_))
    first | refine WQ_ret1 rfl rfl ?_ | refine WQ_ret2 rfl rfl rfl ?_ | refine WQ_ret3 rfl rfl rfl rfl ?_ | refine WQ_ret0 rfl ?_ | refine WQ_end0 rfl ?_
    exact .mk ⟨rfl, by rw [if_neg h]; exact hb, Stp.refl _ _⟩
set_option maxRecDepth 8000 in
theorem RUint_any (X : List Nat) (b : Nat) (s : Rs) (w : World) (hr : Rd X w b s) :
    Calls Tryd.prog 84 #[.pointer (some ⟨b, 0, none⟩)] w (Ret fun r w' => r = .int .u64 ((uintS s).2 : Int) ∧ Rd X w' b (uintS s).1 ∧ Stp [b] w w') := by
  obtain ⟨v, hb, hs⟩ := hr
  have hmax := hs.max
  refine calls_of_WC1 (n := 82) Tryd.func84 rfl rfl rfl ?_
  refine W ?_
  refine WC_scope ?_
  by_cases he : s.e = 0
  · repeat' (first | refine W1 ?_ | (exfalso; omega) | refine WL_split rfl rfl (fun hg => ?_) (fun hg => ?_) | refine WL_splitB rfl rfl (fun hg => ?_) (fun hg => ?_) | refine WC_cond rfl (fun hc => ?_) (fun hc => ?_) | refine WC_condB rfl (fun hc => ?_) (fun hc => ?_))
    refine WC_label ?_
    refine W ?_
    have huint : uintS s = (match rdU 0 s.bs with | .inl e => (⟨s.bs, e⟩, 0) | .inr (v, r) => (⟨r, 0⟩, v)) := by unfold uintS; rw [if_pos he]; try rfl
    rw [he] at hb
    have hfail : ∀ e1 : Nat, rdU 0 s.bs = .inl (e1 : Int) → ∀ w', Blk w' b 131 [v, .int .i64 (if (0 : Int) = 0 then (e1 : Int) else 0)] → Stp [b] w w' → (Ret fun r w' => r = .int .u64 ((uintS s).2 : Int) ∧ Rd X w' b (uintS s).1 ∧ Stp [b] w w') (.returned (.int .u64 0)) w' := fun e1 h1 w' h2 h3 => by
      rw [huint, h1]
      exact .mk ⟨rfl, ⟨v, by simpa using h2, hs.ext h3 (fun c hc => by simp at hc; simp [hc]) (fun c hc => .inl hc)⟩, h3⟩
    refine WC_loop (σ := Nat × Nat) (fun q => [(0, .pointer (some ⟨b, 0, none⟩)), (3, .int .u64 (q.2 : Int)), (4, .int .i64 (q.1 : Int))]) (fun q w' => w' = w ∧ q.1 ≤ 10 ∧ q.1 ≤ s.bs.length ∧ q.2 < 18446744073709551616 ∧ (q.1 ≤ 9 → q.2 < 128 ^ q.1) ∧ rdU 0 s.bs = addOn q.1 q.2 (rdU q.1 (s.bs.drop q.1))) (fun q => 10 - q.1) (0, 0) ⟨rfl, rfl, rfl, trivial⟩
      ⟨rfl, by omega, by omega, by omega, fun _ => by simp, by simp only [List.drop_zero]; cases rdU 0 s.bs with | inl e => rfl | inr p => simp [addOn]⟩ ?_
    rintro ⟨i, acc⟩ w2 ⟨rfl, hi, hil, hacc, hlt, heq⟩
    dsimp only at hi hil hacc hlt heq ⊢
    by_cases h10 : i = 10
    · have h1 : rdU 0 s.bs = .inl ((7 : Nat) : Int) := by rw [heq, h10, rdU_ten]; rfl
      repeat' (first | refine W1 ?_ | (exfalso; omega) | refine WL_split rfl rfl (fun hg => ?_) (fun hg => ?_) | refine WL_splitB rfl rfl (fun hg => ?_) (fun hg => ?_) | refine WC_cond rfl (fun hc => ?_) (fun hc => ?_) | refine WC_condB rfl (fun hc => ?_) (fun hc => ?_))
      refine WL_eff (OE_call rfl (evs2 rfl rfl) (Fail_any b 7 v 0 _ hb)) rfl ?_
      rintro _ w3 ⟨rfl, hb3, hT⟩
      refine W ?_
      refine WQ_noGoto_ret ?_
      first | refine WQ_ret1 rfl rfl ?_ | refine WQ_ret2 rfl rfl rfl ?_ | refine WQ_ret3 rfl rfl rfl rfl ?_ | refine WQ_ret0 rfl ?_ | refine WQ_end0 rfl ?_
      exact hfail 7 h1 _ hb3 hT
    · by_cases hend : i = s.bs.length
      · have h1 : rdU 0 s.bs = .inl ((6 : Nat) : Int) := by rw [heq, hend, List.drop_length, rdU_nil (by omega)]; rfl
        repeat' (first | refine W1 ?_ | (exfalso; omega) | refine WL_split rfl rfl (fun hg => ?_) (fun hg => ?_) | refine WL_splitB rfl rfl (fun hg => ?_) (fun hg => ?_) | refine WC_cond rfl (fun hc => ?_) (fun hc => ?_) | refine WC_condB rfl (fun hc => ?_) (fun hc => ?_))
        refine WL_eff (OE_call rfl (evs2 rfl rfl) (Fail_any b 6 v 0 _ hb)) rfl ?_
        rintro _ w3 ⟨rfl, hb3, hT⟩
        refine W ?_
        refine WQ_noGoto_ret ?_
        first | refine WQ_ret1 rfl rfl ?_ | refine WQ_ret2 rfl rfl rfl ?_ | refine WQ_ret3 rfl rfl rfl rfl ?_ | refine WQ_ret0 rfl ?_ | refine WQ_end0 rfl ?_
        exact hfail 6 h1 _ hb3 hT
      · have hget : i < s.bs.length := by omega
        have hdrop : s.bs.drop i = s.bs[i] :: s.bs.drop (i + 1) := List.drop_eq_getElem_cons hget
        have hc256 : s.bs[i].toNat < 256 := s.bs[i].toNat_lt
        have hacc9 := hlt (by omega)
        have hd := or_shift (d := s.bs[i].toNat % 128) (by omega : i ≤ 9) hacc9 (by omega)
        have hdm : s.bs[i].toNat % 128 * 128 ^ i % 18446744073709551616 < 18446744073709551616 := Nat.mod_lt _ (by omega)
        have hpow : 128 ^ i ≤ 9223372036854775808 := by
          have : 128 ^ i ≤ 128 ^ 9 := Nat.pow_le_pow_right (by decide) (by omega)
          omega
        have hor : acc ||| (s.bs[i].toNat % 128 * 128 ^ i) % 18446744073709551616 < 2 ^ 64 := Nat.or_lt_two_pow (by omega) (by omega)
        repeat' (first | refine W1 ?_ | (exfalso; omega) | refine WL_split rfl rfl (fun hg => ?_) (fun hg => ?_) | refine WL_splitB rfl rfl (fun hg => ?_) (fun hg => ?_) | refine WC_cond rfl (fun hc => ?_) (fun hc => ?_) | refine WC_condB rfl (fun hc => ?_) (fun hc => ?_))
        refine WL_pure (PR_and (r := ((s.bs[i].toNat % 128 : Nat) : Int)) rfl rfl (by rw [show (127 : Int) = ((127 : Nat) : Int) from rfl, u8_and_nat _ _ hc256 (by decide), nat_mask7])) rfl ?_
        refine WL_pure (PR_convTo (b := ((s.bs[i].toNat % 128 : Nat) : Int)) rfl (wrap_u64_of (by omega) (by omega))) rfl ?_
        refine W ?_
        refine WL_pure (PR_shl (yk := .i64) (s := 7 * i) (r := ((s.bs[i].toNat % 128 * 128 ^ i % 18446744073709551616 : Nat) : Int)) rfl (by show some (Value.int .i64 (7 * (i : Int))) = some _; simp) (by simp [IntKind.bits]; omega) (by rw [pow7, IntKind.wrap_u64]; simp)) rfl ?_
        refine WL_pure (PR_or (r := ((acc + s.bs[i].toNat % 128 * 128 ^ i % 18446744073709551616 : Nat) : Int)) rfl rfl (by rw [u64_or_nat _ _ hacc hdm, hd])) rfl ?_
        rw [hd] at hor
        by_cases hc : s.bs[i].toNat < 128
        · have hrd := rdU_end (r := s.bs.drop (i + 1)) h10 hc
          rw [hdrop, hrd] at heq
          by_cases hbad : (i = 9 ∧ 1 < s.bs[i].toNat) ∨ (0 < i ∧ s.bs[i].toNat = 0)
          · have h1 : rdU 0 s.bs = .inl ((7 : Nat) : Int) := by rw [heq, if_pos hbad]; rfl
            repeat' (first | refine W1 ?_ | (exfalso; omega) | refine WL_split rfl rfl (fun hg => ?_) (fun hg => ?_) | refine WL_splitB rfl rfl (fun hg => ?_) (fun hg => ?_) | refine WC_cond rfl (fun hc => ?_) (fun hc => ?_) | refine WC_condB rfl (fun hc => ?_) (fun hc => ?_))
            all_goals
              refine WL_eff (OE_call rfl (evs2 rfl rfl) (Fail_any b 7 v 0 _ hb)) rfl ?_
              rintro _ w3 ⟨rfl, hb3, hT⟩
              refine W ?_
              refine WQ_noGoto_ret ?_
              first | refine WQ_ret1 rfl rfl ?_ | refine WQ_ret2 rfl rfl rfl ?_ | refine WQ_ret3 rfl rfl rfl rfl ?_ | refine WQ_ret0 rfl ?_ | refine WQ_end0 rfl ?_
              exact hfail 7 h1 _ hb3 hT
          · rw [if_neg hbad] at heq
            have hval : acc + s.bs[i].toNat % 128 * 128 ^ i % 18446744073709551616 = acc + 128 ^ i * s.bs[i].toNat := by
              have hsm : s.bs[i].toNat * 128 ^ i < 18446744073709551616 := by
                by_cases h9 : i = 9
                · subst h9
                  have : s.bs[9].toNat ≤ 1 := by omega
                  have := Nat.mul_le_mul_right (128 ^ 9) this
                  omega
                · have h8 : 128 ^ i ≤ 128 ^ 8 := Nat.pow_le_pow_right (by decide) (by omega)
                  have : s.bs[i].toNat * 128 ^ i ≤ 127 * 128 ^ 8 := Nat.mul_le_mul (by omega) h8
                  omega
              rw [Nat.mod_eq_of_lt hc, Nat.mod_eq_of_lt hsm, Nat.mul_comm]
            rw [hval]
            simp only [addOn] at heq
            rw [heq] at huint
            dsimp only at huint
            have hsl := hs.slc (l := i + 1) (r := s.bs.length) (by omega) (Nat.le_refl _)
            rw [List.take_length] at hsl
            replace hsl : SlV (b :: X) w2 (slc v (i + 1) s.bs.length 1) (s.bs.drop (i + 1)) := hsl
            repeat' (first | refine W1 ?_ | (exfalso; omega) | refine WL_split rfl rfl (fun hg => ?_) (fun hg => ?_) | refine WL_splitB rfl rfl (fun hg => ?_) (fun hg => ?_) | refine WC_cond rfl (fun hc => ?_) (fun hc => ?_) | refine WC_condB rfl (fun hc => ?_) (fun hc => ?_))
            all_goals
              refine WL_slice_l (l := i + 1) rfl hs rfl (by simp) (by omega) rfl ?_
              refine W ?_
              refine WL_eff0 (OE_store1 (u := slc v (i + 1) s.bs.length 1) rfl rfl hsl.cells hsl.one hb (by simp)) ?_
              rintro _ w3 ⟨hT, hb3⟩
              refine W ?_
              refine WQ_noGoto_ret ?_
              first | refine WQ_ret1 rfl rfl ?_ | refine WQ_ret2 rfl rfl rfl ?_ | refine WQ_ret3 rfl rfl rfl rfl ?_ | refine WQ_ret0 rfl ?_ | refine WQ_end0 rfl ?_
              rw [huint]
              exact .mk ⟨rfl, ⟨_, hb3, hsl.ext hT (fun c hc => by simp at hc; simp [hc]) (fun c hc => .inl hc)⟩, hT⟩
        · rw [hdrop, rdU_on h10 hc] at heq
          have hnext : rdU 0 s.bs = addOn (i + 1) (acc + s.bs[i].toNat % 128 * 128 ^ i % 18446744073709551616) (rdU (i + 1) (s.bs.drop (i + 1))) := by
            by_cases h9 : i = 9
            · have e10 : ∀ l, rdU (i + 1) l = .inl 7 := fun l => by rw [show i + 1 = 10 by omega]; exact rdU_ten l
              rw [heq, e10]; rfl
            · have h8 : 128 ^ i ≤ 128 ^ 8 := Nat.pow_le_pow_right (by decide) (by omega)
              have : s.bs[i].toNat % 128 * 128 ^ i ≤ 127 * 128 ^ 8 := Nat.mul_le_mul (by omega) h8
              rw [Nat.mod_eq_of_lt (by omega), heq]
          have hlt2 : i + 1 ≤ 9 → acc + s.bs[i].toNat % 128 * 128 ^ i % 18446744073709551616 < 128 ^ (i + 1) := fun h => by
            have h1 : s.bs[i].toNat % 128 * 128 ^ i ≤ 127 * 128 ^ i := Nat.mul_le_mul_right _ (by omega)
            have h2 : s.bs[i].toNat % 128 * 128 ^ i % 18446744073709551616 ≤ s.bs[i].toNat % 128 * 128 ^ i := Nat.mod_le _ _
            rw [Nat.pow_succ]
            omega
          generalize hG : acc + s.bs[i].toNat % 128 * 128 ^ i % 18446744073709551616 = acc' at *
          repeat' (first | refine W1 ?_ | (exfalso; omega) | refine WL_split rfl rfl (fun hg => ?_) (fun hg => ?_) | refine WL_splitB rfl rfl (fun hg => ?_) (fun hg => ?_) | refine WC_cond rfl (fun hc => ?_) (fun hc => ?_) | refine WC_condB rfl (fun hc => ?_) (fun hc => ?_))
          all_goals exact WQ_loop (i + 1, acc') ⟨rfl, rfl, rfl, trivial⟩ ⟨rfl, by dsimp only; omega, by dsimp only; omega, by dsimp only; omega, hlt2, hnext⟩ (by dsimp only; omega)
  · repeat' (first | refine W1 ?_ | (exfalso; omega) | refine WL_split rfl rfl (fun hg => ?_) (fun hg => ?_) | refine WL_splitB rfl rfl (fun hg => ?_) (fun hg => ?_) | refine WC_cond rfl (fun hc => ?_) (fun hc => ?_) | refine WC_condB rfl (fun hc => ?_) (fun hc => ?_))
    refine WQ_noGoto_ret ?_
    first | refine WQ_ret1 rfl rfl ?_ | refine WQ_ret2 rfl rfl rfl ?_ | refine WQ_ret3 rfl rfl rfl rfl ?_ | refine WQ_ret0 rfl ?_ | refine WQ_end0 rfl ?_
    rw [uintS_bad he]
    exact .mk ⟨rfl, ⟨v, hb, hs⟩, Stp.refl _ _⟩
end Go.Proofs.YtgpibcgebpgmiaaDoor


namespace Go.Proofs.YtgpibcgebpgmiaaDoor
open Go Go.Eng Go.RowKit
set_option linter.unusedVariables false
theorem xor_m1 {a : Int} (h0 : 0 ≤ a) (h1 : a < 9223372036854775808) : Go.bits .xor .i64 a (-1) = -a - 1 := by
  obtain ⟨n, rfl⟩ := Int.eq_ofNat_of_zero_le h0
  have e1 : (BitVec.ofInt 64 (n : Int)).toNat = n := by
    rw [BitVec.ofInt_natCast, BitVec.toNat_ofNat]; exact Nat.mod_eq_of_lt (by omega)
  have e2 : BitVec.ofInt 64 (-1 : Int) = BitVec.allOnes 64 := by decide
  show IntKind.i64.wrap ((BitVec.ofInt 64 (n : Int) ^^^ BitVec.ofInt 64 (-1 : Int)).toNat : Int) = _
  rw [e2, BitVec.xor_allOnes, BitVec.toNat_not, e1]
  simp [IntKind.wrap, IntKind.bits, IntKind.signed]
  omega
theorem xor_0 {a : Int} (h0 : 0 ≤ a) (h1 : a < 9223372036854775808) : Go.bits .xor .i64 a 0 = a := by
  obtain ⟨n, rfl⟩ := Int.eq_ofNat_of_zero_le h0
  have e1 : (BitVec.ofInt 64 (n : Int)).toNat = n := by
    rw [BitVec.ofInt_natCast, BitVec.toNat_ofNat]; exact Nat.mod_eq_of_lt (by omega)
  have e2 : BitVec.ofInt 64 (0 : Int) = 0#64 := by decide
  show IntKind.i64.wrap ((BitVec.ofInt 64 (n : Int) ^^^ BitVec.ofInt 64 (0 : Int)).toNat : Int) = _
  rw [e2, BitVec.xor_zero, e1]
  simp [IntKind.wrap, IntKind.bits, IntKind.signed]
  omega
theorem u64_and1 (u : Nat) (h : u < 18446744073709551616) : Go.bits .and .u64 (u : Int) 1 = ((u % 2 : Nat) : Int) := by
  have e1 : (BitVec.ofInt 64 (u : Int)).toNat = u := by
    rw [BitVec.ofInt_natCast, BitVec.toNat_ofNat]; exact Nat.mod_eq_of_lt (by omega)
  have e2 : (BitVec.ofInt 64 (1 : Int)).toNat = 1 := by decide
  show IntKind.u64.wrap ((BitVec.ofInt 64 (u : Int) &&& BitVec.ofInt 64 (1 : Int)).toNat : Int) = _
  rw [BitVec.toNat_and, e1, e2, Nat.and_one_is_mod, IntKind.wrap_u64]
  omega
theorem uintS_lt (s : Rs) : (uintS s).2 < 18446744073709551616 := by
  unfold uintS
  split
  · cases h : rdU 0 s.bs with
    | inl e => simp
    | inr p =>
      obtain ⟨v, r⟩ := p
      have := (rdU_dec _ _ _ _ (by omega) h).2.1
      simpa using this
  · simp
theorem RInt_any (X : List Nat) (b : Nat) (s : Rs) (w : World) (hr : Rd X w b s) :
    Calls Tryd.prog 44 #[.pointer (some ⟨b, 0, none⟩)] w (Ret fun r w' => r = .int .i64 (intS s).2 ∧ Rd X w' b (intS s).1 ∧ Stp [b] w w') := by
  refine calls_of_WC1 (n := 14) Tryd.func44 rfl rfl rfl ?_
  refine W ?_
  refine WL_eff (OE_call rfl (evs1 rfl) (RUint_any X b s w hr)) rfl ?_
  rintro _ w1 ⟨rfl, hr1, hT⟩
  have hlt := uintS_lt s
  have hi : (intS s).1 = (uintS s).1 := rfl
  have hi2 : (intS s).2 = zagI (uintS s).2 := rfl
  rw [hi, hi2]
  clear hi hi2
  generalize (uintS s).2 = u at *
  refine W ?_
  refine WL_pure (PR_shr (yk := .u64) (s := 1) (r := ((u / 2 : Nat) : Int)) rfl rfl (by decide) (by simp)) rfl ?_
  refine WL_pure (PR_convTo (b := ((u / 2 : Nat) : Int)) rfl (wrap_i64_of (by unfold I64; omega))) rfl ?_
  refine W ?_
  refine WL_pure (PR_and (r := ((u % 2 : Nat) : Int)) rfl rfl (u64_and1 u hlt)) rfl ?_
  refine WL_pure (PR_convTo (b := ((u % 2 : Nat) : Int)) rfl (wrap_i64_of (by unfold I64; omega))) rfl ?_
  refine W ?_
  refine WL_pure (PR_xor (r := zagI u) rfl rfl ?_) rfl ?_
  · unfold zagI
    by_cases h : u % 2 = 1
    · rw [if_pos h, h]
      exact xor_m1 (by omega) (by omega)
    · rw [if_neg h, show u % 2 = 0 by omega]
      exact xor_0 (by omega) (by omega)
  refine W ?_
  first | refine WQ_ret1 rfl rfl ?_ | refine WQ_ret2 rfl rfl rfl ?_ | refine WQ_ret3 rfl rfl rfl rfl ?_ | refine WQ_ret0 rfl ?_ | refine WQ_end0 rfl ?_
  exact .mk ⟨rfl, hr1, hT⟩
end Go.Proofs.YtgpibcgebpgmiaaDoor

