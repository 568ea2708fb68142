/-
Merged by program out of own texts: Nam1, Nam2, Psr1, Eng25, Psr2, PsrP, Gen1, Gen2, Gen3, Psr3, Psr4, Psr5, Psr6, Nam3, Nam4, Psr7, Psr8.
-/
import Derived.Test.YtgpibcgebpgmiaaGreatDoorM2
import Derived.Laws.RangeString
import Derived.Laws.RangeAny

namespace Go.Proofs.YtgpibcgebpgmiaaGreatDoor
open Go Go.Eng Go.RowKit
set_option linter.unusedVariables false

/-! ### names -/
def resC : Str := [32, 114, 117, 108, 101, 32, 102, 114, 111, 109, 32, 111, 110, 32, 105, 102, 32, 100, 117, 101, 32, 117, 110, 108, 101, 115, 115, 32, 101, 108, 115, 101, 32, 111, 114, 32, 97, 110, 100, 32, 110, 111, 116, 32, 116, 114, 117, 101, 32, 102, 97, 108, 115, 101, 32, 116, 104, 101, 110, 32, 101, 110, 100, 32, 100, 97, 121, 115, 32, 119, 101, 101, 107, 115, 32, 109, 111, 110, 116, 104, 115, 32, 99, 111, 117, 114, 116, 100, 97, 121, 115, 32, 110, 101, 120, 116, 32, 112, 114, 101, 118, 32, 108, 97, 116, 101, 114, 32, 101, 97, 114, 108, 105, 101, 114, 32, 98, 101, 116, 119, 101, 101, 110, 32]
def resW : List Str := [[114, 117, 108, 101], [102, 114, 111, 109], [111, 110], [105, 102], [100, 117, 101], [117, 110, 108, 101, 115, 115], [101, 108, 115, 101], [111, 114], [97, 110, 100], [110, 111, 116], [116, 114, 117, 101], [102, 97, 108, 115, 101], [116, 104, 101, 110], [101, 110, 100], [100, 97, 121, 115], [119, 101, 101, 107, 115], [109, 111, 110, 116, 104, 115], [99, 111, 117, 114, 116, 100, 97, 121, 115], [110, 101, 120, 116], [112, 114, 101, 118], [108, 97, 116, 101, 114], [101, 97, 114, 108, 105, 101, 114], [98, 101, 116, 119, 101, 101, 110]]
theorem index_iff : ∀ (s sub : List UInt8), 0 ≤ Lib.index s sub ↔ ∃ i, i ≤ s.length ∧ sub.isPrefixOf (s.drop i) = true
  | [], sub => by
    unfold Lib.index
    cases sub with
    | nil => simp
    | cons a l => simp
  | b :: l, sub => by
    have ih := index_iff l sub
    have hge := Lib.index_ge l sub
    unfold Lib.index
    by_cases hp : sub.isPrefixOf (b :: l) = true
    · rw [if_pos hp]
      exact ⟨fun _ => ⟨0, by omega, hp⟩, fun _ => by omega⟩
    · rw [if_neg hp]
      have e : (0 : Int) ≤ (if (Lib.index l sub == -1) = true then -1 else Lib.index l sub + 1) ↔ 0 ≤ Lib.index l sub := by
        by_cases h1 : Lib.index l sub = -1
        · rw [if_pos (by simpa using h1)]; omega
        · rw [if_neg (by simpa using h1)]; omega
      rw [e, ih]
      constructor
      · rintro ⟨i, hi, h⟩
        exact ⟨i + 1, by simpa using hi, h⟩
      · rintro ⟨i, hi, h⟩
        cases i with
        | zero => exact absurd h hp
        | succ i => exact ⟨i, by simpa using hi, h⟩
theorem take_word : ∀ (t r : List UInt8), (∀ c ∈ t, c ≠ 32) → (t ++ [32]).isPrefixOf r = true → r.takeWhile (fun c => decide (c ≠ 32)) = t
  | [], r, _, h => by
    cases r with
    | nil => simp at h
    | cons a l =>
      simp [List.isPrefixOf] at h
      subst h
      rfl
  | c :: t, r, hc, h => by
    cases r with
    | nil => simp at h
    | cons a l =>
      simp only [List.cons_append, List.isPrefixOf, Bool.and_eq_true, beq_iff_eq] at h
      obtain ⟨rfl, h⟩ := h
      have h1 := hc c (by simp)
      rw [List.takeWhile_cons_of_pos (by simpa using h1), take_word t l (fun x hx => hc x (by simp [hx])) h]
theorem res_words : ∀ i ∈ List.range (resC.length + 1), (resC.drop i).head? = some 32 → (resC.drop (i + 1)).takeWhile (fun c => decide (c ≠ 32)) ∈ resW ∨ (resC.drop (i + 1)).takeWhile (fun c => decide (c ≠ 32)) = [] := by decide +kernel
theorem res_has : ∀ t ∈ resW, Lib.contains resC (32 :: t ++ [32]) = true := by decide +kernel
theorem res_iff {t : Str} (h0 : t ≠ []) (hc : ∀ c ∈ t, c ≠ 32) : Lib.contains resC (32 :: t ++ [32]) = decide (t ∈ resW) := by
  by_cases ht : t ∈ resW
  · rw [res_has t ht, decide_eq_true ht]
  · rw [decide_eq_false ht]
    unfold Lib.contains
    rw [decide_eq_false_iff_not, index_iff]
    rintro ⟨i, hi, h⟩
    cases hd : resC.drop i with
    | nil => rw [hd] at h; simp at h
    | cons a l =>
      rw [hd] at h
      simp only [List.cons_append, List.isPrefixOf, Bool.and_eq_true, beq_iff_eq] at h
      obtain ⟨rfl, h⟩ := h
      have hl : resC.drop (i + 1) = l := by
        have := congrArg List.tail hd
        simpa [List.tail_drop] using this
      have hw := take_word t l hc h
      have := res_words i (List.mem_range.2 (by omega)) (by rw [hd]; rfl)
      rw [hl, hw] at this
      exact this.elim ht h0
end Go.Proofs.YtgpibcgebpgmiaaGreatDoor


namespace Go.Proofs.YtgpibcgebpgmiaaGreatDoor
open Go Go.Eng Go.RowKit
set_option linter.unusedVariables false

abbrev lett (c : Int) : Prop := (97 ≤ c ∧ c ≤ 122) ∨ (48 ≤ c ∧ c ≤ 57)
def nameOk (s : Str) : Bool := decide (0 < s.length ∧ s.length ≤ 12 ∧ 97 ≤ byte s 0 ∧ byte s 0 ≤ 122 ∧ ∀ i, i < s.length → lett (byte s i))
/-- a string is a name -/
def namedT (s : Str) : Bool := nameOk s && decide (s ∉ resW ∧ s ∉ fieldNames)
theorem contains_any (a b : Str) (m : Int) (w : World) (ha : a.length < 4294967281) (hm : w.cell? ⟨1, 0, none⟩ = some (.int .i64 m)) :
    Calls Tryz.prog 103 #[str a, str b] w (Ret fun r w' => r = .bool (Lib.contains a b) ∧ Stp [] w w') := by
  refine (Tryz.strings_Contains ⟨a.toArray⟩ ⟨b.toArray⟩ m w (by rw [str_size]; exact ha) hm).mono ?_
  rintro e w' ⟨rfl, rfl⟩
  exact .mk ⟨rfl, Stp.refl _ _⟩
theorem idx_memS {l : List Str} {s : Str} : 0 ≤ idx (isS s) l ↔ s ∈ l := by
  unfold idx
  cases h : l.findIdx? (isS s) with
  | none =>
    rw [List.findIdx?_eq_none_iff] at h
    simp only
    constructor
    · intro h1; omega
    · intro h1
      have := h s h1
      simp [isS] at this
  | some i =>
    obtain ⟨hi, hp, _⟩ := List.findIdx?_eq_some_iff_getElem.1 h
    simp only
    constructor
    · intro _
      have : l[i] = s := by simpa [isS] using hp
      rw [← this]; exact List.getElem_mem hi
    · intro _; omega
theorem containsS_any (X : List Nat) (v : Value) (l : List Str) (a : Str) (w : World) (hs : SlV X w v l) :
    Calls Tryz.prog 104 #[v, str a] w (Ret fun r w' => r = .bool (decide (a ∈ l)) ∧ Stp [] w w') := by
  refine calls_of_WC2 (n := 9) Tryz.func104 rfl rfl rfl ?_
  refine W ?_
  refine WL_eff (OE_call rfl (evs2 rfl rfl) (index_any X v l a _ hs)) rfl ?_
  rintro _ w1 ⟨rfl, hS⟩
  refine W ?_
  first | refine WQ_ret1 rfl rfl ?_ | refine WQ_ret2 rfl rfl rfl ?_ | refine WQ_ret3 rfl rfl rfl rfl ?_ | refine WQ_ret0 rfl ?_ | refine WQ_end0 rfl ?_
  exact .mk ⟨by congr 1; exact decide_eq_decide.2 idx_memS, hS⟩
theorem named_any (s : Str) (m : Int) (w : World) (hF : SlV [] w flds fieldNames) (hm : w.cell? ⟨1, 0, none⟩ = some (.int .i64 m)) :
    Calls Tryz.prog 57 #[str s] w (Ret fun r w' => r = .bool (namedT s) ∧ Stp [] w w') := by
  refine calls_of_WC1 (n := 55) Tryz.func57 rfl rfl rfl ?_
  refine W ?_
  by_cases h0 : s.length ≠ 0 ∧ s.length ≤ 12 ∧ 97 ≤ byte s 0 ∧ byte s 0 ≤ 122
  case neg =>
    have hn : namedT s = false := by
      unfold namedT nameOk
      rw [decide_eq_false (fun h => h0 ⟨by omega, h.2.1, h.2.2.1, h.2.2.2.1⟩)]
      rfl
    by_cases hl : s.length ≠ 0
    · repeat' (first | refine W1 ?_ | (exfalso; omega) | refine WL_split rfl rfl (fun hg => ?_) (fun hg => ?_) | refine WL_splitB rfl rfl (fun hg => ?_) (fun hg => ?_) | refine WC_cond rfl (fun hc => ?_) (fun hc => ?_) | refine WC_condB rfl (fun hc => ?_) (fun hc => ?_))
      · first | refine WQ_ret1 rfl rfl ?_ | refine WQ_ret2 rfl rfl rfl ?_ | refine WQ_ret3 rfl rfl rfl rfl ?_ | refine WQ_ret0 rfl ?_ | refine WQ_end0 rfl ?_
        exact .mk ⟨by rw [hn], Stp.refl _ _⟩
      · first | refine WQ_ret1 rfl rfl ?_ | refine WQ_ret2 rfl rfl rfl ?_ | refine WQ_ret3 rfl rfl rfl rfl ?_ | refine WQ_ret0 rfl ?_ | refine WQ_end0 rfl ?_
        exact .mk ⟨by rw [hn], Stp.refl _ _⟩
      refine WL_indexT (i := 0) rfl rfl rfl (by omega) rfl ?_
      repeat' (first | refine W1 ?_ | (exfalso; omega) | refine WL_split rfl rfl (fun hg => ?_) (fun hg => ?_) | refine WL_splitB rfl rfl (fun hg => ?_) (fun hg => ?_) | refine WC_cond rfl (fun hc => ?_) (fun hc => ?_) | refine WC_condB rfl (fun hc => ?_) (fun hc => ?_))
      · first | refine WQ_ret1 rfl rfl ?_ | refine WQ_ret2 rfl rfl rfl ?_ | refine WQ_ret3 rfl rfl rfl rfl ?_ | refine WQ_ret0 rfl ?_ | refine WQ_end0 rfl ?_
        exact .mk ⟨by rw [hn], Stp.refl _ _⟩
      refine WL_indexT (i := 0) rfl rfl rfl (by omega) rfl ?_
      repeat' (first | refine W1 ?_ | (exfalso; omega) | refine WL_split rfl rfl (fun hg => ?_) (fun hg => ?_) | refine WL_splitB rfl rfl (fun hg => ?_) (fun hg => ?_) | refine WC_cond rfl (fun hc => ?_) (fun hc => ?_) | refine WC_condB rfl (fun hc => ?_) (fun hc => ?_))
      first | refine WQ_ret1 rfl rfl ?_ | refine WQ_ret2 rfl rfl rfl ?_ | refine WQ_ret3 rfl rfl rfl rfl ?_ | refine WQ_ret0 rfl ?_ | refine WQ_end0 rfl ?_
      exact .mk ⟨by rw [hn], Stp.refl _ _⟩
    · obtain rfl : s = [] := List.length_eq_zero_iff.1 (by omega)
      repeat' (first | refine W1 ?_ | (exfalso; omega) | refine WL_split rfl rfl (fun hg => ?_) (fun hg => ?_) | refine WL_splitB rfl rfl (fun hg => ?_) (fun hg => ?_) | refine WC_cond rfl (fun hc => ?_) (fun hc => ?_) | refine WC_condB rfl (fun hc => ?_) (fun hc => ?_))
      first | refine WQ_ret1 rfl rfl ?_ | refine WQ_ret2 rfl rfl rfl ?_ | refine WQ_ret3 rfl rfl rfl rfl ?_ | refine WQ_ret0 rfl ?_ | refine WQ_end0 rfl ?_
      exact .mk ⟨by rw [hn], Stp.refl _ _⟩
  obtain ⟨h1, h2, h3, h4⟩ := h0
  have hne : ¬ s = [] := fun h => by rw [h] at h1; exact h1 rfl
  repeat' (first | refine W1 ?_ | (exfalso; omega) | refine WL_split rfl rfl (fun hg => ?_) (fun hg => ?_) | refine WL_splitB rfl rfl (fun hg => ?_) (fun hg => ?_) | refine WC_cond rfl (fun hc => ?_) (fun hc => ?_) | refine WC_condB rfl (fun hc => ?_) (fun hc => ?_))
  · exact absurd (by assumption) hne
  refine WL_indexT (i := 0) rfl rfl rfl (by omega) rfl ?_
  repeat' (first | refine W1 ?_ | (exfalso; omega) | refine WL_split rfl rfl (fun hg => ?_) (fun hg => ?_) | refine WL_splitB rfl rfl (fun hg => ?_) (fun hg => ?_) | refine WC_cond rfl (fun hc => ?_) (fun hc => ?_) | refine WC_condB rfl (fun hc => ?_) (fun hc => ?_))
  refine WL_indexT (i := 0) rfl rfl rfl (by omega) rfl ?_
  repeat' (first | refine W1 ?_ | (exfalso; omega) | refine WL_split rfl rfl (fun hg => ?_) (fun hg => ?_) | refine WL_splitB rfl rfl (fun hg => ?_) (fun hg => ?_) | refine WC_cond rfl (fun hc => ?_) (fun hc => ?_) | refine WC_condB rfl (fun hc => ?_) (fun hc => ?_))
  refine WL_eff (OE_convS rfl (by omega)) rfl ?_
  rintro bv w1 ⟨hb, hS⟩
  replace hb := hb [] (by simp)
  have hmx := hb.max
  repeat' (first | refine W1 ?_ | (exfalso; omega) | refine WL_split rfl rfl (fun hg => ?_) (fun hg => ?_) | refine WL_splitB rfl rfl (fun hg => ?_) (fun hg => ?_) | refine WC_cond rfl (fun hc => ?_) (fun hc => ?_) | refine WC_condB rfl (fun hc => ?_) (fun hc => ?_))
  refine WC_loop (σ := Nat) (fun i => [(0, str s), (23, bv), (24, .int .i64 (s.length : Int)), (25, .int .i64 (i : Int))]) (fun i w' => i ≤ s.length ∧ Stp [] w1 w' ∧ ∀ j, j < i → lett (byte s j)) (fun i => s.length - i) 0 ⟨rfl, rfl, rfl, rfl, trivial⟩ ⟨Nat.zero_le _, Stp.refl _ _, fun j hj => absurd hj (Nat.not_lt_zero _)⟩ ?_
  rintro i w2 ⟨hi, hS2, hall⟩
  try dsimp only at hi hall ⊢
  replace hb := hb.up hS2
  replace hS := hS.trans hS2
  by_cases hlt : i < s.length
  · have hbi : byte s i = (s[i].toNat : Int) := Go.Eng.byte_at hlt
    by_cases hle : (97 ≤ (s[i].toNat : Int) ∧ (s[i].toNat : Int) ≤ 122) ∨ (48 ≤ (s[i].toNat : Int) ∧ (s[i].toNat : Int) ≤ 57)
    · have hall' : ∀ j, j < i + 1 → lett (byte s j) := fun j hj => by
        by_cases e : j = i
        · subst e; rw [hbi]; exact hle
        · exact hall j (by omega)
      repeat' (first | refine W1 ?_ | (exfalso; omega) | refine WL_split rfl rfl (fun hg => ?_) (fun hg => ?_) | refine WL_splitB rfl rfl (fun hg => ?_) (fun hg => ?_) | refine WC_cond rfl (fun hc => ?_) (fun hc => ?_) | refine WC_condB rfl (fun hc => ?_) (fun hc => ?_))
      all_goals exact WQ_loop (i + 1) ⟨rfl, rfl, rfl, rfl, trivial⟩ ⟨hlt, hS2, hall'⟩ (Nat.sub_lt_sub_left hlt (Nat.lt_succ_self i))
    · have hn : namedT s = false := by
        unfold namedT nameOk
        rw [decide_eq_false (fun h => hle (by have := h.2.2.2.2 i hlt; rw [hbi] at this; exact this))]
        rfl
      repeat' (first | refine W1 ?_ | (exfalso; omega) | refine WL_split rfl rfl (fun hg => ?_) (fun hg => ?_) | refine WL_splitB rfl rfl (fun hg => ?_) (fun hg => ?_) | refine WC_cond rfl (fun hc => ?_) (fun hc => ?_) | refine WC_condB rfl (fun hc => ?_) (fun hc => ?_))
      all_goals
        first | refine WQ_ret1 rfl rfl ?_ | refine WQ_ret2 rfl rfl rfl ?_ | refine WQ_ret3 rfl rfl rfl rfl ?_ | refine WQ_ret0 rfl ?_ | refine WQ_end0 rfl ?_
        exact .mk ⟨by rw [hn], hS⟩
  obtain rfl : i = s.length := by omega
  have hok : nameOk s = true := decide_eq_true ⟨by omega, h2, h3, h4, hall⟩
  have hsp : ∀ c ∈ s, c ≠ 32 := fun c hc h => by
    obtain ⟨j, hj, rfl⟩ := List.getElem_of_mem hc
    have h5 := hall j hj
    rw [Go.Eng.byte_at hj, h] at h5
    exact absurd h5 (by decide)
  have hrl : resC.length < 4294967281 := by
    have : resC.length ≤ 200 := by decide +kernel
    omega
  have hres : Lib.contains resC ([32] ++ s ++ [32]) = decide (s ∈ resW) := res_iff hne hsp
  repeat' (first | refine W1 ?_ | (exfalso; omega) | refine WL_split rfl rfl (fun hg => ?_) (fun hg => ?_) | refine WL_splitB rfl rfl (fun hg => ?_) (fun hg => ?_) | refine WC_cond rfl (fun hc => ?_) (fun hc => ?_) | refine WC_condB rfl (fun hc => ?_) (fun hc => ?_))
  refine WL_addT rfl rfl (by simp; omega) rfl ?_
  repeat' (first | refine W1 ?_ | (exfalso; omega) | refine WL_split rfl rfl (fun hg => ?_) (fun hg => ?_) | refine WL_splitB rfl rfl (fun hg => ?_) (fun hg => ?_) | refine WC_cond rfl (fun hc => ?_) (fun hc => ?_) | refine WC_condB rfl (fun hc => ?_) (fun hc => ?_))
  refine WL_addT rfl rfl (by simp; omega) rfl ?_
  repeat' (first | refine W1 ?_ | (exfalso; omega) | refine WL_split rfl rfl (fun hg => ?_) (fun hg => ?_) | refine WL_splitB rfl rfl (fun hg => ?_) (fun hg => ?_) | refine WC_cond rfl (fun hc => ?_) (fun hc => ?_) | refine WC_condB rfl (fun hc => ?_) (fun hc => ?_))
  refine WL_eff (OE_call rfl (evs2 rfl rfl) (contains_any resC ([32] ++ s ++ [32]) m _ hrl (hS.cell (by simp) hm))) rfl ?_
  rintro _ w3 ⟨rfl, hS3⟩
  rw [hres]
  replace hS := hS.trans hS3
  by_cases hr : s ∈ resW
  · have hn : namedT s = false := by
      unfold namedT
      rw [decide_eq_false (fun h => h.1 hr), Bool.and_false]
    rw [decide_eq_true hr]
    repeat' (first | refine W1 ?_ | (exfalso; omega) | refine WL_split rfl rfl (fun hg => ?_) (fun hg => ?_) | refine WL_splitB rfl rfl (fun hg => ?_) (fun hg => ?_) | refine WC_cond rfl (fun hc => ?_) (fun hc => ?_) | refine WC_condB rfl (fun hc => ?_) (fun hc => ?_))
    first | refine WQ_ret1 rfl rfl ?_ | refine WQ_ret2 rfl rfl rfl ?_ | refine WQ_ret3 rfl rfl rfl rfl ?_ | refine WQ_ret0 rfl ?_ | refine WQ_end0 rfl ?_
    exact .mk ⟨by rw [hn], hS⟩
  rw [decide_eq_false hr]
  repeat' (first | refine W1 ?_ | (exfalso; omega) | refine WL_split rfl rfl (fun hg => ?_) (fun hg => ?_) | refine WL_splitB rfl rfl (fun hg => ?_) (fun hg => ?_) | refine WC_cond rfl (fun hc => ?_) (fun hc => ?_) | refine WC_condB rfl (fun hc => ?_) (fun hc => ?_))
  refine WL_sliceA rfl rfl ?_
  refine W ?_
  refine WL_eff (OE_call rfl (evs2 rfl rfl) (containsS_any [] _ fieldNames s _ (hF.up hS))) rfl ?_
  rintro _ w4 ⟨rfl, hS4⟩
  repeat' (first | refine W1 ?_ | (exfalso; omega) | refine WL_split rfl rfl (fun hg => ?_) (fun hg => ?_) | refine WL_splitB rfl rfl (fun hg => ?_) (fun hg => ?_) | refine WC_cond rfl (fun hc => ?_) (fun hc => ?_) | refine WC_condB rfl (fun hc => ?_) (fun hc => ?_))
  first | refine WQ_ret1 rfl rfl ?_ | refine WQ_ret2 rfl rfl rfl ?_ | refine WQ_ret3 rfl rfl rfl rfl ?_ | refine WQ_ret0 rfl ?_ | refine WQ_end0 rfl ?_
  refine .mk ⟨?_, hS.trans hS4⟩
  unfold namedT
  rw [hok]
  by_cases hf : s ∈ fieldNames <;> simp [hr, hf]
end Go.Proofs.YtgpibcgebpgmiaaGreatDoor


/-
The parser's primitives, walked.
-/
namespace Go.Proofs.YtgpibcgebpgmiaaGreatDoor
open Go Go.Eng Go.RowKit Go.Proofs
set_option linter.unusedVariables false
theorem cur_of {l : List Tkn} {i : Nat} (h : i < l.length) : cur l i = l[i] := by simp [cur, List.getD, h]
/-- the parser's block -/
def Pd (w : World) (b : Nat) (tv : Value) (l : List Tkn) (i o : Nat) : Prop := Blk w b 64 [tv, .int .i64 i, .int .i64 o] ∧ SlV [b] w tv l ∧ i < l.length ∧ l.length ≤ 1000000 ∧ o ≤ 12
theorem Pd.up {w w' : World} {b i o : Nat} {tv : Value} {l : List Tkn} (h : Pd w b tv l i o) (hS : Stp [] w w') : Pd w' b tv l i o := by
  obtain ⟨h1, h2, h3⟩ := h
  exact ⟨h1.up hS, h2.up hS, h3⟩
theorem Pd.ext {w w' : World} {b i o : Nat} {tv : Value} {l : List Tkn} {S : List Nat} (h : Pd w b tv l i o) (hS : Stp S w w') (hb : b ∉ S) (hq : ∀ c ∈ S, w.heap.size ≤ c) : Pd w' b tv l i o := by
  exact h.up ⟨hS.os, hS.tape, hS.output, hS.size, fun k hk _ => hS.block k hk (fun hc => by have := hq k hc; omega)⟩
theorem Pd.lt {w : World} {b i o : Nat} {tv : Value} {l : List Tkn} (h : Pd w b tv l i o) : b < w.heap.size := by
  obtain ⟨h1, _⟩ := h
  exact h1.lt
theorem Pd.i_lt {w : World} {b i o : Nat} {tv : Value} {l : List Tkn} (h : Pd w b tv l i o) : i < l.length := by
  obtain ⟨_, _, h1, _⟩ := h
  exact h1
/-- what the parser panics with -/
def failV (a c : Int) : Value := .iface 123 (.agg #[.int .i64 a, .int .i64 c])
def PE {α : Type} (r : Out α) (G : α → Nat → Nat → Value → World → Prop) (F : World → Prop) (e : Ending) (w' : World) : Prop :=
  match r with
  | .err a c => e = .panicked [⟨failV a c, false, false⟩] ∧ F w'
  | .ok x i o => Ret (G x i o) e w'
/-- a call that panics for sure -/
theorem WL_pcall {P : Program} {n : Nat} {Q : Exit → Act → World → Prop} {e : Env} {w : World} {ops : Array Oper} {rest : List Oper} {d : Nat} {ty : TypeId} {pos : String} {af : Array Edge} {f : Nat} {fn : Func} {xs : Array Operand} {ts : Array TypeId} {vs : Array Value} {c : Operand} {ch : List PanicEntry} {F : World → Prop} [hf : Fun P f fn]
    (hc : ev e c = some (.func (.func f) #[] #[])) (hv : ∀ a, Has n e a → xs.map a.eval = vs) (h : Calls P f vs w (fun e w' => e = .panicked ch ∧ F w')) (hd : Nat.blt d n = true) (k : ∀ w', F w' → WQ n Q (.panic ch) [] w') :
    WL P n ops Q (⟨some d, .call { callee := .value c, args := xs, argTypes := ts }, ty, pos, af, none⟩ :: rest) e w :=
  WL_effP (G := fun _ _ => False) (F := fun ch' w' => ch' = ch ∧ F w') (OEP_call hc hv (h.mono fun e w' ⟨h1, h2⟩ => by rw [h1]; exact .pan ⟨rfl, h2⟩)) hd (fun ch' w' ⟨h1, h2⟩ => by subst h1; exact WQ_forget (k w' h2)) (fun _ _ h => h.elim)
theorem buildF (a c : Int) (w : World) : (Instr.build 123 #[(0, .int .i64 a), (1, .int .i64 c)]).run Tryz.prog w = .ok (.agg #[.int .i64 a, .int .i64 c]) w := by kernel_rfl
theorem next_any (b : Nat) (tv : Value) (l : List Tkn) (i o : Nat) (w : World) (hp : Pd w b tv l i o) :
    Calls Tryz.prog 71 #[.pointer (some ⟨b, 0, none⟩)] w (Ret fun r w' => r = str (cur l i).text ∧ Stp [] w w') := by
  obtain ⟨hb, hs, hi, hl, ho⟩ := hp
  rw [cur_of hi]
  refine calls_of_WC1 (n := 14) Tryz.func71 rfl rfl rfl ?_
  refine W ?_
  refine WC_drawn 12 [] [] [(0, 0), (1, 0), (2, 0), (3, 1), (4, 0), (5, 0), (6, 0), (7, 1), (8, 0), (9, 0), (10, 1), (11, 0)] rfl mixed (by kernel_rfl) (by kernel_rfl) (by kernel_rfl) (fun w1 hS1 => ?_)
  replace hb := hb.up hS1
  replace hs := hs.up hS1
  refine D ?_
  refine W ?_
  first | refine WQ_ret1 rfl rfl ?_ | refine WQ_ret2 rfl rfl rfl ?_ | refine WQ_ret3 rfl rfl rfl rfl ?_ | refine WQ_ret0 rfl ?_ | refine WQ_end0 rfl ?_
  exact .mk ⟨rfl, hS1⟩
theorem fail_any (b : Nat) (tv : Value) (l : List Tkn) (i o : Nat) (c : Int) (w : World) (hp : Pd w b tv l i o) :
    Calls Tryz.prog 67 #[.pointer (some ⟨b, 0, none⟩), .int .i64 c] w (fun e w' => e = .panicked [⟨failV (cur l i).pos c, false, false⟩] ∧ Stp [] w w') := by
  obtain ⟨hb, hs, hi, hl, ho⟩ := hp
  rw [cur_of hi]
  refine calls_of_WC2 (n := 18) Tryz.func67 rfl rfl rfl ?_
  refine W ?_
  refine WC_drawnq 15 ([]) [] [(0, 0), (1, 0), (2, 0), (3, 1), (4, 0), (5, 0), (6, 0), (7, 1), (8, 0), (9, 0), (10, 1), (11, 0), (12, 0), (13, 0), (14, 2)] rfl mixed (by kernel_rfl) (by kernel_rfl) (by kernel_rfl) (fun w1 hS1 => ?_)
  replace hb := hb.up hS1
  replace hs := hs.up hS1
  refine WDq_free rfl trivial (fun _ => PR_move rfl) rfl ?_
  refine WDq_free rfl trivial (fun _ => PR_nilCheck rfl) rfl ?_
  refine WDq_free rfl trivial (fun _ => PR_fieldAddr rfl) rfl ?_
  refine WDq_read rfl trivial (fun w' hw => PR_load_blk rfl rfl (hb.up hw) rfl) rfl ?_
  refine WDq_free rfl trivial (fun _ => PR_move rfl) rfl ?_
  refine WDq_free rfl trivial (fun _ => PR_nilCheck rfl) rfl ?_
  refine WDq_free rfl trivial (fun _ => PR_fieldAddr rfl) rfl ?_
  refine WDq_read rfl trivial (fun w' hw => PR_load_blk rfl rfl (hb.up hw) rfl) rfl ?_
  refine WDq_free rfl trivial (fun _ => PR_idx rfl hs rfl rfl hi) rfl ?_
  refine WDq_free rfl trivial (fun _ => PR_field_el rfl (SlV.isSome hs hi)) rfl ?_
  refine WDq_read rfl trivial (fun w' hw => PR_load_el (u := .int .i64 l[i].pos) rfl rfl (hs.up hw) hi rfl rfl) rfl ?_
  refine WDq_free rfl trivial (fun _ => PR_move rfl) rfl ?_
  refine WDq_free rfl trivial (fun _ => PR_build (vs := [(0, .int .i64 l[i].pos), (1, .int .i64 c)]) rfl (buildF _ _)) rfl ?_
  refine WDq_free rfl trivial (fun _ => PR_makeInterface rfl) rfl ?_
  refine WDq_panic rfl trivial (panic_run rfl) ?_
  refine WQ_panic ?_
  exact ⟨rfl, hS1⟩
theorem take_any (b : Nat) (tv : Value) (l : List Tkn) (s : Str) (i o : Nat) (w : World) (hp : Pd w b tv l i o) (hn : (cur l i).text = s → i + 1 < l.length) :
    Calls Tryz.prog 117 #[.pointer (some ⟨b, 0, none⟩), str s] w (Ret fun r w' => r = .bool (decide ((cur l i).text = s)) ∧ Pd w' b tv l (if (cur l i).text = s then i + 1 else i) o ∧ Stp [b] w w') := by
  refine calls_of_WC2 (n := 16) Tryz.func117 rfl rfl rfl ?_
  refine W ?_
  refine WL_eff (OE_call rfl (evs1 rfl) (next_any b tv l i o _ hp)) rfl ?_
  rintro _ w1 ⟨rfl, hS1⟩
  replace hp := hp.up hS1
  obtain ⟨hb, hs, hi, hl, ho⟩ := hp
  have hmax := hs.max
  by_cases h : (cur l i).text = s
  · have hi1 := hn h
    repeat' (first | refine W1 ?_ | (exfalso; omega) | refine WL_split rfl rfl (fun hg => ?_) (fun hg => ?_) | refine WL_splitB rfl rfl (fun hg => ?_) (fun hg => ?_) | refine WC_cond rfl (fun hc => ?_) (fun hc => ?_) | refine WC_condB rfl (fun hc => ?_) (fun hc => ?_))
    · exact absurd h (by assumption)
    · refine WL_eff0 (OE_store1 (u := .int .i64 ((i + 1 : Nat) : Int)) rfl (by show some _ = some _; simp) rfl rfl hb (by simp)) ?_
      rintro _ w2 ⟨hT, hb2⟩
      refine W ?_
      first | refine WQ_ret1 rfl rfl ?_ | refine WQ_ret2 rfl rfl rfl ?_ | refine WQ_ret3 rfl rfl rfl rfl ?_ | refine WQ_ret0 rfl ?_ | refine WQ_end0 rfl ?_
      rw [decide_eq_true h, if_pos h]
      exact .mk ⟨rfl, ⟨hb2, hs.ext hT (fun c hc => hc) (fun c hc => .inl hc), hi1, hl, ho⟩, (hS1.mono (by simp)).trans hT⟩
  · repeat' (first | refine W1 ?_ | (exfalso; omega) | refine WL_split rfl rfl (fun hg => ?_) (fun hg => ?_) | refine WL_splitB rfl rfl (fun hg => ?_) (fun hg => ?_) | refine WC_cond rfl (fun hc => ?_) (fun hc => ?_) | refine WC_condB rfl (fun hc => ?_) (fun hc => ?_))
    · first | refine WQ_ret1 rfl rfl ?_ | refine WQ_ret2 rfl rfl rfl ?_ | refine WQ_ret3 rfl rfl rfl rfl ?_ | refine WQ_ret0 rfl ?_ | refine WQ_end0 rfl ?_
      rw [decide_eq_false h, if_neg h]
      exact .mk ⟨rfl, ⟨hb, hs, hi, hl, ho⟩, hS1.mono (by simp)⟩
    · exact absurd h (by assumption)
/-- how a part of the parser ends -/
def PC {α : Type} (b : Nat) (w : World) (tv : Value) (l : List Tkn) (r : Out α) (G : α → Value → World → Prop) (e : Ending) (w' : World) : Prop :=
  PE r (fun x i o v w' => G x v w' ∧ Pd w' b tv l i o ∧ Stp [b] w w') (fun w' => Stp [b] w w') e w'
theorem PC.ok {α : Type} {b : Nat} {w w' : World} {tv : Value} {l : List Tkn} {x : α} {i o : Nat} {G : α → Value → World → Prop} {v : Value} (hG : G x v w') (hp : Pd w' b tv l i o) (hS : Stp [b] w w') : PC b w tv l (.ok x i o) G (.returned v) w' := ⟨v, rfl, hG, hp, hS⟩
theorem PC.err {α : Type} {b : Nat} {w w' : World} {tv : Value} {l : List Tkn} {a c : Int} {G : α → Value → World → Prop} (hS : Stp [b] w w') : PC b w tv l (.err a c) G (.panicked [⟨failV a c, false, false⟩]) w' := ⟨rfl, hS⟩
theorem PC.fail {α : Type} {b : Nat} {w w' : World} {tv : Value} {l : List Tkn} {i : Nat} {c : Int} {G : α → Value → World → Prop} (hS : Stp [b] w w') : PC b w tv l (failO l i c) G (.panicked [⟨failV (cur l i).pos c, false, false⟩]) w' := ⟨rfl, hS⟩
/-- fail, behind some steps -/
theorem failS (b : Nat) (tv : Value) (l : List Tkn) (i o : Nat) (c : Int) (w w0 : World) (hp : Pd w b tv l i o) (hS : Stp [b] w0 w) :
    Calls Tryz.prog 67 #[.pointer (some ⟨b, 0, none⟩), .int .i64 c] w (fun e w' => e = .panicked [⟨failV (cur l i).pos c, false, false⟩] ∧ Stp [b] w0 w') :=
  (fail_any b tv l i o c w hp).mono fun e w' ⟨h1, h2⟩ => ⟨h1, hS.trans (h2.mono (by simp))⟩
/-- a part that goes on -/
theorem PC.goes {α : Type} {b f : Nat} {args : Array Value} {w : World} {tv : Value} {l : List Tkn} {x : α} {i o : Nat} {r : Out α} {G : α → Value → World → Prop} (h : Calls Tryz.prog f args w (PC b w tv l r G)) (hr : r = .ok x i o) : Calls Tryz.prog f args w (Ret fun v w' => G x v w' ∧ Pd w' b tv l i o ∧ Stp [b] w w') := by
  subst hr; exact h
/-- a part that panics -/
theorem PC.falls {α : Type} {b f : Nat} {args : Array Value} {w w0 : World} {tv : Value} {l : List Tkn} {a c : Int} {r : Out α} {G : α → Value → World → Prop} (h : Calls Tryz.prog f args w (PC b w tv l r G)) (hr : r = .err a c) (hS : Stp [b] w0 w) : Calls Tryz.prog f args w (fun e w' => e = .panicked [⟨failV a c, false, false⟩] ∧ Stp [b] w0 w') := by
  subst hr; exact h.mono fun e w' ⟨h1, h2⟩ => ⟨h1, hS.trans h2⟩
theorem mustP_any (b : Nat) (tv : Value) (l : List Tkn) (hL : Toks l) (s : Str) (hs0 : s ≠ []) (i o : Nat) (w : World) (hp : Pd w b tv l i o) :
    Calls Tryz.prog 68 #[.pointer (some ⟨b, 0, none⟩), str s] w (PC b w tv l (mustO l s i o) (fun _ v _ => v = .tuple #[])) := by
  have hn : (cur l i).text = s → i + 1 < l.length := fun h => hL.end_of hp.i_lt (by rw [h]; exact hs0)
  unfold mustO
  refine calls_of_WC2 (n := 10) Tryz.func68 rfl rfl rfl ?_
  refine W ?_
  refine WL_eff (OE_call rfl (evs2 rfl rfl) (take_any b tv l s i o _ hp hn)) rfl ?_
  rintro _ w1 ⟨rfl, hp1, hS1⟩
  by_cases h : (cur l i).text = s
  · rw [if_pos h] at hp1 ⊢
    rw [decide_eq_true h]
    refine W ?_
    first | refine WQ_ret1 rfl rfl ?_ | refine WQ_ret2 rfl rfl rfl ?_ | refine WQ_ret3 rfl rfl rfl rfl ?_ | refine WQ_ret0 rfl ?_ | refine WQ_end0 rfl ?_
    exact PC.ok rfl hp1 hS1
  · rw [if_neg h] at hp1 ⊢
    rw [decide_eq_false h]
    refine W ?_
    refine WL_pcall rfl (evs2 rfl rfl) (failS b tv l i o 20 _ w hp1 hS1) rfl ?_
    intro w2 hw2
    repeat' (first | refine WQ_then_panic ?_ | refine WQ_block_panic ?_)
    refine WQ_panic ?_
    exact PC.fail hw2
/-! ### words -/
theorem words_iff (C : Str) (W : List Str) (h1 : ∀ i ∈ List.range (C.length + 1), (C.drop i).head? = some 32 → (C.drop (i + 1)).takeWhile (fun c => decide (c ≠ 32)) ∈ W ∨ (C.drop (i + 1)).takeWhile (fun c => decide (c ≠ 32)) = [])
    (h2 : ∀ t ∈ W, Lib.contains C (32 :: t ++ [32]) = true) {t : Str} (h0 : t ≠ []) (hc : ∀ c ∈ t, c ≠ 32) : Lib.contains C (32 :: t ++ [32]) = decide (t ∈ W) := by
  by_cases ht : t ∈ W
  · rw [h2 t ht, decide_eq_true ht]
  · rw [decide_eq_false ht]
    unfold Lib.contains
    rw [decide_eq_false_iff_not, index_iff]
    rintro ⟨i, hi, h⟩
    cases hd : C.drop i with
    | nil => rw [hd] at h; simp at h
    | cons a l =>
      rw [hd] at h
      simp only [List.cons_append, List.isPrefixOf, Bool.and_eq_true, beq_iff_eq] at h
      obtain ⟨rfl, h⟩ := h
      have hl : C.drop (i + 1) = l := by
        have := congrArg List.tail hd
        simpa [List.tail_drop] using this
      have hw := take_word t l hc h
      have := h1 i (List.mem_range.2 (by omega)) (by rw [hd]; rfl)
      rw [hl, hw] at this
      exact this.elim ht h0
def allC : Str := [32, 114, 117, 108, 101, 32, 102, 114, 111, 109, 32, 111, 110, 32, 105, 102, 32, 100, 117, 101, 32, 117, 110, 108, 101, 115, 115, 32, 101, 108, 115, 101, 32, 116, 114, 117, 101, 32, 102, 97, 108, 115, 101, 32, 110, 111, 116, 32, 97, 110, 100, 32, 111, 114, 32, 116, 104, 101, 110, 32, 101, 110, 100, 32, 32, 100, 97, 121, 115, 32, 119, 101, 101, 107, 115, 32, 109, 111, 110, 116, 104, 115, 32, 99, 111, 117, 114, 116, 100, 97, 121, 115, 32, 32, 100, 97, 121, 32, 115, 101, 114, 118, 101, 100, 32, 101, 120, 116, 114, 97, 32, 98, 121, 32, 116, 111, 32, 99, 111, 117, 114, 116, 32, 97, 109, 111, 117, 110, 116, 32, 32, 110, 101, 120, 116, 32, 112, 114, 101, 118, 32, 108, 97, 116, 101, 114, 32, 101, 97, 114, 108, 105, 101, 114, 32, 98, 101, 116, 119, 101, 101, 110, 32]
def unitC : Str := [32, 100, 97, 121, 115, 32, 119, 101, 101, 107, 115, 32, 109, 111, 110, 116, 104, 115, 32, 99, 111, 117, 114, 116, 100, 97, 121, 115, 32]
def fieldC : Str := [32, 100, 97, 121, 32, 115, 101, 114, 118, 101, 100, 32, 101, 120, 116, 114, 97, 32, 98, 121, 32, 116, 111, 32, 99, 111, 117, 114, 116, 32, 97, 109, 111, 117, 110, 116, 32]
def funcC : Str := [32, 110, 101, 120, 116, 32, 112, 114, 101, 118, 32, 108, 97, 116, 101, 114, 32, 101, 97, 114, 108, 105, 101, 114, 32, 98, 101, 116, 119, 101, 101, 110, 32]
theorem all_iff {t : Str} (h0 : t ≠ []) (hc : ∀ c ∈ t, c ≠ 32) : Lib.contains allC (32 :: t ++ [32]) = decide (t ∈ ruleW ++ unitW ++ fieldW ++ funcW) := words_iff allC _ (by decide +kernel) (by decide +kernel) h0 hc
theorem unit_iff {t : Str} (h0 : t ≠ []) (hc : ∀ c ∈ t, c ≠ 32) : Lib.contains unitC (32 :: t ++ [32]) = decide (t ∈ unitW) := words_iff unitC _ (by decide +kernel) (by decide +kernel) h0 hc
theorem field_iff {t : Str} (h0 : t ≠ []) (hc : ∀ c ∈ t, c ≠ 32) : Lib.contains fieldC (32 :: t ++ [32]) = decide (t ∈ fieldW) := words_iff fieldC _ (by decide +kernel) (by decide +kernel) h0 hc
theorem func_iff {t : Str} (h0 : t ≠ []) (hc : ∀ c ∈ t, c ≠ 32) : Lib.contains funcC (32 :: t ++ [32]) = decide (t ∈ funcW) := words_iff funcC _ (by decide +kernel) (by decide +kernel) h0 hc
theorem within_any (C : Str) (ws : List Str) (hW : [] ∉ ws) (t : Str) (m : Int) (w : World) (hm : w.cell? ⟨1, 0, none⟩ = some (.int .i64 m)) (hC : C.length ≤ 1000000) (htl : t.length ≤ 4000)
    (hiff : t ≠ [] → Lib.contains C (32 :: t ++ [32]) = decide (t ∈ ws)) :
    Calls Tryz.prog 118 #[str C, str t] w (Ret fun r w' => r = .bool (decide (t ∈ ws)) ∧ Stp [] w w') := by
  refine calls_of_WC2 (n := 14) Tryz.func118 rfl rfl rfl ?_
  by_cases h : t = []
  · subst h
    repeat' (first | refine W1 ?_ | (exfalso; omega) | refine WL_split rfl rfl (fun hg => ?_) (fun hg => ?_) | refine WL_splitB rfl rfl (fun hg => ?_) (fun hg => ?_) | refine WC_cond rfl (fun hc => ?_) (fun hc => ?_) | refine WC_condB rfl (fun hc => ?_) (fun hc => ?_))
    all_goals
      first | refine WQ_ret1 rfl rfl ?_ | refine WQ_ret2 rfl rfl rfl ?_ | refine WQ_ret3 rfl rfl rfl rfl ?_ | refine WQ_ret0 rfl ?_ | refine WQ_end0 rfl ?_
      rw [decide_eq_false hW]
      exact .mk ⟨rfl, Stp.refl _ _⟩
  · have e1 : Lib.contains C ([32] ++ t ++ [32]) = decide (t ∈ ws) := hiff h
    repeat' (first | refine W1 ?_ | (exfalso; omega) | refine WL_split rfl rfl (fun hg => ?_) (fun hg => ?_) | refine WL_splitB rfl rfl (fun hg => ?_) (fun hg => ?_) | refine WC_cond rfl (fun hc => ?_) (fun hc => ?_) | refine WC_condB rfl (fun hc => ?_) (fun hc => ?_))
    rotate_left
    · exact absurd h (by assumption)
    refine WL_addT rfl rfl (by simp; omega) rfl ?_
    repeat' (first | refine W1 ?_ | (exfalso; omega) | refine WL_split rfl rfl (fun hg => ?_) (fun hg => ?_) | refine WL_splitB rfl rfl (fun hg => ?_) (fun hg => ?_) | refine WC_cond rfl (fun hc => ?_) (fun hc => ?_) | refine WC_condB rfl (fun hc => ?_) (fun hc => ?_))
    refine WL_addT rfl rfl (by simp; omega) rfl ?_
    repeat' (first | refine W1 ?_ | (exfalso; omega) | refine WL_split rfl rfl (fun hg => ?_) (fun hg => ?_) | refine WL_splitB rfl rfl (fun hg => ?_) (fun hg => ?_) | refine WC_cond rfl (fun hc => ?_) (fun hc => ?_) | refine WC_condB rfl (fun hc => ?_) (fun hc => ?_))
    refine WL_eff (OE_call rfl (evs2 rfl rfl) (contains_any C ([32] ++ t ++ [32]) m _ (by omega) hm)) rfl ?_
    rintro _ w1 ⟨rfl, hS1⟩
    rw [e1]
    refine W ?_
    first | refine WQ_ret1 rfl rfl ?_ | refine WQ_ret2 rfl rfl rfl ?_ | refine WQ_ret3 rfl rfl rfl rfl ?_ | refine WQ_ret0 rfl ?_ | refine WQ_end0 rfl ?_
    exact .mk ⟨rfl, hS1⟩
theorem token_any (b : Nat) (tv : Value) (l : List Tkn) (hL : Toks l) (k : Int) (hk : k ≠ 0) (i o : Nat) (w : World) (hp : Pd w b tv l i o) :
    Calls Tryz.prog 70 #[.pointer (some ⟨b, 0, none⟩), .int .i64 k] w (PC b w tv l (tokenO l k i o) (fun t v _ => v = .agg (Flat.enc t).toArray)) := by
  obtain ⟨hb, hs, hi, hl, ho⟩ := id hp
  have hn : (cur l i).kind = k → i + 1 < l.length := fun h => hL.end_of_kind hi (by rw [h]; exact hk)
  have hmax := hs.max
  have hs0 := hs
  unfold tokenO
  rw [cur_of hi] at hn ⊢
  refine calls_of_WC2 (n := 30) Tryz.func70 rfl rfl rfl ?_
  refine W ?_
  refine WL_eff OE_alloc rfl ?_
  rintro _ w0 ⟨b4, rfl, hb4, e4, hS0⟩
  have n4 : b4 ≠ b := by have := hb.lt; omega
  replace hb := hb.up hS0
  replace hs := hs.up hS0
  refine W ?_
  refine WC_drawn 12 [] [11] [(0, 0), (1, 0), (2, 0), (3, 1), (4, 0), (5, 0), (6, 0), (7, 1), (8, 0), (9, 1), (10, 2), (11, 2)] rfl mixed (by kernel_rfl) (by kernel_rfl) (by kernel_rfl) (fun w1 hS1 => ?_)
  replace hb := hb.up hS1
  replace hs := hs.up hS1
  replace e4 := e4.up hS1
  replace hS0 := hS0.trans hS1
  clear hS1
  refine D ?_
  refine WD_eff rfl trivial OE_alloc (fun _ _ ⟨_, _, _, _, h⟩ => h) rfl ?_
  rintro _ w2 ⟨b5, rfl, hb5, e5, hS2⟩
  have n5 : b5 ≠ b := by have := hb.lt; omega
  have n54 : b5 ≠ b4 := by have := e4.lt; omega
  refine WD_late0 rfl trivial (OE_storeA (us := Flat.enc l[i]) rfl rfl rfl rfl (Flat.one _) e5 rfl) rfl ?_
  rintro _ w3 ⟨hT, e5⟩
  have hT0 := hS2.own hT (fun c hc => .inr (by simp at hc; omega))
  clear hT hS2
  replace hb := hb.up hT0
  replace hs := hs.up hT0
  replace e4 := e4.up hT0
  replace hS0 := hS0.trans hT0
  clear hT0 hb5
  refine D ?_
  refine W ?_
  have hp3 : Pd w3 b tv l i o := ⟨hb, hs, hi, hl, ho⟩
  by_cases h : l[i].kind = k
  · rw [if_pos h]
    have hi1 := hn h
    repeat' (first | refine W1 ?_ | (exfalso; omega) | refine WL_split rfl rfl (fun hg => ?_) (fun hg => ?_) | refine WL_splitB rfl rfl (fun hg => ?_) (fun hg => ?_) | refine WC_cond rfl (fun hc => ?_) (fun hc => ?_) | refine WC_condB rfl (fun hc => ?_) (fun hc => ?_))
    refine WL_eff0 (OE_store1 (u := .int .i64 ((i + 1 : Nat) : Int)) rfl (by show some _ = some _; simp) rfl rfl hb (by simp)) ?_
    rintro _ w4 ⟨hT, hb2⟩
    replace e4 := e4.ext hT (by simpa using n4)
    replace e5 := e5.ext hT (by simpa using n5)
    replace hs := hs.ext (X' := [b]) hT (fun c hc => hc) (fun c hc => .inl hc)
    refine W ?_
    refine WL_eff0 (OE_storeA (us := Flat.enc l[i]) rfl rfl rfl rfl (Flat.one _) e4 rfl) ?_
    rintro _ w5 ⟨hT5, e4⟩
    refine W ?_
    refine WQ_retc (cs := Flat.enc l[i]) rfl rfl rfl e4 rfl ?_
    have hTT := ((hS0.mono (by simp)).trans hT).own hT5 (fun c hc => .inr (by simp at hc; omega))
    exact PC.ok rfl ⟨hb2.ext hT5 (by simpa using n4.symm), hs0.ext hTT (fun c hc => hc) (fun c hc => .inl hc), hi1, hl, ho⟩ hTT
  · rw [if_neg h]
    repeat' (first | refine W1 ?_ | (exfalso; omega) | refine WL_split rfl rfl (fun hg => ?_) (fun hg => ?_) | refine WL_splitB rfl rfl (fun hg => ?_) (fun hg => ?_) | refine WC_cond rfl (fun hc => ?_) (fun hc => ?_) | refine WC_condB rfl (fun hc => ?_) (fun hc => ?_))
    refine WL_pcall rfl (evs2 rfl rfl) (failS b tv l i o 20 _ w hp3 (hS0.mono (by simp))) rfl ?_
    intro w2 hw2
    repeat' (first | refine WQ_then_panic ?_ | refine WQ_block_panic ?_)
    refine WQ_panic ?_
    exact PC.fail hw2
end Go.Proofs.YtgpibcgebpgmiaaGreatDoor


/-
The walk engine, part 25: a range over a string.
-/
namespace Go.Eng
open Go Go.RowKit Go.Proofs
set_option linter.unusedVariables false
abbrev bts (s : Str) : ByteArray := ⟨s.toArray⟩
/-- an iterator over a string, at a place -/
def Itr (w : World) (b : Nat) (s : Str) (p : Nat) : Prop := w.heap[b]? = some (.stringIter (bts s) p)
theorem Itr.up {w w' : World} {b p : Nat} {s : Str} (h : Itr w b s p) (hS : Stp [] w w') : Itr w' b s p := by
  unfold Itr at *
  rw [hS.block b (Array.getElem?_eq_some_iff.1 h).1 (by simp)]
  exact h
theorem Itr.lt {w : World} {b p : Nat} {s : Str} (h : Itr w b s p) : b < w.heap.size := (Array.getElem?_eq_some_iff.1 h).1
/-- the rune at a place, and its width -/
def dec (s : Str) (p : Nat) : Nat × Nat := Utf8.decode (bts s) p
theorem bts_size (s : Str) : (bts s).size = s.length := by simp [bts, ByteArray.size]
theorem dec_ascii {s : Str} {p : Nat} (h : p < s.length) (ha : (s[p]).toNat < 128) : dec s p = ((s[p]).toNat, 1) := by
  have h1 : p < (bts s).size := by rw [bts_size]; exact h
  have e : (bts s)[p]'h1 = s[p] := by simp [bts, ByteArray.getElem_eq_getElem_data]
  have := decode_ascii (bts s) p h1 (by rw [e]; exact ha)
  rw [e] at this
  exact this
theorem dec_high {s : Str} {p : Nat} (h : p < s.length) (ha : 128 ≤ (s[p]).toNat) : 128 ≤ (dec s p).1 ∧ 1 ≤ (dec s p).2 := by
  have h1 : p < (bts s).size := by rw [bts_size]; exact h
  have e : (bts s)[p]'h1 = s[p] := by simp [bts, ByteArray.getElem_eq_getElem_data]
  exact decode_high (bts s) p h1 (by rw [e]; exact ha)
theorem dec_pos {s : Str} {p : Nat} (h : p < s.length) : 1 ≤ (dec s p).2 := by
  by_cases ha : (s[p]).toNat < 128
  · rw [dec_ascii h ha]; exact Nat.le_refl _
  · exact (dec_high h (by omega)).2
section
variable {P : Program} {n : Nat} {e : Env} {w : World} {d : Option Nat} {ty : TypeId} {pos : String} {af : Array Edge} {g : Option (Nat × Bool)}
theorem OE_range {x : Operand} {t : TypeId} {s : Str} [hu : Und P t .string] (hx : ev e x = some (str s)) : OE P n ⟨d, .range t x, ty, pos, af, g⟩ e w (fun v w' => ∃ b, v = .pointer (some ⟨b, 0, none⟩) ∧ w.heap.size ≤ b ∧ Itr w' b s 0 ∧ Stp [] w w') :=
  OE_value (v := .pointer (some ⟨w.heap.size, 0, none⟩)) (w' := w.iter (bts s) 0) (fun a ha => by
    have := run_range_string (P := P) w t (bts s) hu.h
    simp [execOp, ha.ev hx, this]) ⟨w.heap.size, rfl, Nat.le_refl _, World.iter_heap _ _ _, Stp.alloc _ _ _⟩
/-- the next rune -/
theorem OE_next {x : Operand} {s : Str} {b p : Nat} (hx : ev e x = some (.pointer (some ⟨b, 0, none⟩))) (hI : Itr w b s p) (hp : p < s.length) :
    OE P n ⟨d, .next x true, ty, pos, af, g⟩ e w (fun v w' => v = .tuple #[.bool true, .int .i64 p, .int .i32 ((dec s p).1 : Int)] ∧ Itr w' b s (p + (dec s p).2) ∧ Stp [b] w w') := by
  have hlt := hI.lt
  have hp' : p < (bts s).size := by rw [bts_size]; exact hp
  unfold Itr at hI
  refine OE_value (v := .tuple #[.bool true, .int .i64 p, .int .i32 ((dec s p).1 : Int)]) (w' := { w with heap := w.heap.setIfInBounds b (.stringIter (bts s) (p + (dec s p).2)) }) (fun a ha => ?_) ⟨rfl, ?_, ⟨rfl, rfl, rfl, by simp, fun k hk hn => ?_⟩⟩
  · simp [execOp, ha.ev hx, Instr.next, getObj, setObj, Sem.run, hI, hp', goInt, dec]
  · show (w.heap.setIfInBounds b _)[b]? = _
    simp [hlt]
  · show (w.heap.setIfInBounds b _)[k]? = _
    exact Array.getElem?_setIfInBounds_ne (by simpa using fun h => hn (by simp [h]))
theorem OE_nextEnd {x : Operand} {s : Str} {b p : Nat} (hx : ev e x = some (.pointer (some ⟨b, 0, none⟩))) (hI : Itr w b s p) (hp : ¬ p < s.length) :
    OE P n ⟨d, .next x true, ty, pos, af, g⟩ e w (fun v w' => v = .tuple #[.bool false] ∧ w' = w) := by
  have hp' : ¬ p < (bts s).size := by rw [bts_size]; exact hp
  unfold Itr at hI
  refine OE_value (v := .tuple #[.bool false]) (w' := w) (fun a ha => ?_) ⟨rfl, rfl⟩
  simp [execOp, ha.ev hx, Instr.next, getObj, Sem.run, hI, hp']
/-- a field of a struct value -/
theorem PR_field {x : Operand} {t : TypeId} {i : Nat} {u v : Value} (hx : ev e x = some u) (hb : ∀ w, (Instr.field t u i).run P w = .ok v w) : PR P n ⟨d, .field t x i, ty, pos, af, g⟩ e w v :=
  ⟨fun a ha => by simp [execOp, ha.ev hx, hb]⟩
end
end Go.Eng


/-
The parser's small parts, walked: names, opening and closing tokens, levels.
-/
namespace Go.Proofs.YtgpibcgebpgmiaaGreatDoor
open Go Go.Eng Go.RowKit Go.Proofs
set_option linter.unusedVariables false
theorem cell_up {w w' : World} {b : Nat} {m : Int} (hm : w.cell? ⟨1, 0, none⟩ = some (.int .i64 m)) (hb : b ≠ 1) (hS : Stp [b] w w') : w'.cell? ⟨1, 0, none⟩ = some (.int .i64 m) :=
  hS.cell (by simpa using fun h => hb h.symm) hm
theorem tknText (t : Tkn) (w : World) : (Instr.field 61 (.agg (Flat.enc t).toArray) 2).run Tryz.prog w = .ok (str t.text) w := by kernel_rfl
theorem tknNum (t : Tkn) (w : World) : (Instr.field 61 (.agg (Flat.enc t).toArray) 3).run Tryz.prog w = .ok (.int .i64 t.num) w := by kernel_rfl
theorem name_any (b : Nat) (tv : Value) (l : List Tkn) (hL : Toks l) (i o : Nat) (m : Int) (w : World) (hm : w.cell? ⟨1, 0, none⟩ = some (.int .i64 m)) (hp : Pd w b tv l i o) :
    Calls Tryz.prog 69 #[.pointer (some ⟨b, 0, none⟩)] w (PC b w tv l (nameO l i o) (fun s v _ => v = str s)) := by
  unfold nameO
  refine calls_of_WC1 (n := 11) Tryz.func69 rfl rfl rfl ?_
  refine W ?_
  refine WL_eff (OE_call rfl (evs1 rfl) (next_any b tv l i o _ hp)) rfl ?_
  rintro _ w1 ⟨rfl, hS1⟩
  have hp1 := hp.up hS1
  refine W ?_
  refine WL_eff (OE_call rfl (evs2 rfl rfl) (within_any allC (ruleW ++ unitW ++ fieldW ++ funcW) (by decide +kernel) (cur l i).text m _ (hS1.cell (by simp) hm) (by decide +kernel) (hL.tl i) (fun h => all_iff h (hL.sp i)))) rfl ?_
  rintro _ w2 ⟨rfl, hS2⟩
  have hp2 := hp1.up hS2
  have hS := (hS1.trans hS2).mono (S' := [b]) (by simp)
  by_cases h : (cur l i).text ∈ ruleW ++ unitW ++ fieldW ++ funcW
  · rw [if_pos h, decide_eq_true h]
    refine W ?_
    refine WL_pcall rfl (evs2 rfl rfl) (failS b tv l i o 20 _ w hp2 hS) rfl ?_
    intro w3 hw3
    repeat' (first | refine WQ_then_panic ?_ | refine WQ_block_panic ?_)
    refine WQ_panic ?_
    exact PC.fail hw3
  · rw [if_neg h, decide_eq_false h]
    refine W ?_
    cases hr : tokenO l 1 i o with
    | err a c =>
      refine WL_pcall rfl (evs2 rfl rfl) (PC.falls (token_any b tv l hL 1 (by decide) i o _ hp2) hr hS) rfl ?_
      intro w3 hw3
      repeat' (first | refine WQ_then_panic ?_ | refine WQ_block_panic ?_)
      refine WQ_panic ?_
      exact PC.err hw3
    | ok t i1 o1 =>
      refine WL_eff (OE_call rfl (evs2 rfl rfl) (PC.goes (token_any b tv l hL 1 (by decide) i o _ hp2) hr)) rfl ?_
      rintro _ w3 ⟨rfl, hp3, hS3⟩
      refine WL_pure (PR_field rfl (tknText t)) rfl ?_
      refine W ?_
      first | refine WQ_ret1 rfl rfl ?_ | refine WQ_ret2 rfl rfl rfl ?_ | refine WQ_ret3 rfl rfl rfl rfl ?_ | refine WQ_ret0 rfl ?_ | refine WQ_end0 rfl ?_
      exact PC.ok rfl hp3 (hS.trans hS3)
theorem opens_any (b : Nat) (tv : Value) (l : List Tkn) (hL : Toks l) (s : Str) (hs0 : s ≠ []) (i o : Nat) (w : World) (hp : Pd w b tv l i o) :
    Calls Tryz.prog 161 #[.pointer (some ⟨b, 0, none⟩), str s] w (PC b w tv l (opensO l s i o) (fun _ v _ => v = .tuple #[])) := by
  have hn : (cur l i).text = s → i + 1 < l.length := fun h => hL.end_of hp.i_lt (by rw [h]; exact hs0)
  unfold opensO
  refine calls_of_WC2 (n := 31) Tryz.func161 rfl rfl rfl ?_
  refine W ?_
  refine WL_eff (OE_call rfl (evs1 rfl) (next_any b tv l i o _ hp)) rfl ?_
  rintro _ w1 ⟨rfl, hS1⟩
  have hp1 := hp.up hS1
  have hS := hS1.mono (S' := [b]) (by simp)
  by_cases h : (cur l i).text = s
  · have hi1 := hn h
    rw [if_pos h]
    obtain ⟨hb, hs, hi, hl, ho⟩ := id hp1
    repeat' (first | refine W1 ?_ | (exfalso; omega) | refine WL_split rfl rfl (fun hg => ?_) (fun hg => ?_) | refine WL_splitB rfl rfl (fun hg => ?_) (fun hg => ?_) | refine WC_cond rfl (fun hc => ?_) (fun hc => ?_) | refine WC_condB rfl (fun hc => ?_) (fun hc => ?_))
    · exact absurd h (by assumption)
    · refine WL_pcall rfl (evs2 rfl rfl) (failS b tv l i o 2 _ w hp1 hS) rfl ?_
      intro w3 hw3
      repeat' (first | refine WQ_then_panic ?_ | refine WQ_block_panic ?_)
      refine WQ_panic ?_
      rw [if_pos (by omega)]
      exact PC.fail hw3
    · refine WL_eff0 (OE_store1 (u := .int .i64 ((i + 1 : Nat) : Int)) rfl (by show some _ = some _; simp) rfl rfl hb (by simp)) ?_
      rintro _ w2 ⟨hT, hb2⟩
      replace hs := hs.ext (X' := [b]) hT (fun c hc => hc) (fun c hc => .inl hc)
      refine W ?_
      refine WL_eff0 (OE_store1 (u := .int .i64 ((o + 1 : Nat) : Int)) rfl (by show some _ = some _; simp) rfl rfl hb2 (by simp)) ?_
      rintro _ w3 ⟨hT3, hb3⟩
      replace hs := hs.ext (X' := [b]) hT3 (fun c hc => hc) (fun c hc => .inl hc)
      refine W ?_
      first | refine WQ_ret0 rfl ?_ | refine WQ_end0 rfl ?_
      rw [if_neg (by omega)]
      exact PC.ok rfl ⟨hb3, hs, hi1, hl, by omega⟩ ((hS.trans hT).trans hT3)
  · rw [if_neg h]
    repeat' (first | refine W1 ?_ | (exfalso; omega) | refine WL_split rfl rfl (fun hg => ?_) (fun hg => ?_) | refine WL_splitB rfl rfl (fun hg => ?_) (fun hg => ?_) | refine WC_cond rfl (fun hc => ?_) (fun hc => ?_) | refine WC_condB rfl (fun hc => ?_) (fun hc => ?_))
    · refine WL_pcall rfl (evs2 rfl rfl) (failS b tv l i o 20 _ w hp1 hS) rfl ?_
      intro w3 hw3
      repeat' (first | refine WQ_then_panic ?_ | refine WQ_block_panic ?_)
      refine WQ_panic ?_
      exact PC.fail hw3
    all_goals exact absurd h (by assumption)
theorem closes_any (b : Nat) (tv : Value) (l : List Tkn) (hL : Toks l) (s : Str) (hs0 : s ≠ []) (i o : Nat) (ho0 : 0 < o) (w : World) (hp : Pd w b tv l i o) :
    Calls Tryz.prog 197 #[.pointer (some ⟨b, 0, none⟩), str s] w (PC b w tv l (closesO l s i o) (fun _ v _ => v = .tuple #[])) := by
  unfold closesO
  refine calls_of_WC2 (n := 14) Tryz.func197 rfl rfl rfl ?_
  refine W ?_
  cases hr : mustO l s i o with
  | err a c =>
    refine WL_pcall rfl (evs2 rfl rfl) (PC.falls (mustP_any b tv l hL s hs0 i o _ hp) hr (Stp.refl _ _)) rfl ?_
    intro w3 hw3
    repeat' (first | refine WQ_then_panic ?_ | refine WQ_block_panic ?_)
    refine WQ_panic ?_
    exact PC.err hw3
  | ok x i1 o1 =>
    have ho1 : o1 = o := by
      unfold mustO failO at hr
      split at hr <;> simp at hr
      omega
    refine WL_eff (OE_call rfl (evs2 rfl rfl) (PC.goes (mustP_any b tv l hL s hs0 i o _ hp) hr)) rfl ?_
    rintro _ w1 ⟨rfl, hp1, hS⟩
    obtain ⟨hb, hs, hi, hl, ho⟩ := id hp1
    refine W ?_
    refine WL_eff0 (OE_store1 (u := .int .i64 ((o1 - 1 : Nat) : Int)) rfl (by show some _ = some _; simp; omega) rfl rfl hb (by simp)) ?_
    rintro _ w3 ⟨hT3, hb3⟩
    replace hs := hs.ext (X' := [b]) hT3 (fun c hc => hc) (fun c hc => .inl hc)
    refine W ?_
    first | refine WQ_ret1 rfl rfl ?_ | refine WQ_ret2 rfl rfl rfl ?_ | refine WQ_ret3 rfl rfl rfl rfl ?_ | refine WQ_ret0 rfl ?_ | refine WQ_end0 rfl ?_
    exact PC.ok rfl ⟨hb3, hs, hi, hl, by omega⟩ (hS.trans hT3)
theorem levelOf_any (s : Str) (w : World) : Calls Tryz.prog 135 #[str s] w (Ret fun r w' => r = .int .i64 (levelO s : Int) ∧ w' = w) := by
  unfold levelO
  refine calls_of_WC1 (n := 20) Tryz.func135 rfl rfl rfl ?_
  repeat' (first | refine W1 ?_ | (exfalso; omega) | refine WL_split rfl rfl (fun hg => ?_) (fun hg => ?_) | refine WL_splitB rfl rfl (fun hg => ?_) (fun hg => ?_) | refine WC_cond rfl (fun hc => ?_) (fun hc => ?_) | refine WC_condB rfl (fun hc => ?_) (fun hc => ?_))
  all_goals first | refine WQ_ret1 rfl rfl ?_ | refine WQ_ret2 rfl rfl rfl ?_ | refine WQ_ret3 rfl rfl rfl rfl ?_ | refine WQ_ret0 rfl ?_ | refine WQ_end0 rfl ?_
  all_goals refine .mk ⟨?_, rfl⟩
  all_goals simp_all
theorem arguments_any (s : Str) (w : World) : Calls Tryz.prog 218 #[str s] w (Ret fun r w' => r = .int .i64 (argsO s : Int) ∧ w' = w) := by
  unfold argsO
  refine calls_of_WC1 (n := 9) Tryz.func218 rfl rfl rfl ?_
  repeat' (first | refine W1 ?_ | (exfalso; omega) | refine WL_split rfl rfl (fun hg => ?_) (fun hg => ?_) | refine WL_splitB rfl rfl (fun hg => ?_) (fun hg => ?_) | refine WC_cond rfl (fun hc => ?_) (fun hc => ?_) | refine WC_condB rfl (fun hc => ?_) (fun hc => ?_))
  all_goals first | refine WQ_ret1 rfl rfl ?_ | refine WQ_ret2 rfl rfl rfl ?_ | refine WQ_ret3 rfl rfl rfl rfl ?_ | refine WQ_ret0 rfl ?_ | refine WQ_end0 rfl ?_
  all_goals refine .mk ⟨?_, rfl⟩
  all_goals simp_all
end Go.Proofs.YtgpibcgebpgmiaaGreatDoor


/-
The parser as a function on lists of tokens: what stays of the open constructs, progress, fuel (plain Lean).
-/
namespace Go.Eng
open Go Go.RowKit Go.Proofs
set_option linter.unusedVariables false
theorem mustO_open {l : List Tkn} {s : Str} {i o : Nat} {u : Unit} {i' o' : Nat} (h : mustO l s i o = .ok u i' o') : o' = o := by
  unfold mustO failO at h; split at h <;> simp at h; omega
theorem mustO_i {l : List Tkn} {s : Str} {i o : Nat} {u : Unit} {i' o' : Nat} (h : mustO l s i o = .ok u i' o') : i' = i + 1 ∧ (cur l i).text = s := by
  unfold mustO failO at h; split at h <;> simp at h; exact ⟨by omega, by assumption⟩
theorem tokenO_open {l : List Tkn} {k : Int} {i o : Nat} {t : Tkn} {i' o' : Nat} (h : tokenO l k i o = .ok t i' o') : o' = o ∧ i' = i + 1 ∧ t = cur l i ∧ t.kind = k := by
  unfold tokenO failO at h; split at h <;> simp at h
  obtain ⟨rfl, rfl, rfl⟩ := h
  exact ⟨rfl, rfl, rfl, by assumption⟩
theorem opensO_open {l : List Tkn} {s : Str} {i o : Nat} {u : Unit} {i' o' : Nat} (h : opensO l s i o = .ok u i' o') : o' = o + 1 ∧ i' = i + 1 ∧ (cur l i).text = s := by
  unfold opensO failO at h; split at h
  · split at h <;> simp at h
    exact ⟨by omega, by omega, by assumption⟩
  · simp at h
theorem closesO_open {l : List Tkn} {s : Str} {i o : Nat} {u : Unit} {i' o' : Nat} (h : closesO l s i o = .ok u i' o') : o' = o - 1 ∧ i' = i + 1 ∧ (cur l i).text = s := by
  unfold closesO at h
  cases hm : mustO l s i o with
  | err a c => rw [hm] at h; simp [Out.bind] at h
  | ok x j p =>
    rw [hm] at h
    simp [Out.bind] at h
    have := mustO_open hm
    have := mustO_i hm
    exact ⟨by omega, by omega, this.2⟩
theorem manyO_open {m : Nat → Nat → Option (Out Nd)} {sep : Nat → Nat → Nat → Out Unit} (hm : ∀ i o x i' o', m i o = some (.ok x i' o') → o' = o) (hs : ∀ k i o u i' o', sep k i o = .ok u i' o' → o' = o) :
    ∀ (n k : Nat) (ks : List Nd) (i o : Nat) (ks' : List Nd) (i' o' : Nat), manyO m sep n k ks i o = some (.ok ks' i' o') → o' = o
  | 0, k, ks, i, o, ks', i', o', h => by simp [manyO] at h; omega
  | n + 1, k, ks, i, o, ks', i', o', h => by
    simp only [manyO] at h
    cases h1 : sep k i o with
    | err a c => rw [h1] at h; simp at h
    | ok u i1 o1 =>
      rw [h1] at h
      simp only at h
      cases h2 : m i1 o1 with
      | none => rw [h2] at h; simp at h
      | some r =>
        rw [h2] at h
        cases r with
        | err a c => simp at h
        | ok x i2 o2 =>
          simp only at h
          have := manyO_open hm hs n _ _ _ _ _ _ _ h
          have := hm _ _ _ _ _ h2
          have := hs _ _ _ _ _ _ h1
          omega
theorem commaO_open {l : List Tkn} {k i o : Nat} {u : Unit} {i' o' : Nat} (h : commaO l k i o = .ok u i' o') : o' = o := by
  unfold commaO at h
  split at h
  · exact mustO_open h
  · simp at h; omega
theorem thenO_open {l : List Tkn} {k i o : Nat} {u : Unit} {i' o' : Nat} (h : thenO l k i o = .ok u i' o') : o' = o := mustO_open h
theorem exprO_open (l : List Tkn) : ∀ (f : Nat) (c : Call) (i o : Nat) (x : Nd) (i' o' : Nat), exprO l f c i o = some (.ok x i' o') → o' = o
  | 0, c, i, o, x, i', o', h => by simp [exprO] at h
  | f + 1, .expr k, i, o, x, i', o', h => by
    have ih := exprO_open l f
    rw [exprO] at h
    split at h
    · split at h
      · simp at h
      · rename_i h1
        have := opensO_open h1
        split at h
        · simp at h
        · simp at h
        · rename_i h2
          have := ih _ _ _ _ _ _ h2
          simp at h
          omega
    · split at h
      · exact ih _ _ _ _ _ _ h
      · split at h
        · simp at h
        · simp at h
        · rename_i h2
          have := ih _ _ _ _ _ _ h2
          have := ih _ _ _ _ _ _ h
          omega
  | f + 1, .loop k y, i, o, x, i', o', h => by
    have ih := exprO_open l f
    rw [exprO] at h
    split at h
    · split at h
      · simp at h
      · simp at h
      · rename_i h2
        have h3 := ih _ _ _ _ _ _ h2
        split at h
        · have := ih _ _ _ _ _ _ h
          omega
        · split at h
          · simp at h; omega
          · have := ih _ _ _ _ _ _ h
            omega
    · simp at h; omega
  | f + 1, .prim, i, o, x, i', o', h => by
    have ih := exprO_open l f
    rw [exprO] at h
    repeat' split at h
    all_goals try (simp at h; done)
    all_goals try (simp at h; omega)
    · rename_i h1 _ _ _ _ h2 _ _ _ _ h3
      have := opensO_open h1; have := ih _ _ _ _ _ _ h2; have := closesO_open h3
      simp at h; omega
    · rename_i h1 _ _ _ _ h2 _ _ _ _ h3 _ _ _ _ h4
      have := opensO_open h1; have := ih _ _ _ _ _ _ h2; have := manyO_open (fun _ _ _ _ _ h => ih _ _ _ _ _ _ h) (fun _ _ _ _ _ _ h => thenO_open h) _ _ _ _ _ _ _ _ h3; have := closesO_open h4
      simp at h; omega
    · rename_i h1 _ _ _ _ h2 _ _ _ _ h3 _ _ _ _ h4
      have := tokenO_open h1; have := opensO_open h2; have := manyO_open (fun _ _ _ _ _ h => ih _ _ _ _ _ _ h) (fun _ _ _ _ _ _ h => commaO_open h) _ _ _ _ _ _ _ _ h3; have := closesO_open h4
      simp at h; omega
    all_goals (simp [failO] at h)
theorem manyO_le {m : Nat → Nat → Option (Out Nd)} {sep : Nat → Nat → Nat → Out Unit} (hm : ∀ i o x i' o', m i o = some (.ok x i' o') → i ≤ i') (hs : ∀ k i o u i' o', sep k i o = .ok u i' o' → i ≤ i') :
    ∀ (n k : Nat) (ks : List Nd) (i o : Nat) (ks' : List Nd) (i' o' : Nat), manyO m sep n k ks i o = some (.ok ks' i' o') → i ≤ i'
  | 0, k, ks, i, o, ks', i', o', h => by simp [manyO] at h; omega
  | n + 1, k, ks, i, o, ks', i', o', h => by
    simp only [manyO] at h
    cases h1 : sep k i o with
    | err a c => rw [h1] at h; simp at h
    | ok u i1 o1 =>
      rw [h1] at h
      simp only at h
      cases h2 : m i1 o1 with
      | none => rw [h2] at h; simp at h
      | some r =>
        rw [h2] at h
        cases r with
        | err a c => simp at h
        | ok x i2 o2 =>
          simp only at h
          have := manyO_le hm hs n _ _ _ _ _ _ _ h
          have := hm _ _ _ _ _ h2
          have := hs _ _ _ _ _ _ h1
          omega
theorem commaO_le {l : List Tkn} {k i o : Nat} {u : Unit} {i' o' : Nat} (h : commaO l k i o = .ok u i' o') : i ≤ i' := by
  unfold commaO at h
  split at h
  · have := (mustO_i h).1; omega
  · simp at h; omega
theorem thenO_le {l : List Tkn} {k i o : Nat} {u : Unit} {i' o' : Nat} (h : thenO l k i o = .ok u i' o') : i ≤ i' := by have := (mustO_i h).1; omega
/-- how far a call must go on -/
def Call.lo : Call → Nat → Nat
  | .expr _, i => i + 1
  | .prim, i => i + 1
  | .loop _ _, i => i
theorem exprO_le (l : List Tkn) : ∀ (f : Nat) (c : Call) (i o : Nat) (x : Nd) (i' o' : Nat), exprO l f c i o = some (.ok x i' o') → c.lo i ≤ i'
  | 0, c, i, o, x, i', o', h => by simp [exprO] at h
  | f + 1, .expr k, i, o, x, i', o', h => by
    have ih := exprO_le l f
    rw [exprO] at h
    simp only [Call.lo]
    split at h
    · split at h
      · simp at h
      · rename_i h1
        have := opensO_open h1
        split at h
        · simp at h
        · simp at h
        · rename_i h2
          have := ih _ _ _ _ _ _ h2
          simp only [Call.lo] at this
          simp at h
          omega
    · split at h
      · exact ih _ _ _ _ _ _ h
      · split at h
        · simp at h
        · simp at h
        · rename_i h2
          have h3 := ih _ _ _ _ _ _ h2
          have := ih _ _ _ _ _ _ h
          simp only [Call.lo] at this h3
          omega
  | f + 1, .loop k y, i, o, x, i', o', h => by
    have ih := exprO_le l f
    rw [exprO] at h
    simp only [Call.lo]
    split at h
    · split at h
      · simp at h
      · simp at h
      · rename_i h2
        have h3 := ih _ _ _ _ _ _ h2
        simp only [Call.lo] at h3
        split at h
        · have := ih _ _ _ _ _ _ h
          simp only [Call.lo] at this
          omega
        · split at h
          · simp at h; omega
          · have := ih _ _ _ _ _ _ h
            simp only [Call.lo] at this
            omega
    · simp at h; omega
  | f + 1, .prim, i, o, x, i', o', h => by
    have ih := exprO_le l f
    rw [exprO] at h
    simp only [Call.lo]
    repeat' split at h
    all_goals try (simp at h; done)
    all_goals try (simp at h; omega)
    · rename_i h1 _ _ _ _ h2 _ _ _ _ h3
      have := opensO_open h1; have h2 := ih _ _ _ _ _ _ h2; have := closesO_open h3
      simp only [Call.lo] at h2
      simp at h; omega
    · rename_i h1 _ _ _ _ h2 _ _ _ _ h3 _ _ _ _ h4
      have := opensO_open h1; have h2 := ih _ _ _ _ _ _ h2; have := manyO_le (fun _ _ _ _ _ h => by have := ih _ _ _ _ _ _ h; simp only [Call.lo] at this; omega) (fun _ _ _ _ _ _ h => thenO_le h) _ _ _ _ _ _ _ _ h3; have := closesO_open h4
      simp only [Call.lo] at h2
      simp at h; omega
    · rename_i h1 _ _ _ _ h2 _ _ _ _ h3 _ _ _ _ h4
      have := tokenO_open h1; have := opensO_open h2; have := manyO_le (fun _ _ _ _ _ h => by have := ih _ _ _ _ _ _ h; simp only [Call.lo] at this; omega) (fun _ _ _ _ _ _ h => commaO_le h) _ _ _ _ _ _ _ _ h3; have := closesO_open h4
      simp at h; omega
    all_goals (simp [failO] at h)
theorem manyO_some {m : Nat → Nat → Option (Out Nd)} {sep : Nat → Nat → Nat → Out Unit} (i0 : Nat) (ht : ∀ i o, i0 ≤ i → m i o ≠ none) (hm : ∀ i o x i' o', m i o = some (.ok x i' o') → i ≤ i') (hs : ∀ k i o u i' o', sep k i o = .ok u i' o' → i ≤ i') :
    ∀ (n k : Nat) (ks : List Nd) (i o : Nat), i0 ≤ i → manyO m sep n k ks i o ≠ none
  | 0, k, ks, i, o, h0 => by simp [manyO]
  | n + 1, k, ks, i, o, h0 => by
    simp only [manyO]
    cases h1 : sep k i o with
    | err a c => simp
    | ok u i1 o1 =>
      have := hs _ _ _ _ _ _ h1
      simp only
      cases h2 : m i1 o1 with
      | none => exact absurd h2 (ht _ _ (by omega))
      | some r =>
        cases r with
        | err a c => simp
        | ok x i2 o2 =>
          have := hm _ _ _ _ _ h2
          exact manyO_some i0 ht hm hs n _ _ _ _ (by omega)
theorem cur_out {l : List Tkn} {i : Nat} (h : l.length ≤ i) : cur l i = default := by simp [cur, List.getD, h]
theorem in_of_text {l : List Tkn} {i : Nat} (h : (cur l i).text ≠ []) : i < l.length := by
  by_cases hl : i < l.length
  · exact hl
  · rw [cur_out (by omega)] at h; exact absurd rfl h
/-- fuel that is enough -/
def Call.need (n : Nat) : Call → Nat → Nat
  | .expr k, i => 10 * (n - i) + (10 - k)
  | .prim, i => 10 * (n - i) + 1
  | .loop _ _, i => 10 * (n - i) + 1
def Call.fine : Call → Prop
  | .expr k => 1 ≤ k ∧ k ≤ 8
  | .prim => True
  | .loop k _ => 1 ≤ k ∧ k ≤ 7
theorem levelO_nil {s : Str} {k : Nat} (h : levelO s = k) (hk : 1 ≤ k) : s ≠ [] := by
  rintro rfl
  have : levelO [] = 0 := by decide
  omega
theorem exprO_some (l : List Tkn) : ∀ (f : Nat) (c : Call) (i o : Nat), c.fine → c.need l.length i ≤ f → exprO l f c i o ≠ none
  | 0, c, i, o, hc, h => by
    cases c <;> simp only [Call.need, Call.fine] at h hc <;> omega
  | f + 1, .expr k, i, o, hc, h => by
    have ih := exprO_some l f
    simp only [Call.need, Call.fine] at h hc
    rw [exprO]
    split
    · rename_i hsp
      have hi : i < l.length := in_of_text (by rcases hsp with ⟨_, h⟩ | ⟨_, h⟩ <;> rw [h] <;> decide)
      split
      · simp
      · rename_i h1
        have := opensO_open h1
        split
        · rename_i h2; exact absurd h2 (ih _ _ _ hc (by simp only [Call.need]; omega))
        · simp
        · simp
    · split
      · exact ih _ _ _ trivial (by simp only [Call.need]; omega)
      · split
        · rename_i h2; exact absurd h2 (ih _ _ _ (by simp only [Call.fine]; omega) (by simp only [Call.need]; omega))
        · simp
        · rename_i h2
          have h3 := exprO_le l _ _ _ _ _ _ _ h2
          simp only [Call.lo] at h3
          exact ih _ _ _ (by simp only [Call.fine]; omega) (by simp only [Call.need]; omega)
  | f + 1, .loop k y, i, o, hc, h => by
    have ih := exprO_some l f
    simp only [Call.need, Call.fine] at h hc
    rw [exprO]
    split
    · rename_i hlv
      have hi : i < l.length := in_of_text (levelO_nil hlv hc.1)
      split
      · rename_i h2; exact absurd h2 (ih _ _ _ (by simp only [Call.fine]; omega) (by simp only [Call.need]; omega))
      · simp
      · rename_i h2
        have h3 := exprO_le l _ _ _ _ _ _ _ h2
        simp only [Call.lo] at h3
        split
        · exact ih _ _ _ hc (by simp only [Call.need]; omega)
        · split
          · simp
          · exact ih _ _ _ hc (by simp only [Call.need]; omega)
    · simp
  | f + 1, .prim, i, o, hc, h => by
    have ih := exprO_some l f
    have hle : ∀ i o x i' o', exprO l f (.expr 1) i o = some (.ok x i' o') → i ≤ i' := fun _ _ _ _ _ h => by have := exprO_le l _ _ _ _ _ _ _ h; simp only [Call.lo] at this; omega
    simp only [Call.need, Call.fine] at h hc
    have hrec : ∀ j o, i < l.length → i + 1 ≤ j → exprO l f (.expr 1) j o ≠ none := fun j o hi hj => ih _ _ _ (by simp [Call.fine]) (by simp only [Call.need]; omega)
    rw [exprO]
    have hpar := fun h => in_of_text (l := l) (i := i) h
    split
    · simp
    split
    · simp
    split
    · simp
    split
    · simp
    split
    · rename_i ht
      have hi := hpar (by rw [ht]; decide)
      split
      · simp
      · rename_i h1
        have := opensO_open h1
        split
        · rename_i h2; exact absurd h2 (hrec _ _ hi (by omega))
        · simp
        · split <;> simp
    split
    · rename_i ht
      have hi := hpar (by rw [ht]; decide)
      split
      · simp
      · rename_i h1
        have := opensO_open h1
        split
        · rename_i h2; exact absurd h2 (hrec _ _ hi (by omega))
        · simp
        · rename_i h2
          have := hle _ _ _ _ _ h2
          split
          · rename_i h3; exact absurd h3 (manyO_some (i + 1) (fun j o hj => hrec j o hi hj) hle (fun _ _ _ _ _ _ h => thenO_le h) _ _ _ _ _ (by omega))
          · simp
          · split <;> simp
    split
    · rename_i ht
      have hi := hpar (fun h0 => by rw [h0] at ht; revert ht; decide)
      split
      · simp
      · rename_i h1
        have := tokenO_open h1
        split
        · simp
        · rename_i h2
          have := opensO_open h2
          split
          · rename_i h3; exact absurd h3 (manyO_some (i + 1) (fun j o hj => hrec j o hi hj) hle (fun _ _ _ _ _ _ h => commaO_le h) _ _ _ _ _ (by omega))
          · simp
          · split <;> simp
    split <;> simp
theorem wholeO_eq (l : List Tkn) (i o : Nat) : exprO l (fuelO l i) (.expr 1) i o = some (wholeO l i o) := by
  have := exprO_some l (fuelO l i) (.expr 1) i o (by simp [Call.fine]) (by simp only [Call.need, fuelO]; omega)
  unfold wholeO
  cases h : exprO l (fuelO l i) (.expr 1) i o with
  | none => exact absurd h this
  | some r => rfl
end Go.Eng


namespace Go.Proofs.YtgpibcgebpgmiaaGreatDoor
open Go Go.Eng Go.RowKit
set_option linter.unusedVariables false

theorem Around01_any (z : Int) (m : Int) (w : World) (hm : 0 < m) (hz : I64 z) : Calls Tryz.prog 22 #[.int .i64 z, .int .i64 m] w (Ret fun r w' => r = .int .i64 ((if z < 0 then -(z + 1) else z) % m) ∧ Stp [] w w') := by
  unfold I64 at hz
  refine calls_of_WC2 (n := 13) Tryz.func22 rfl rfl rfl ?_
  by_cases h : z < 0
  · repeat' (first | refine W1 ?_ | (exfalso; omega) | refine WL_split rfl rfl (fun hg => ?_) (fun hg => ?_) | refine WL_splitB rfl rfl (fun hg => ?_) (fun hg => ?_) | refine WC_cond rfl (fun hc => ?_) (fun hc => ?_) | refine WC_condB rfl (fun hc => ?_) (fun hc => ?_))
    first | refine WQ_ret1 rfl rfl ?_ | refine WQ_ret2 rfl rfl rfl ?_ | refine WQ_ret3 rfl rfl rfl rfl ?_ | refine WQ_ret0 rfl ?_ | refine WQ_end0 rfl ?_
    exact .mk ⟨by rw [if_pos h], Stp.refl _ _⟩
  · repeat' (first | refine W1 ?_ | (exfalso; omega) | refine WL_split rfl rfl (fun hg => ?_) (fun hg => ?_) | refine WL_splitB rfl rfl (fun hg => ?_) (fun hg => ?_) | refine WC_cond rfl (fun hc => ?_) (fun hc => ?_) | refine WC_condB rfl (fun hc => ?_) (fun hc => ?_))
    first | refine WQ_ret1 rfl rfl ?_ | refine WQ_ret2 rfl rfl rfl ?_ | refine WQ_ret3 rfl rfl rfl rfl ?_ | refine WQ_ret0 rfl ?_ | refine WQ_end0 rfl ?_
    exact .mk ⟨by rw [if_neg h], Stp.refl _ _⟩
theorem around_range (z m : Int) (hm : 0 < m) : 0 ≤ z % m ∧ z % m < m := ⟨Int.emod_nonneg _ (by omega), Int.emod_lt_of_pos _ hm⟩
/-- an int list in memory: each of its numbers fits -/
theorem Pick01_any (X : List Nat) (v : Value) (l : List Int) (i m : Int) (w : World) (hm : 0 < m) (hi : I64 i) (hs : SlV X w v l) (hl : ∀ a ∈ l, I64 a) : Calls Tryz.prog 96 #[v, .int .i64 i, .int .i64 m] w (Ret fun r w' => ∃ q : Nat, r = .int .i64 (q : Int) ∧ (q : Int) < m ∧ Stp [] w w') := by
  unfold I64 at hi
  have hmax := hs.max
  refine calls_of_WC3 (n := 21) Tryz.func96 rfl rfl rfl ?_
  refine W ?_
  by_cases hgo : 0 ≤ i ∧ i < l.length
  · obtain ⟨h0, h1⟩ := hgo
    obtain ⟨k, rfl⟩ : ∃ k : Nat, i = (k : Int) := ⟨i.toNat, by omega⟩
    have hk : k < l.length := by omega
    repeat' (first | refine W1 ?_ | (exfalso; omega) | refine WL_split rfl rfl (fun hg => ?_) (fun hg => ?_) | refine WL_splitB rfl rfl (fun hg => ?_) (fun hg => ?_) | refine WC_cond rfl (fun hc => ?_) (fun hc => ?_) | refine WC_condB rfl (fun hc => ?_) (fun hc => ?_))
    refine WL_eff (OE_call rfl (evs2 rfl rfl) (Around01_any _ m _ hm (hl _ (List.getElem_mem hk)))) rfl ?_
    rintro _ w2 ⟨rfl, hS⟩
    refine W ?_
    first | refine WQ_ret1 rfl rfl ?_ | refine WQ_ret2 rfl rfl rfl ?_ | refine WQ_ret3 rfl rfl rfl rfl ?_ | refine WQ_ret0 rfl ?_ | refine WQ_end0 rfl ?_
    have := around_range (if l[k] < 0 then -(l[k] + 1) else l[k]) m hm
    exact .mk ⟨_, by rw [Int.toNat_of_nonneg this.1], by rw [Int.toNat_of_nonneg this.1]; exact this.2, hS⟩
  · repeat' (first | refine W1 ?_ | (exfalso; omega) | refine WL_split rfl rfl (fun hg => ?_) (fun hg => ?_) | refine WL_splitB rfl rfl (fun hg => ?_) (fun hg => ?_) | refine WC_cond rfl (fun hc => ?_) (fun hc => ?_) | refine WC_condB rfl (fun hc => ?_) (fun hc => ?_))
    all_goals first
      | (first | refine WQ_ret1 rfl rfl ?_ | refine WQ_ret2 rfl rfl rfl ?_ | refine WQ_ret3 rfl rfl rfl rfl ?_ | refine WQ_ret0 rfl ?_ | refine WQ_end0 rfl ?_
         exact .mk ⟨0, rfl, by simpa using hm, Stp.refl _ _⟩)
theorem buildN023 (k : Int) (s : Str) (p : Option Addr) (l c : Nat) (w : World) : (Instr.build 36 #[(0, .int .i64 k), (2, str s), (3, .slice p l c)]).run Tryz.prog w = .ok (.agg #[.int .i64 k, .int .i64 0, str s, .slice p l c]) w := by kernel_rfl
theorem node14_any (X : List Nat) (k : Int) (s : Str) (kv : Value) (kids : List Nd) (w : World) (hX : ∀ b ∈ X, b < w.heap.size) (hs : SlV X w kv kids) : Calls Tryz.prog 97 #[.int .i64 k, str s, kv] w (Ret fun r w' => NdV X w' r (.mk k 0 s kids) ∧ Stp [] w w') := by
  obtain ⟨p, c, rfl, -⟩ := id hs
  refine calls_of_WC3 (n := 11) Tryz.func97 rfl rfl rfl ?_
  refine W ?_
  refine WL_eff OE_alloc rfl ?_
  rintro _ w1 ⟨b, rfl, hb, hblk, hS⟩
  refine W ?_
  apply WL_build (vs := [(0, .int .i64 k), (2, str s), (3, .slice p kids.length c)]) rfl (buildN023 _ _ _ _ _) rfl
  refine WL_eff0 (OE_storeA (us := ndC (.mk k 0 s kids) (.slice p kids.length c)) rfl rfl rfl rfl (ndC_one hs) hblk rfl) ?_
  rintro _ w2 ⟨hS2, hblk2⟩
  have hT := hS.own hS2 (fun c hc => .inr (by simp at hc; omega))
  refine W ?_
  refine WQ_retc rfl rfl rfl hblk2 rfl ?_
  exact .mk ⟨⟨_, rfl, hs.up hT⟩, hT⟩
end Go.Proofs.YtgpibcgebpgmiaaGreatDoor


namespace Go.Proofs.YtgpibcgebpgmiaaGreatDoor
open Go Go.Eng Go.RowKit
set_option linter.unusedVariables false

/-- a maker: its block holds the numbers and how many it has used -/
abbrev Mk (w : World) (bm : Nat) (lv : Value) (i : Nat) : Prop := Blk w bm 109 [lv, .int .i64 (i : Int)]
theorem Next_any (bm : Nat) (lv : Value) (l : List Int) (i : Nat) (n : Int) (w : World) (hn : 0 < n) (hi : i ≤ 1000000) (hb : Mk w bm lv i) (hs : SlV [bm] w lv l) (hl : ∀ a ∈ l, I64 a) :
    Calls Tryz.prog 52 #[.pointer (some ⟨bm, 0, none⟩), .int .i64 n] w (Ret fun r w' => ∃ q : Nat, r = .int .i64 (q : Int) ∧ (q : Int) < n ∧ Mk w' bm lv (i + 1) ∧ Stp [bm] w w') := by
  refine calls_of_WC2 (n := 23) Tryz.func52 rfl rfl rfl ?_
  refine W ?_
  refine WL_eff0 (OE_store1 (u := .int .i64 ((i : Int) + 1)) rfl rfl rfl rfl hb (by simp)) ?_
  rintro _ w1 ⟨hS1', hb1⟩
  replace hb1 : Mk w1 bm lv (i + 1) := hb1
  replace hs := hs.ext hS1' (fun _ h => h) (fun _ h => .inl h)
  replace hs : SlV [] w1 lv l := hs.wk (by simp)
  refine W ?_
  refine WC_drawn 12 [] [] [(0, 0), (1, 0), (2, 0), (3, 1), (4, 0), (5, 0), (6, 0), (7, 1), (8, 0), (9, 0), (10, 2), (11, 0)] rfl mixed (by kernel_rfl) (by kernel_rfl) (by kernel_rfl) (fun w1 hS1 => ?_)
  replace hb1 := hb1.up hS1
  replace hs := hs.up hS1
  refine D ?_
  refine WD_eff rfl trivial (OE_call rfl (evs3 rfl rfl rfl) (Pick01_any [] _ l _ n _ hn (by unfold I64; omega) hs hl)) (fun _ _ h => h.choose_spec.2.2) rfl ?_
  rintro _ w3 ⟨q, rfl, hq, hS3⟩
  replace hb1 := hb1.up hS3
  refine D ?_
  refine W ?_
  first | refine WQ_ret1 rfl rfl ?_ | refine WQ_ret2 rfl rfl rfl ?_ | refine WQ_ret3 rfl rfl rfl rfl ?_ | refine WQ_ret0 rfl ?_ | refine WQ_end0 rfl ?_
  exact .mk ⟨q, rfl, hq, hb1, (hS1'.trans (hS1.mono (by simp))).trans (hS3.mono (by simp))⟩
end Go.Proofs.YtgpibcgebpgmiaaGreatDoor


namespace Go.Proofs.YtgpibcgebpgmiaaGreatDoor
open Go Go.Eng Go.RowKit
set_option linter.unusedVariables false

def szD : Nat → Nat
  | 0 => 0
  | d + 1 => 1 + 3 * szD d
theorem szD_eq {d : Nat} (h : 1 ≤ d) : szD d = 1 + 3 * szD (d - 1) := by
  cases d with
  | zero => omega
  | succ d => rfl
/-- the type of what a maker's method gives -/
def tyG (f : Nat) : Int := if f = 98 then 1 else if f = 53 then 2 else 3
/-- a maker's method gives a node -/
def GenP (f : Nat) (d : Nat) : Prop := ∀ (X : List Nat) (w : World) (bm : Nat) (lv : Value) (l : List Int) (i : Nat) (z : Int), z = (d : Int) → Mk w bm lv i → SlV [bm] w lv l → (∀ a ∈ l, I64 a) → i + 2 * szD d ≤ 100000 → (∀ b ∈ X, b < w.heap.size) →
  Calls Tryz.prog f #[.pointer (some ⟨bm, 0, none⟩), .int .i64 z] w (Ret fun r w' => ∃ y i', NdV X w' r y ∧ sizeN y ≤ szD d ∧ (typeT y = tyG f ∧ nestN y ≤ d) ∧ Mk w' bm lv i' ∧ i' ≤ i + 2 * szD d ∧ Stp [bm] w w')
/-- a maker at work, the cell of the result beside it -/
structure G (X : List Nat) (w0 w : World) (bm b4 : Nat) (lv : Value) (l : List Int) (i : Nat) : Prop where
  mkr : Mk w bm lv i
  sl : SlV [bm] w lv l
  stp : Stp [bm] w0 w
  blk : ∃ cs : List Value, cs.length = 4 ∧ Blk w b4 36 cs
  ne : b4 ≠ bm
  hX : ∀ b ∈ X, b < w.heap.size
theorem G.nxt {X : List Nat} {w0 w w' : World} {bm b4 : Nat} {lv : Value} {l : List Int} {i i' : Nat} (h : G X w0 w bm b4 lv l i) (hm : Mk w' bm lv i') (hS : Stp [bm] w w') : G X w0 w' bm b4 lv l i' :=
  ⟨hm, h.sl.ext hS (fun _ h => h) (fun _ h => .inl h), h.stp.trans hS, h.blk.imp (fun cs hc => ⟨hc.1, hc.2.ext hS (by simpa using h.ne)⟩), h.ne, fun b hb => Nat.lt_of_lt_of_le (h.hX b hb) hS.size⟩
theorem G.up {X : List Nat} {w0 w w' : World} {bm b4 : Nat} {lv : Value} {l : List Int} {i : Nat} (h : G X w0 w bm b4 lv l i) (hS : Stp [] w w') : G X w0 w' bm b4 lv l i :=
  h.nxt (h.mkr.up hS) (hS.mono (by simp))
theorem G.fin {X : List Nat} {w0 w1 w w' : World} {bm b4 : Nat} {lv : Value} {l : List Int} {i : Nat} {y : Nd} {ky : Value} (h : G (b4 :: bm :: X) w1 w bm b4 lv l i) (hw : Stp [] w0 w1) (hb : w0.heap.size ≤ b4) (hy : SlV (b4 :: bm :: X) w ky y.kids) (hS : Stp [b4] w w') :
    NdV X w' (.agg (ndC y ky).toArray) y ∧ Mk w' bm lv i ∧ Stp [bm] w0 w' :=
  ⟨⟨ky, rfl, (hy.ext (X' := b4 :: bm :: X) hS (by simp) (fun _ h => .inl h)).wk (fun c hc => by simp [hc])⟩, h.mkr.ext hS (by simpa using h.ne.symm), ((hw.mono (by simp)).trans h.stp).own hS (fun c hc => .inr (by simp at hc; omega))⟩
theorem reps1 {X : List Nat} {w : World} {y0 : Nd} {k0 : Value} (s0 : SlV X w k0 y0.kids) : ∀ i (hi : i < [y0].length) (hi' : i < [ndC y0 k0].length), GoRep.rep X w [y0][i] [ndC y0 k0][i]
  | 0, _, _ => (show NRep X w y0 (ndC y0 k0) by rw [y0.eta]; exact slv_nrep s0)
theorem reps2 {X : List Nat} {w : World} {y0 y1 : Nd} {k0 k1 : Value} (s0 : SlV X w k0 y0.kids) (s1 : SlV X w k1 y1.kids) : ∀ i (hi : i < [y0, y1].length) (hi' : i < [ndC y0 k0, ndC y1 k1].length), GoRep.rep X w [y0, y1][i] [ndC y0 k0, ndC y1 k1][i]
  | 0, _, _ => (show NRep X w y0 (ndC y0 k0) by rw [y0.eta]; exact slv_nrep s0)
  | 1, _, _ => (show NRep X w y1 (ndC y1 k1) by rw [y1.eta]; exact slv_nrep s1)
theorem reps3 {X : List Nat} {w : World} {y0 y1 y2 : Nd} {k0 k1 k2 : Value} (s0 : SlV X w k0 y0.kids) (s1 : SlV X w k1 y1.kids) (s2 : SlV X w k2 y2.kids) : ∀ i (hi : i < [y0, y1, y2].length) (hi' : i < [ndC y0 k0, ndC y1 k1, ndC y2 k2].length), GoRep.rep X w [y0, y1, y2][i] [ndC y0 k0, ndC y1 k1, ndC y2 k2][i]
  | 0, _, _ => (show NRep X w y0 (ndC y0 k0) by rw [y0.eta]; exact slv_nrep s0)
  | 1, _, _ => (show NRep X w y1 (ndC y1 k1) by rw [y1.eta]; exact slv_nrep s1)
  | 2, _, _ => (show NRep X w y2 (ndC y2 k2) by rw [y2.eta]; exact slv_nrep s2)
theorem buildN01 (k n : Int) (w : World) : (Instr.build 36 #[(0, .int .i64 k), (1, .int .i64 n)]).run Tryz.prog w = .ok (.agg #[.int .i64 k, .int .i64 n, str [], .slice none 0 0]) w := by kernel_rfl
theorem buildN02 (k : Int) (s : Str) (w : World) : (Instr.build 36 #[(0, .int .i64 k), (2, str s)]).run Tryz.prog w = .ok (.agg #[.int .i64 k, .int .i64 0, str s, .slice none 0 0]) w := by kernel_rfl
theorem buildSN2 (k n : Int) (s : Str) (p : Option Addr) (l c : Nat) (k' n' : Int) (s' : Str) (p' : Option Addr) (l' c' : Nat) (w : World) : (Instr.buildSlice 34 2 #[(0, .agg #[.int .i64 k, .int .i64 n, str s, .slice p l c]), (1, .agg #[.int .i64 k', .int .i64 n', str s', .slice p' l' c'])]).run Tryz.prog w = .ok (.slice (some ⟨w.heap.size, 0, none⟩) 2 2) (w.alloc (.cells #[.int .i64 k, .int .i64 n, str s, .slice p l c, .int .i64 k', .int .i64 n', str s', .slice p' l' c'] 36)) := by kernel_rfl
theorem buildSN3 (k n : Int) (s : Str) (p : Option Addr) (l c : Nat) (k' n' : Int) (s' : Str) (p' : Option Addr) (l' c' : Nat) (k'' n'' : Int) (s'' : Str) (p'' : Option Addr) (l'' c'' : Nat) (w : World) : (Instr.buildSlice 34 3 #[(0, .agg #[.int .i64 k, .int .i64 n, str s, .slice p l c]), (1, .agg #[.int .i64 k', .int .i64 n', str s', .slice p' l' c']), (2, .agg #[.int .i64 k'', .int .i64 n'', str s'', .slice p'' l'' c''])]).run Tryz.prog w = .ok (.slice (some ⟨w.heap.size, 0, none⟩) 3 3) (w.alloc (.cells #[.int .i64 k, .int .i64 n, str s, .slice p l c, .int .i64 k', .int .i64 n', str s', .slice p' l' c', .int .i64 k'', .int .i64 n'', str s'', .slice p'' l'' c''] 36)) := by kernel_rfl
theorem buildSI8 (a b c d e f g h : Int) (w : World) : (Instr.buildSlice 22 8 #[(0, .int .i64 a), (1, .int .i64 b), (2, .int .i64 c), (3, .int .i64 d), (4, .int .i64 e), (5, .int .i64 f), (6, .int .i64 g), (7, .int .i64 h)]).run Tryz.prog w = .ok (.slice (some ⟨w.heap.size, 0, none⟩) 8 8) (w.alloc (.cells #[.int .i64 a, .int .i64 b, .int .i64 c, .int .i64 d, .int .i64 e, .int .i64 f, .int .i64 g, .int .i64 h] 3)) := by kernel_rfl
theorem size1 (k n : Int) (s : Str) (y0 : Nd) : sizeN (.mk k n s [y0]) = 1 + sizeN y0 := by rw [sizeN_eq]; simp [Nd.kids]
theorem size2 (k n : Int) (s : Str) (y0 y1 : Nd) : sizeN (.mk k n s [y0, y1]) = 1 + sizeN y0 + sizeN y1 := by rw [sizeN_eq]; simp [Nd.kids]; omega
theorem size3 (k n : Int) (s : Str) (y0 y1 y2 : Nd) : sizeN (.mk k n s [y0, y1, y2]) = 1 + sizeN y0 + sizeN y1 + sizeN y2 := by rw [sizeN_eq]; simp [Nd.kids]; omega
theorem size0 (k n : Int) (s : Str) : sizeN (.mk k n s []) = 1 := by rw [sizeN_eq]; simp [Nd.kids]
theorem nest0 (k n : Int) (s : Str) : nestN (.mk k n s []) = 1 := by rw [nestN_eq]; simp [Nd.kids]
theorem nest1 (k n : Int) (s : Str) (y0 : Nd) : nestN (.mk k n s [y0]) = 1 + nestN y0 := by rw [nestN_eq]; simp [Nd.kids]
theorem nest2 (k n : Int) (s : Str) (y0 y1 : Nd) : nestN (.mk k n s [y0, y1]) = 1 + max (nestN y0) (nestN y1) := by rw [nestN_eq]; simp [Nd.kids]
theorem nest3 (k n : Int) (s : Str) (y0 y1 y2 : Nd) : nestN (.mk k n s [y0, y1, y2]) = 1 + max (max (nestN y0) (nestN y1)) (nestN y2) := by rw [nestN_eq]; simp [Nd.kids]
theorem ty0 {k n τ : Int} {s : Str} (h : leafN k n s = τ) : typeT (.mk k n s []) = τ := by rw [typeT_eq]; exact h
theorem ty1 {k τ a : Int} {s : Str} {y0 : Nd} (h0 : typeT y0 = a) (h : combT k 0 s [a] = τ) : typeT (.mk k 0 s [y0]) = τ := by rw [typeT_eq]; simp only [Nd.kind, Nd.num, Nd.word, Nd.kids, List.map_cons, List.map_nil, h0]; exact h
theorem ty2 {k τ a b : Int} {s : Str} {y0 y1 : Nd} (h0 : typeT y0 = a) (h1 : typeT y1 = b) (h : combT k 0 s [a, b] = τ) : typeT (.mk k 0 s [y0, y1]) = τ := by rw [typeT_eq]; simp only [Nd.kind, Nd.num, Nd.word, Nd.kids, List.map_cons, List.map_nil, h0, h1]; exact h
theorem ty3 {k τ a b c : Int} {s : Str} {y0 y1 y2 : Nd} (h0 : typeT y0 = a) (h1 : typeT y1 = b) (h2 : typeT y2 = c) (h : combT k 0 s [a, b, c] = τ) : typeT (.mk k 0 s [y0, y1, y2]) = τ := by rw [typeT_eq]; simp only [Nd.kind, Nd.num, Nd.word, Nd.kids, List.map_cons, List.map_nil, h0, h1, h2]; exact h
theorem tA : ∀ q (h : q < opsA.length), combT 6 0 opsA[q] [1, 1] = 1 := by
  intro q h
  match q, h with
  | 0, _ => rfl
  | 1, _ => rfl
  | 2, _ => rfl
theorem tL : ∀ q (h : q < opsL.length), combT 6 0 opsL[q] [2, 2] = 2 := by
  intro q h
  match q, h with
  | 0, _ => rfl
  | 1, _ => rfl
theorem tCd : ∀ q (h : q < opsC.length), combT 6 0 opsC[q] [3, 3] = 2 := by
  intro q h
  match q, h with
  | 0, _ => rfl
  | 1, _ => rfl
  | 2, _ => rfl
  | 3, _ => rfl
  | 4, _ => rfl
  | 5, _ => rfl
theorem tCn : ∀ q (h : q < opsC.length), combT 6 0 opsC[q] [1, 1] = 2 := by
  intro q h
  match q, h with
  | 0, _ => rfl
  | 1, _ => rfl
  | 2, _ => rfl
  | 3, _ => rfl
  | 4, _ => rfl
  | 5, _ => rfl
theorem tN : ∀ q (h : q < opsN.length), combT 10 0 opsN[q] [3] = 3 := by
  intro q h
  match q, h with
  | 0, _ => rfl
  | 1, _ => rfl
theorem tE : ∀ q (h : q < opsE.length), combT 10 0 opsE[q] [3, 3] = 3 := by
  intro q h
  match q, h with
  | 0, _ => rfl
  | 1, _ => rfl
theorem tU8 : ∀ q (h : q < units.length), combT 8 0 units[q] [3, 1] = 3 := by
  intro q h
  match q, h with
  | 0, _ => rfl
  | 1, _ => rfl
  | 2, _ => rfl
  | 3, _ => rfl
theorem tU7 : ∀ q (h : q < units.length), combT 7 0 units[q] [3, 1] = 3 := by
  intro q h
  match q, h with
  | 0, _ => rfl
  | 1, _ => rfl
  | 2, _ => rfl
  | 3, _ => rfl
theorem lN1 : ∀ q (h : q < [(1 : Int), 2, 7, 14, 30, 0, 60, 365].length), leafN 1 [(1 : Int), 2, 7, 14, 30, 0, 60, 365][q] [] = 1 := by
  intro q h
  match q, h with
  | 0, _ => rfl
  | 1, _ => rfl
  | 2, _ => rfl
  | 3, _ => rfl
  | 4, _ => rfl
  | 5, _ => rfl
  | 6, _ => rfl
  | 7, _ => rfl
theorem lF1 : ∀ q, q < 5 → ∀ (h : 2 + q < fieldNames.length), leafN 4 0 fieldNames[2 + q] = 1 := by
  intro q hq h
  match q, hq, h with
  | 0, _, _ => rfl
  | 1, _, _ => rfl
  | 2, _, _ => rfl
  | 3, _, _ => rfl
  | 4, _, _ => rfl
theorem lF3 : ∀ q, q < 3 → ∀ (h : q / 2 < fieldNames.length), leafN 4 0 (fieldNames[q / 2]) = 3 := by
  intro q hq h
  match q, hq, h with
  | 0, _, _ => rfl
  | 1, _, _ => rfl
  | 2, _, _ => rfl
theorem lB2 : ∀ q : Nat, q < 2 → leafN 2 (q : Int) [] = 2 := by
  intro q hq
  match q, hq with
  | 0, _ => rfl
  | 1, _ => rfl
theorem lD3 : ∀ q : Nat, q < 200 → leafN 3 (739600 + (q : Int)) [] = 3 := by
  intro q hq
  unfold leafN
  rw [if_neg (by decide), if_neg (by simp), if_neg (by decide), if_neg (by decide), if_pos rfl, if_pos (by omega)]
end Go.Proofs.YtgpibcgebpgmiaaGreatDoor


/-
The parser of expressions, walked: what the calls give, and the step of the induction on the fuel (functions with an unary operator in front, and binary operators).
-/
namespace Go.Eng
open Go Go.RowKit Go.Proofs
set_option linter.unusedVariables false
section
variable {P : Program} {n : Nat} {Q : Exit → Act → World → Prop} {e : Env} {w : World} {ops : Array Oper} {S : List Nat} {Lt : List Nat} {rest : List (Nat × Nat)}
/-- a call in a drawn region that panics for sure -/
theorem WDq_pcall {i d : Nat} {ty : TypeId} {pos : String} {af : Array Edge} {gd : Option (Nat × Bool)} {f : Nat} {fn : Func} {xs : Array Operand} {ts : Array TypeId} {vs : Array Value} {c : Operand} {ch : List PanicEntry} {F : World → Prop} [hf : Fun P f fn]
    (hi : ops[i]? = some ⟨some d, .call { callee := .value c, args := xs, argTypes := ts }, ty, pos, af, gd⟩) (hg : gdOk ops e gd)
    (hc : ev e c = some (.func (.func f) #[] #[])) (hv : ∀ a, Has n e a → xs.map a.eval = vs) (h : Calls P f vs w (fun e w' => e = .panicked ch ∧ F w')) (hdn : Nat.blt d n = true) (k : ∀ w', F w' → WQ n Q (.panic ch) [] w') : WDq P n ops S Lt Q ((i, 2) :: rest) e w :=
  WDq_effP (G := fun _ _ => False) (F := fun ch' w' => ch' = ch ∧ F w') hi hg (OEP_call hc hv (h.mono fun e w' ⟨h1, h2⟩ => by rw [h1]; exact .pan ⟨rfl, h2⟩)) (fun _ _ h => h.elim) hdn (fun ch' w' ⟨h1, h2⟩ => by subst h1; exact k w' h2) (fun _ _ h => h.elim)
end
end Go.Eng
namespace Go.Proofs.YtgpibcgebpgmiaaGreatDoor
open Go Go.Eng Go.RowKit Go.Proofs
set_option linter.unusedVariables false
/-- the contract of the calls of the parser of expressions -/
def ExprC (f : Nat) : Prop := ∀ (l : List Tkn) (hL : Toks l) (m : Int) (c : Eng.Call) (i o : Nat) (r : Out Nd), exprO l f c i o = some r →
  ∀ (X : List Nat) (b : Nat) (tv : Value) (w : World), b ≠ 1 → b ∈ X → (∀ c ∈ X, c < w.heap.size) → w.cell? ⟨1, 0, none⟩ = some (.int .i64 m) → Pd w b tv l i o →
  match c with
  | .expr k => 1 ≤ k → k ≤ 8 → Calls Tryz.prog 119 #[.pointer (some ⟨b, 0, none⟩), .int .i64 (k : Int)] w (PC b w tv l r (fun x v w' => NdV X w' v x))
  | .prim => Calls Tryz.prog 162 #[.pointer (some ⟨b, 0, none⟩)] w (PC b w tv l r (fun x v w' => NdV X w' v x))
  | .loop _ _ => True
theorem buildU (s : Str) (p : Option Addr) (l c : Nat) (w : World) : (Instr.build 36 #[(0, .int .i64 5), (2, str s), (3, .slice p l c)]).run Tryz.prog w = .ok (.agg #[.int .i64 5, .int .i64 0, str s, .slice p l c]) w := by kernel_rfl
theorem buildB (s : Str) (p : Option Addr) (l c : Nat) (w : World) : (Instr.build 36 #[(0, .int .i64 6), (2, str s), (3, .slice p l c)]).run Tryz.prog w = .ok (.agg #[.int .i64 6, .int .i64 0, str s, .slice p l c]) w := by kernel_rfl
/-- a special call: not, or a minus in front -/
theorem exprU (f : Nat) (IH : ExprC f) (l : List Tkn) (hL : Toks l) (m : Int) (k i o : Nat) (r : Out Nd) (hk : k ≤ 8) (hsp : (k = 3 ∧ (cur l i).text = [110, 111, 116]) ∨ (k = 7 ∧ (cur l i).text = [45]))
    (h : (match opensO l (cur l i).text i o with
      | .err a c => some (.err a c)
      | .ok _ i' o' =>
        match exprO l f (.expr k) i' o' with
        | none => none
        | some (.err a c) => some (.err a c)
        | some (.ok x i'' o'') => some (.ok (.mk 5 0 (cur l i).text [x]) i'' (o'' - 1))) = some r) (X : List Nat) (b : Nat) (tv : Value) (w : World) (hb1 : b ≠ 1) (hbX : b ∈ X) (hX : ∀ c ∈ X, c < w.heap.size) (hm : w.cell? ⟨1, 0, none⟩ = some (.int .i64 m)) (hp : Pd w b tv l i o) :
    Calls Tryz.prog 119 #[.pointer (some ⟨b, 0, none⟩), .int .i64 (k : Int)] w (PC b w tv l r (fun x v w' => NdV X w' v x)) := by
  have htn : (cur l i).text ≠ [] := by rcases hsp with ⟨_, h⟩ | ⟨_, h⟩ <;> rw [h] <;> decide
  have hs0 := hp.2.1
  refine calls_of_WC2 (n := 98) Tryz.func119 rfl rfl rfl ?_
  refine W ?_
  refine WL_eff OE_alloc rfl ?_
  rintro _ w1 ⟨b4, rfl, hb4, e4, hS⟩
  have n4 : b4 ≠ b := by have := hp.lt; omega
  replace hm := hS.cell (by simp) hm
  replace hp := hp.up hS
  rcases hsp with ⟨rfl, ht⟩ | ⟨rfl, ht⟩
  · refine W ?_
    refine WL_eff (OE_call rfl (evs1 rfl) (next_any b tv l i o _ hp)) rfl ?_
    rintro _ w2 ⟨rfl, hT⟩
    replace hp := hp.up hT; replace e4 := e4.up hT
    replace hm := hT.cell (by simp) hm
    replace hS := hS.trans hT
    clear hT
    repeat' (first | refine W1 ?_ | (exfalso; omega) | refine WL_split rfl rfl (fun hg => ?_) (fun hg => ?_) | refine WL_splitB rfl rfl (fun hg => ?_) (fun hg => ?_) | refine WC_cond rfl (fun hc => ?_) (fun hc => ?_) | refine WC_condB rfl (fun hc => ?_) (fun hc => ?_))
    all_goals try exact absurd ht (by assumption)
    refine WL_eff (OE_call rfl (evs1 rfl) (next_any b tv l i o _ hp)) rfl ?_
    rintro _ w3 ⟨rfl, hT⟩
    replace hp := hp.up hT; replace e4 := e4.up hT
    replace hm := hT.cell (by simp) hm
    replace hS := hS.trans hT
    clear hT
    refine W ?_
    cases hO : opensO l (cur l i).text i o with
    | err a c =>
      rw [hO] at h
      simp only [Option.some.injEq] at h
      subst h
      refine WL_pcall rfl (evs2 rfl rfl) (PC.falls (opens_any b tv l hL _ htn i o _ hp) hO (hS.mono (by simp))) rfl ?_
      intro w4 hw4
      repeat' (first | refine WQ_then_panic ?_ | refine WQ_block_panic ?_)
      refine WQ_panic ?_
      exact PC.err hw4
    | ok u i1 o1 =>
      have hoo := opensO_open hO
      rw [hO] at h
      simp only at h
      refine WL_eff (OE_call rfl (evs2 rfl rfl) (PC.goes (opens_any b tv l hL _ htn i o _ hp) hO)) rfl ?_
      rintro _ w4 ⟨rfl, hp4, hT⟩
      replace e4 := e4.ext hT (by simpa using n4)
      replace hm := cell_up hm hb1 hT
      have hS4 := (hS.mono (S' := [b]) (by simp)).trans hT
      clear hT hS hp
      have l4 := e4.lt
      have hX4 : ∀ c ∈ b4 :: X, c < w4.heap.size := fun c hc => by
        rcases List.mem_cons.1 hc with rfl | h
        · exact l4
        · exact Nat.lt_of_lt_of_le (hX c h) hS4.size
      refine W ?_
      cases hE : exprO l f (.expr 3) i1 o1 with
      | none => rw [hE] at h; simp at h
      | some r1 =>
        rw [hE] at h
        have hsub := IH l hL m (.expr 3) i1 o1 r1 hE (b4 :: X) b tv w4 hb1 (List.mem_cons_of_mem _ hbX) hX4 hm hp4 (by omega) (by omega)
        cases r1 with
        | err a c =>
          simp only [Option.some.injEq] at h
          subst h
          refine WL_pcall rfl (evs2 rfl rfl) (PC.falls hsub rfl hS4) rfl ?_
          intro w5 hw5
          repeat' (first | refine WQ_then_panic ?_ | refine WQ_block_panic ?_)
          refine WQ_panic ?_
          exact PC.err hw5
        | ok x i2 o2 =>
          have hoe := exprO_open l _ _ _ _ _ _ _ hE
          simp only [Option.some.injEq] at h
          subst h
          refine WL_eff (OE_call rfl (evs2 rfl rfl) (PC.goes hsub rfl)) rfl ?_
          rintro _ w5 ⟨⟨kx, rfl, hx⟩, hp5, hT⟩
          replace e4 := e4.ext hT (by simpa using n4)
          have hX5 : ∀ c ∈ b4 :: X, c < w5.heap.size := fun c hc => Nat.lt_of_lt_of_le (hX4 c hc) hT.size
          have hS5 := hS4.trans hT
          clear hT hS4 hp4 hX4 hsub
          obtain ⟨p0, c0, rfl, -⟩ := id hx
          refine W ?_
          refine WL_eff (OE_buildSlice (vs := [(0, .agg (ndC x (.slice p0 x.kids.length c0)).toArray)]) rfl (buildSN1 _ _ _ _ _ _)) rfl ?_
          intro bv w6 hN
          have hbv : SlV (b4 :: X) w6 bv [x] := hN.slvG (css := [ndC x _]) hX5 rfl rfl rfl (reps1 hx) (by simp [maxLen])
          obtain ⟨bn, rfl, hbn, -, hT⟩ := id hN
          replace e4 := e4.up hT; replace hp5 := hp5.up hT
          have hX6 : ∀ c ∈ b4 :: X, c < w6.heap.size := fun c hc => Nat.lt_of_lt_of_le (hX5 c hc) hT.size
          have hS6 := hS5.trans (hT.mono (by simp))
          clear hT hS5 hX5 hN hx
          apply WL_build (vs := [(0, .int .i64 5), (2, str (cur l i).text), (3, .slice (some ⟨bn, 0, none⟩) 1 1)]) rfl (buildU _ _ _ _) rfl
          refine WL_eff OE_alloc rfl ?_
          rintro _ w7 ⟨b6, rfl, hb6, e6, hT⟩
          have n64 : b6 ≠ b4 := by have := e4.lt; omega
          have n6b : b6 ≠ b := by have := hp5.lt; omega
          refine WL_eff0 (OE_storeA (us := ndC (.mk 5 0 (cur l i).text [x]) (.slice (some ⟨bn, 0, none⟩) 1 1)) rfl rfl rfl rfl (ndC_one hbv) e6 rfl) ?_
          rintro _ w8 ⟨hT2, e6'⟩
          replace hT := hT.own hT2 (fun c hc => .inr (by simp at hc; omega))
          clear hT2 e6
          replace e4 := e4.up hT; replace hp5 := hp5.up hT
          have hS8 := hS6.trans (hT.mono (by simp))
          replace hbv : SlV (b6 :: b4 :: X) w8 (.slice (some ⟨bn, 0, none⟩) 1 1) [x] := hbv.ext hT (by simp) (fun c hc => by
            rcases List.mem_cons.1 hc with rfl | h
            · exact .inr hb6
            · exact .inl h)
          have hb4w : w.heap.size ≤ b4 := hb4
          clear hT hS6 hX6
          obtain ⟨hpb, hps, hpi, hpl, hpo⟩ := id hp5
          refine W ?_
          refine WL_eff0 (OE_store1 (u := .int .i64 ((o2 - 1 : Nat) : Int)) rfl (by show some _ = some _; simp; omega) rfl rfl hpb (by simp)) ?_
          rintro _ w9 ⟨hT, hpb9⟩
          replace hps := hps.ext (X' := [b]) hT (fun c hc => hc) (fun c hc => .inl hc)
          replace e4 := e4.ext hT (by simpa using n4)
          replace e6' := e6'.ext hT (by simpa using n6b)
          replace hbv := hbv.ext (X' := b6 :: b4 :: X) hT (fun c hc => by simp at hc; subst hc; simp [hbX]) (fun c hc => .inl hc)
          have hS9 := hS8.trans hT
          clear hT hS8 hpb hp5
          refine W ?_
          refine WL_eff0 (OE_storeA (us := ndC (.mk 5 0 (cur l i).text [x]) (.slice (some ⟨bn, 0, none⟩) 1 1)) rfl rfl rfl rfl (ndC_one hbv) e4 rfl) ?_
          rintro _ w10 ⟨hT, e4'⟩
          refine W ?_
          refine WQ_retc rfl rfl rfl e4' rfl ?_
          have hl4 := hpb9.lt
          have hSx := hS9.own hT (fun c hc => by simp at hc; subst hc; exact .inr hb4w)
          refine PC.ok ⟨_, rfl, ?_⟩ ⟨hpb9.ext hT (by simpa using n4.symm), hs0.ext hSx (fun c hc => hc) (fun c hc => .inl hc), hpi, hpl, by omega⟩ hSx
          exact (hbv.ext (X' := b6 :: b4 :: X) hT (fun c hc => by simp at hc; simp [hc]) (fun c hc => .inl hc)).wk (fun c hc => by simp [hc])
  · refine W ?_
    refine WL_eff (OE_call rfl (evs1 rfl) (next_any b tv l i o _ hp)) rfl ?_
    rintro _ w2 ⟨rfl, hT⟩
    replace hp := hp.up hT; replace e4 := e4.up hT
    replace hm := hT.cell (by simp) hm
    replace hS := hS.trans hT
    clear hT
    repeat' (first | refine W1 ?_ | (exfalso; omega) | refine WL_split rfl rfl (fun hg => ?_) (fun hg => ?_) | refine WL_splitB rfl rfl (fun hg => ?_) (fun hg => ?_) | refine WC_cond rfl (fun hc => ?_) (fun hc => ?_) | refine WC_condB rfl (fun hc => ?_) (fun hc => ?_))
    all_goals try exact absurd ht (by assumption)
    refine WL_eff (OE_call rfl (evs1 rfl) (next_any b tv l i o _ hp)) rfl ?_
    rintro _ w3 ⟨rfl, hT⟩
    replace hp := hp.up hT; replace e4 := e4.up hT
    replace hm := hT.cell (by simp) hm
    replace hS := hS.trans hT
    clear hT
    refine W ?_
    cases hO : opensO l (cur l i).text i o with
    | err a c =>
      rw [hO] at h
      simp only [Option.some.injEq] at h
      subst h
      refine WL_pcall rfl (evs2 rfl rfl) (PC.falls (opens_any b tv l hL _ htn i o _ hp) hO (hS.mono (by simp))) rfl ?_
      intro w4 hw4
      repeat' (first | refine WQ_then_panic ?_ | refine WQ_block_panic ?_)
      refine WQ_panic ?_
      exact PC.err hw4
    | ok u i1 o1 =>
      have hoo := opensO_open hO
      rw [hO] at h
      simp only at h
      refine WL_eff (OE_call rfl (evs2 rfl rfl) (PC.goes (opens_any b tv l hL _ htn i o _ hp) hO)) rfl ?_
      rintro _ w4 ⟨rfl, hp4, hT⟩
      replace e4 := e4.ext hT (by simpa using n4)
      replace hm := cell_up hm hb1 hT
      have hS4 := (hS.mono (S' := [b]) (by simp)).trans hT
      clear hT hS hp
      have l4 := e4.lt
      have hX4 : ∀ c ∈ b4 :: X, c < w4.heap.size := fun c hc => by
        rcases List.mem_cons.1 hc with rfl | h
        · exact l4
        · exact Nat.lt_of_lt_of_le (hX c h) hS4.size
      refine W ?_
      cases hE : exprO l f (.expr 7) i1 o1 with
      | none => rw [hE] at h; simp at h
      | some r1 =>
        rw [hE] at h
        have hsub := IH l hL m (.expr 7) i1 o1 r1 hE (b4 :: X) b tv w4 hb1 (List.mem_cons_of_mem _ hbX) hX4 hm hp4 (by omega) (by omega)
        cases r1 with
        | err a c =>
          simp only [Option.some.injEq] at h
          subst h
          refine WL_pcall rfl (evs2 rfl rfl) (PC.falls hsub rfl hS4) rfl ?_
          intro w5 hw5
          repeat' (first | refine WQ_then_panic ?_ | refine WQ_block_panic ?_)
          refine WQ_panic ?_
          exact PC.err hw5
        | ok x i2 o2 =>
          have hoe := exprO_open l _ _ _ _ _ _ _ hE
          simp only [Option.some.injEq] at h
          subst h
          refine WL_eff (OE_call rfl (evs2 rfl rfl) (PC.goes hsub rfl)) rfl ?_
          rintro _ w5 ⟨⟨kx, rfl, hx⟩, hp5, hT⟩
          replace e4 := e4.ext hT (by simpa using n4)
          have hX5 : ∀ c ∈ b4 :: X, c < w5.heap.size := fun c hc => Nat.lt_of_lt_of_le (hX4 c hc) hT.size
          have hS5 := hS4.trans hT
          clear hT hS4 hp4 hX4 hsub
          obtain ⟨p0, c0, rfl, -⟩ := id hx
          refine W ?_
          refine WL_eff (OE_buildSlice (vs := [(0, .agg (ndC x (.slice p0 x.kids.length c0)).toArray)]) rfl (buildSN1 _ _ _ _ _ _)) rfl ?_
          intro bv w6 hN
          have hbv : SlV (b4 :: X) w6 bv [x] := hN.slvG (css := [ndC x _]) hX5 rfl rfl rfl (reps1 hx) (by simp [maxLen])
          obtain ⟨bn, rfl, hbn, -, hT⟩ := id hN
          replace e4 := e4.up hT; replace hp5 := hp5.up hT
          have hX6 : ∀ c ∈ b4 :: X, c < w6.heap.size := fun c hc => Nat.lt_of_lt_of_le (hX5 c hc) hT.size
          have hS6 := hS5.trans (hT.mono (by simp))
          clear hT hS5 hX5 hN hx
          apply WL_build (vs := [(0, .int .i64 5), (2, str (cur l i).text), (3, .slice (some ⟨bn, 0, none⟩) 1 1)]) rfl (buildU _ _ _ _) rfl
          refine WL_eff OE_alloc rfl ?_
          rintro _ w7 ⟨b6, rfl, hb6, e6, hT⟩
          have n64 : b6 ≠ b4 := by have := e4.lt; omega
          have n6b : b6 ≠ b := by have := hp5.lt; omega
          refine WL_eff0 (OE_storeA (us := ndC (.mk 5 0 (cur l i).text [x]) (.slice (some ⟨bn, 0, none⟩) 1 1)) rfl rfl rfl rfl (ndC_one hbv) e6 rfl) ?_
          rintro _ w8 ⟨hT2, e6'⟩
          replace hT := hT.own hT2 (fun c hc => .inr (by simp at hc; omega))
          clear hT2 e6
          replace e4 := e4.up hT; replace hp5 := hp5.up hT
          have hS8 := hS6.trans (hT.mono (by simp))
          replace hbv : SlV (b6 :: b4 :: X) w8 (.slice (some ⟨bn, 0, none⟩) 1 1) [x] := hbv.ext hT (by simp) (fun c hc => by
            rcases List.mem_cons.1 hc with rfl | h
            · exact .inr hb6
            · exact .inl h)
          have hb4w : w.heap.size ≤ b4 := hb4
          clear hT hS6 hX6
          obtain ⟨hpb, hps, hpi, hpl, hpo⟩ := id hp5
          refine W ?_
          refine WL_eff0 (OE_store1 (u := .int .i64 ((o2 - 1 : Nat) : Int)) rfl (by show some _ = some _; simp; omega) rfl rfl hpb (by simp)) ?_
          rintro _ w9 ⟨hT, hpb9⟩
          replace hps := hps.ext (X' := [b]) hT (fun c hc => hc) (fun c hc => .inl hc)
          replace e4 := e4.ext hT (by simpa using n4)
          replace e6' := e6'.ext hT (by simpa using n6b)
          replace hbv := hbv.ext (X' := b6 :: b4 :: X) hT (fun c hc => by simp at hc; subst hc; simp [hbX]) (fun c hc => .inl hc)
          have hS9 := hS8.trans hT
          clear hT hS8 hpb hp5
          refine W ?_
          refine WL_eff0 (OE_storeA (us := ndC (.mk 5 0 (cur l i).text [x]) (.slice (some ⟨bn, 0, none⟩) 1 1)) rfl rfl rfl rfl (ndC_one hbv) e4 rfl) ?_
          rintro _ w10 ⟨hT, e4'⟩
          refine W ?_
          refine WQ_retc rfl rfl rfl e4' rfl ?_
          have hl4 := hpb9.lt
          have hSx := hS9.own hT (fun c hc => by simp at hc; subst hc; exact .inr hb4w)
          refine PC.ok ⟨_, rfl, ?_⟩ ⟨hpb9.ext hT (by simpa using n4.symm), hs0.ext hSx (fun c hc => hc) (fun c hc => .inl hc), hpi, hpl, by omega⟩ hSx
          exact (hbv.ext (X' := b6 :: b4 :: X) hT (fun c hc => by simp at hc; simp [hc]) (fun c hc => .inl hc)).wk (fun c hc => by simp [hc])
end Go.Proofs.YtgpibcgebpgmiaaGreatDoor


/-
The parser of expressions, walked: binary operators (one step of the induction on the fuel).
-/
namespace Go.Proofs.YtgpibcgebpgmiaaGreatDoor
open Go Go.Eng Go.RowKit Go.Proofs
set_option linter.unusedVariables false
theorem unitW_nil : ([] : Str) ∉ unitW := by decide
theorem unitC_len : unitC.length ≤ 1000000 := by decide
theorem within_unit (t : Str) (m : Int) (w : World) (hm : w.cell? ⟨1, 0, none⟩ = some (.int .i64 m)) (htl : t.length ≤ 4000) (hsp : ∀ c ∈ t, c ≠ 32) :
    Calls Tryz.prog 118 #[str unitC, str t] w (Ret fun r w' => r = .bool (decide (t ∈ unitW)) ∧ Stp [] w w') :=
  within_any unitC unitW unitW_nil t m w hm unitC_len htl (fun h => unit_iff h hsp)
set_option maxHeartbeats 2000000 in
theorem exprB (f : Nat) (IH : ∀ f' ≤ f, ExprC f') (l : List Tkn) (hL : Toks l) (m : Int) (k i o : Nat) (r : Out Nd) (hk1 : 1 ≤ k) (hk : k ≤ 7) (hsp : ¬ ((k = 3 ∧ (cur l i).text = [110, 111, 116]) ∨ (k = 7 ∧ (cur l i).text = [45])))
    (h : (match exprO l f (.expr (k + 1)) i o with
      | none => none
      | some (.err a c) => some (.err a c)
      | some (.ok x i' o') => exprO l f (.loop k x) i' o') = some r) (X : List Nat) (b : Nat) (tv : Value) (w : World) (hb1 : b ≠ 1) (hbX : b ∈ X) (hX : ∀ c ∈ X, c < w.heap.size) (hm : w.cell? ⟨1, 0, none⟩ = some (.int .i64 m)) (hp : Pd w b tv l i o) :
    Calls Tryz.prog 119 #[.pointer (some ⟨b, 0, none⟩), .int .i64 (k : Int)] w (PC b w tv l r (fun x v w' => NdV X w' v x)) := by
  have hs0 := hp.2.1
  refine calls_of_WC2 (n := 98) Tryz.func119 rfl rfl rfl ?_
  refine W ?_
  refine WL_eff OE_alloc rfl ?_
  rintro _ w1 ⟨b4, rfl, hb4, e4, hS⟩
  have n4 : b4 ≠ b := by have := hp.lt; omega
  replace hm := hS.cell (by simp) hm
  replace hp := hp.up hS
  have hX1 : ∀ c ∈ X, c < w1.heap.size := fun c hc => Nat.lt_of_lt_of_le (hX c hc) hS.size
  refine WL_nil ?_
  refine WQ_then ?_
  refine WC_cut (σ := Unit) (fun _ => [(0, .pointer (some ⟨b, 0, none⟩)), (1, .int .i64 (k : Int)), (4, .pointer (some ⟨b4, 0, none⟩))])
    (fun _ w' => Pd w' b tv l i o ∧ (∃ cs : List Value, cs.length = 4 ∧ Blk w' b4 36 cs) ∧ w'.cell? ⟨1, 0, none⟩ = some (.int .i64 m) ∧ Stp [] w w') ?_ ?_
  · by_cases k3 : k = 3
    · subst k3
      have ht : ¬ (cur l i).text = [110, 111, 116] := fun e => hsp (.inl ⟨rfl, e⟩)
      refine W ?_
      refine WL_eff (OE_call rfl (evs1 rfl) (next_any b tv l i o _ hp)) rfl ?_
      rintro _ w2 ⟨rfl, hT⟩
      replace hp := hp.up hT; replace e4 := e4.up hT
      replace hm := hT.cell (by simp) hm
      replace hS := hS.trans hT
      repeat' (first | refine W1 ?_ | (exfalso; omega) | refine WL_split rfl rfl (fun hg => ?_) (fun hg => ?_) | refine WL_splitB rfl rfl (fun hg => ?_) (fun hg => ?_) | refine WC_cond rfl (fun hc => ?_) (fun hc => ?_) | refine WC_condB rfl (fun hc => ?_) (fun hc => ?_))
      all_goals try exact absurd (by assumption) ht
      exact WQ_cut () ⟨rfl, rfl, rfl, trivial⟩ ⟨hp, ⟨_, rfl, e4⟩, hm, hS⟩
    · by_cases k7 : k = 7
      · subst k7
        have ht : ¬ (cur l i).text = [45] := fun e => hsp (.inr ⟨rfl, e⟩)
        refine W ?_
        refine WL_eff (OE_call rfl (evs1 rfl) (next_any b tv l i o _ hp)) rfl ?_
        rintro _ w2 ⟨rfl, hT⟩
        replace hp := hp.up hT; replace e4 := e4.up hT
        replace hm := hT.cell (by simp) hm
        replace hS := hS.trans hT
        repeat' (first | refine W1 ?_ | (exfalso; omega) | refine WL_split rfl rfl (fun hg => ?_) (fun hg => ?_) | refine WL_splitB rfl rfl (fun hg => ?_) (fun hg => ?_) | refine WC_cond rfl (fun hc => ?_) (fun hc => ?_) | refine WC_condB rfl (fun hc => ?_) (fun hc => ?_))
        all_goals try exact absurd (by assumption) ht
        exact WQ_cut () ⟨rfl, rfl, rfl, trivial⟩ ⟨hp, ⟨_, rfl, e4⟩, hm, hS⟩
      · repeat' (first | refine W1 ?_ | (exfalso; omega) | refine WL_split rfl rfl (fun hg => ?_) (fun hg => ?_) | refine WL_splitB rfl rfl (fun hg => ?_) (fun hg => ?_) | refine WC_cond rfl (fun hc => ?_) (fun hc => ?_) | refine WC_condB rfl (fun hc => ?_) (fun hc => ?_))
        exact WQ_cut () ⟨rfl, rfl, rfl, trivial⟩ ⟨hp, ⟨_, rfl, e4⟩, hm, hS⟩
  clear hp e4 hm hS
  rintro _ w2 ⟨hp, ⟨cs4, hc4, e4⟩, hm, hS⟩
  have l4 := e4.lt
  have hX2 : ∀ c ∈ b4 :: X, c < w2.heap.size := fun c hc => by
    rcases List.mem_cons.1 hc with rfl | h
    · exact l4
    · exact Nat.lt_of_lt_of_le (hX c h) hS.size
  refine W ?_
  cases hE : exprO l f (.expr (k + 1)) i o with
  | none => rw [hE] at h; simp at h
  | some r1 =>
    rw [hE] at h
    have hsub := IH f (Nat.le_refl _) l hL m (.expr (k + 1)) i o r1 hE (b4 :: X) b tv w2 hb1 (List.mem_cons_of_mem _ hbX) hX2 hm hp (by omega) (by omega)
    cases r1 with
    | err a c =>
      simp only [Option.some.injEq] at h
      subst h
      refine WL_pcall rfl (evs2 rfl rfl) (PC.falls hsub rfl (hS.mono (by simp))) rfl ?_
      intro w3 hw3
      repeat' (first | refine WQ_then_panic ?_ | refine WQ_block_panic ?_)
      refine WQ_panic ?_
      exact PC.err hw3
    | ok x i1 o1 =>
      simp only at h
      refine WL_eff (OE_call rfl (evs2 rfl rfl) (PC.goes hsub rfl)) rfl ?_
      rintro _ w3 ⟨⟨kx, rfl, hx⟩, hp3, hT⟩
      replace e4 := e4.ext hT (by simpa using n4)
      replace hm := cell_up hm hb1 hT
      have hX3 : ∀ c ∈ b4 :: X, c < w3.heap.size := fun c hc => Nat.lt_of_lt_of_le (hX2 c hc) hT.size
      have hS3 := (hS.mono (S' := [b]) (by simp)).trans hT
      clear hT hS hp hX2 hsub
      refine WL_eff OE_alloc rfl ?_
      rintro _ w4 ⟨b7, rfl, hb7, e7, hT⟩
      have n74 : b7 ≠ b4 := by have := e4.lt; omega
      have n7b : b7 ≠ b := by have := hp3.lt; omega
      have n71 : b7 ≠ 1 := by have := block_lt_of_cell hm; simp at this; omega
      refine WL_eff0 (OE_storeA (us := ndC x kx) rfl rfl rfl rfl (ndC_one hx) e7 rfl) ?_
      rintro _ w5 ⟨hT2, e7'⟩
      replace hT := hT.own hT2 (fun c hc => .inr (by simp at hc; omega))
      clear hT2 e7
      have hb7w : w.heap.size ≤ b7 := Nat.le_trans hS3.size hb7
      have hb4w : w.heap.size ≤ b4 := hb4
      replace e4 := e4.up hT; replace hp3 := hp3.up hT
      replace hm := hT.cell (by simp) hm
      replace hx : SlV (b7 :: b4 :: X) w5 kx x.kids := hx.ext hT (by simp) (fun c hc => by
        rcases List.mem_cons.1 hc with rfl | h
        · exact .inr hb7
        · exact .inl h)
      have hS5 := hS3.trans (hT.mono (by simp))
      clear hT hS3
      have l7 := e7'.lt
      have hX5 : ∀ c ∈ b7 :: b4 :: X, c < w5.heap.size := fun c hc => by
        rcases List.mem_cons.1 hc with rfl | h
        · exact l7
        · have := hX3 c h; omega
      refine W ?_
      clear hX3 hE
      refine WC_loop (σ := Nat × Nd × Value × Nat × Nat) (fun q => [(0, .pointer (some ⟨b, 0, none⟩)), (1, .int .i64 (k : Int)), (4, .pointer (some ⟨b4, 0, none⟩)), (7, .pointer (some ⟨b7, 0, none⟩))])
        (fun q w' => exprO l q.1 (.loop k q.2.1) q.2.2.2.1 q.2.2.2.2 = some r ∧ q.1 ≤ f ∧ Pd w' b tv l q.2.2.2.1 q.2.2.2.2 ∧ Blk w' b7 36 (ndC q.2.1 q.2.2.1) ∧ SlV (b7 :: b4 :: X) w' q.2.2.1 q.2.1.kids ∧ (∃ cs : List Value, cs.length = 4 ∧ Blk w' b4 36 cs) ∧ w'.cell? ⟨1, 0, none⟩ = some (.int .i64 m) ∧ Stp [b] w w' ∧ w5.heap.size ≤ w'.heap.size)
        (fun q => q.1) (f, x, kx, i1, o1) ⟨rfl, rfl, rfl, rfl, trivial⟩ ⟨h, Nat.le_refl _, hp3, e7', hx, ⟨cs4, hc4, e4⟩, hm, hS5, Nat.le_refl _⟩ ?_
      clear h hp3 e7' hx e4 hm hS5 l4 l7 hc4 cs4
      rintro ⟨f1, y, ky, i2, o2⟩ w6 ⟨h, hf1, hp, e7, hy, ⟨cs4, hc4, e4⟩, hm, hS, h56⟩
      dsimp only at h hf1 hp e7 hy ⊢
      match cs4, hc4 with
      | [q0, q1, q2, q3], _ =>
      cases f1 with
      | zero => simp [exprO] at h
      | succ f1 =>
      rw [exprO] at h
      refine W ?_
      refine WL_eff (OE_call rfl (evs1 rfl) (next_any b tv l i2 o2 _ hp)) rfl ?_
      rintro _ w7 ⟨rfl, hT⟩
      replace hp := hp.up hT; replace e4 := e4.up hT; replace e7 := e7.up hT; replace hy := hy.up hT
      replace hm := hT.cell (by simp) hm
      replace hS := hS.trans (hT.mono (by simp))
      replace h56 := Nat.le_trans h56 hT.size
      clear hT
      refine W ?_
      refine WL_eff (OE_call rfl (evs1 rfl) (levelOf_any _ _)) rfl ?_
      rintro _ _ ⟨rfl, rfl⟩
      by_cases hlv : levelO (cur l i2).text = k
      · rw [if_pos hlv] at h
        have hi1 := hL.end_of hp.i_lt (levelO_nil hlv hk1)
        repeat' (first | refine W1 ?_ | (exfalso; omega) | refine WL_split rfl rfl (fun hg => ?_) (fun hg => ?_) | refine WL_splitB rfl rfl (fun hg => ?_) (fun hg => ?_) | refine WC_cond rfl (fun hc => ?_) (fun hc => ?_) | refine WC_condB rfl (fun hc => ?_) (fun hc => ?_))
        refine WL_eff (OE_call rfl (evs1 rfl) (next_any b tv l i2 o2 _ hp)) rfl ?_
        rintro _ w8 ⟨rfl, hT⟩
        replace hp := hp.up hT; replace e4 := e4.up hT; replace e7 := e7.up hT; replace hy := hy.up hT
        replace hm := hT.cell (by simp) hm
        replace hS := hS.trans (hT.mono (by simp))
        replace h56 := Nat.le_trans h56 hT.size
        clear hT
        obtain ⟨hpb, hps, hpi, hpl, hpo⟩ := id hp
        refine W ?_
        refine WL_eff0 (OE_store1 (u := .int .i64 ((i2 + 1 : Nat) : Int)) rfl (by show some _ = some _; simp) rfl rfl hpb (by simp)) ?_
        rintro _ w9 ⟨hT, hpb9⟩
        replace hps := hps.ext (X' := [b]) hT (fun c hc => hc) (fun c hc => .inl hc)
        replace e4 := e4.ext hT (by simpa using n4)
        replace e7 := e7.ext hT (by simpa using n7b)
        replace hy := hy.ext (X' := b7 :: b4 :: X) hT (fun c hc => by simp at hc; subst hc; simp [hbX]) (fun c hc => .inl hc)
        replace hm := cell_up hm hb1 hT
        replace hS := hS.trans hT
        replace h56 := Nat.le_trans h56 hT.size
        replace hp : Pd w9 b tv l (i2 + 1) o2 := ⟨hpb9, hps, hi1, hpl, hpo⟩
        clear hT hpb9 hps hpi hpl hpo hpb
        refine W ?_
        have hX9 : ∀ c ∈ b7 :: b4 :: X, c < w9.heap.size := fun c hc => Nat.lt_of_lt_of_le (hX5 c hc) h56
        cases hE : exprO l f1 (.expr (k + 1)) (i2 + 1) o2 with
        | none => rw [hE] at h; simp at h
        | some r2 =>
          rw [hE] at h
          cases r2 with
          | err a c =>
            simp only [Option.some.injEq] at h
            subst h
            refine WC_drawnq 9 ([b]) [8] [(0, 0), (1, 1), (2, 0), (3, 0), (4, 0), (5, 2), (6, 2), (7, 0), (8, 2)] rfl mixed (by kernel_rfl) (by kernel_rfl) (by kernel_rfl) (fun w1 hS1 => ?_)
            replace hp := hp.up hS1; replace e7 := e7.up hS1
            replace hm := hS1.cell (by simp) hm
            replace hS := hS.trans (hS1.mono (by simp))
            have hsub := IH f1 (by omega) l hL m (.expr (k + 1)) (i2 + 1) o2 _ hE (b7 :: b4 :: X) b tv w1 hb1 (by simp [hbX]) (fun c hc => Nat.lt_of_lt_of_le (hX9 c hc) hS1.size) hm hp (by omega) (by omega)
            refine WDq_free rfl trivial (fun _ => PR_move rfl) rfl ?_
            refine WDq_read rfl trivial (fun w' hw => PR_load_blkA rfl rfl (e7.ext hw (by simpa using n7b)) rfl) rfl ?_
            refine WDq_free rfl trivial (fun _ => PR_move rfl) rfl ?_
            refine WDq_free rfl trivial (fun _ => PR_move rfl) rfl ?_
            refine WDq_free rfl trivial (fun _ => PR_add rfl rfl (by unfold I64; omega)) rfl ?_
            refine WDq_pcall rfl trivial rfl (evs2 rfl rfl) (PC.falls hsub rfl hS) rfl ?_
            intro wz hwz
            repeat' (first | refine WQ_then_panic ?_ | refine WQ_block_panic ?_)
            refine WQ_panic ?_
            exact PC.err hwz
          | ok z i3 o3 =>
            simp only at h
            refine WC_drawn 9 ([b]) [8] [(0, 0), (1, 1), (2, 0), (3, 0), (4, 0), (5, 2), (6, 2), (7, 0), (8, 2)] rfl mixed (by kernel_rfl) (by kernel_rfl) (by kernel_rfl) (fun w1 hS1 => ?_)
            replace hp := hp.up hS1; replace e7 := e7.up hS1; replace hy := hy.up hS1; replace e4 := e4.up hS1
            replace hm := hS1.cell (by simp) hm
            replace hS := hS.trans (hS1.mono (by simp))
            have h5x := Nat.le_trans h56 hS1.size
            have hX1 : ∀ c ∈ b7 :: b4 :: X, c < w1.heap.size := fun c hc => Nat.lt_of_lt_of_le (hX9 c hc) hS1.size
            have hsub := IH f1 (by omega) l hL m (.expr (k + 1)) (i2 + 1) o2 _ hE (b7 :: b4 :: X) b tv w1 hb1 (by simp [hbX]) hX1 hm hp (by omega) (by omega)
            clear hS1 hX9 h56
            refine D ?_
            refine WD_eff rfl trivial (OE_call rfl (evs2 rfl rfl) (PC.goes hsub rfl)) (fun _ _ h => h.2.2) rfl ?_
            rintro _ w10 ⟨⟨kz, rfl, hz⟩, hp10, hT⟩
            replace e4 := e4.ext hT (by simpa using n4)
            replace e7 := e7.ext hT (by simpa using n7b)
            replace hy := hy.ext (X' := b7 :: b4 :: X) hT (fun c hc => by simp at hc; subst hc; simp [hbX]) (fun c hc => .inl hc)
            replace hm := cell_up hm hb1 hT
            replace hS := hS.trans hT
            have h510 := Nat.le_trans h5x hT.size
            have hX10 : ∀ c ∈ b7 :: b4 :: X, c < w10.heap.size := fun c hc => Nat.lt_of_lt_of_le (hX1 c hc) hT.size
            clear hT hp hX1 h5x hsub
            obtain ⟨py, cy, rfl, -⟩ := id hy
            obtain ⟨pz, cz, rfl, -⟩ := id hz
            refine WD_eff rfl trivial (OE_buildSlice (vs := [(0, .agg (ndC y (.slice py y.kids.length cy)).toArray), (1, .agg (ndC z (.slice pz z.kids.length cz)).toArray)]) rfl (buildSN2 _ _ _ _ _ _ _ _ _ _ _ _)) (fun _ _ h => (NewSl.stp h).mono (by simp)) rfl ?_
            intro bv w11 hN
            have hbv : SlV (b7 :: b4 :: X) w11 bv [y, z] := hN.slvG (css := [ndC y _, ndC z _]) hX10 rfl rfl rfl (reps2 hy hz) (by simp [maxLen])
            obtain ⟨bn, rfl, hbn, -, hT⟩ := id hN
            replace hp10 := hp10.up hT; replace e4 := e4.up hT; replace e7 := e7.up hT
            replace hm := hT.cell (by simp) hm
            replace hS := hS.trans (hT.mono (by simp))
            have h511 := Nat.le_trans h510 hT.size
            clear hT hN hX10 h510 hy hz
            refine WF_build rfl trivial (vs := [(0, .int .i64 6), (2, str (cur l i2).text), (3, .slice (some ⟨bn, 0, none⟩) 2 2)]) rfl (buildB _ _ _ _) rfl ?_
            refine WD_late0 rfl trivial (OE_storeA (us := ndC (.mk 6 0 (cur l i2).text [y, z]) (.slice (some ⟨bn, 0, none⟩) 2 2)) rfl rfl rfl rfl (ndC_one hbv) e7 rfl) rfl ?_
            rintro _ w12 ⟨hT, e7'⟩
            have hb7x : ∀ S : List Nat, S = [b7] → ∀ c ∈ S, w.heap.size ≤ c := fun S hS c hc => by subst hS; simp at hc; subst hc; exact hb7w
            replace e4 := e4.ext hT (by simpa using n74.symm)
            replace hp10 : Pd w12 b tv l i3 o3 := by
              obtain ⟨g1, g2, g3, g4, g5⟩ := hp10
              have hSx := hS.own hT (fun c hc => .inr (hb7x _ rfl c hc))
              exact ⟨g1.ext hT (by simpa using n7b.symm), hs0.ext hSx (fun c hc => hc) (fun c hc => .inl hc), g3, g4, g5⟩
            replace hbv := hbv.ext (X' := b7 :: b4 :: X) hT (fun c hc => by simp at hc; simp [hc]) (fun c hc => .inl hc)
            replace hm := hT.cell (by simpa using n71.symm) hm
            replace hS := hS.own hT (fun c hc => .inr (hb7x _ rfl c hc))
            have h512 := Nat.le_trans h511 hT.size
            clear hT h511
            refine D ?_
            by_cases k5 : k = 5
            · subst k5
              refine W ?_
              refine WL_eff (OE_call rfl (evs1 rfl) (next_any b tv l i3 o3 _ hp10)) rfl ?_
              rintro _ w13 ⟨rfl, hT⟩
              replace hp10 := hp10.up hT; replace e4 := e4.up hT; replace e7' := e7'.up hT; replace hbv := hbv.up hT
              replace hm := hT.cell (by simp) hm
              replace hS := hS.trans (hT.mono (by simp))
              replace h512 := Nat.le_trans h512 hT.size
              clear hT
              refine W ?_
              refine WL_eff (OE_call rfl (evs2 rfl rfl) (within_unit (cur l i3).text m _ hm (hL.tl i3) (hL.sp i3))) rfl ?_
              rintro _ w14 ⟨rfl, hT⟩
              replace hp10 := hp10.up hT; replace e4 := e4.up hT; replace e7' := e7'.up hT; replace hbv := hbv.up hT
              replace hm := hT.cell (by simp) hm
              replace hS := hS.trans (hT.mono (by simp))
              replace h512 := Nat.le_trans h512 hT.size
              clear hT
              by_cases hu : (cur l i3).text ∈ unitW
              · rw [if_pos ⟨rfl, hu⟩] at h
                rw [decide_eq_true hu]
                have hi3 := hL.end_of hp10.i_lt (fun e => unitW_nil (e ▸ hu))
                refine W ?_
                refine WL_eff (OE_call rfl (evs1 rfl) (next_any b tv l i3 o3 _ hp10)) rfl ?_
                rintro _ w15 ⟨rfl, hT⟩
                replace hp10 := hp10.up hT; replace e4 := e4.up hT; replace e7' := e7'.up hT; replace hbv := hbv.up hT
                replace hm := hT.cell (by simp) hm
                replace hS := hS.trans (hT.mono (by simp))
                replace h512 := Nat.le_trans h512 hT.size
                clear hT
                refine W ?_
                refine WL_eff0 (OE_store1 (u := .int .i64 7) rfl rfl rfl rfl e7' (by simp)) ?_
                rintro _ w16 ⟨hT, e7''⟩
                refine W ?_
                refine WL_eff0 (OE_store1 (u := str (cur l i3).text) rfl rfl rfl rfl e7'' (by simp)) ?_
                rintro _ w17 ⟨hT', e7q⟩
                replace hT := hT.trans hT'
                replace e7q : Blk w17 b7 36 (ndC (.mk 7 0 (cur l i3).text [y, z]) (.slice (some ⟨bn, 0, none⟩) 2 2)) := e7q
                clear hT' e7' e7''
                replace e4 := e4.ext hT (by simpa using n74.symm)
                replace hp10 : Pd w17 b tv l i3 o3 := by
                  obtain ⟨g1, g2, g3, g4, g5⟩ := hp10
                  have hSx := hS.own hT (fun c hc => .inr (hb7x _ rfl c hc))
                  exact ⟨g1.ext hT (by simpa using n7b.symm), hs0.ext hSx (fun c hc => hc) (fun c hc => .inl hc), g3, g4, g5⟩
                replace hbv := hbv.ext (X' := b7 :: b4 :: X) hT (fun c hc => by simp at hc; simp [hc]) (fun c hc => .inl hc)
                replace hm := hT.cell (by simpa using n71.symm) hm
                replace hS := hS.own hT (fun c hc => .inr (hb7x _ rfl c hc))
                replace h512 := Nat.le_trans h512 hT.size
                clear hT
                refine W ?_
                refine WC_cutQ (σ := Unit) (fun _ => [(0, .pointer (some ⟨b, 0, none⟩)), (1, .int .i64 (5 : Int)), (4, .pointer (some ⟨b4, 0, none⟩)), (7, .pointer (some ⟨b7, 0, none⟩))])
                  (fun _ w' => Blk w' b7 36 (ndC (.mk (if (cur l i2).text = [45] then 8 else 7) 0 (cur l i3).text [y, z]) (.slice (some ⟨bn, 0, none⟩) 2 2)) ∧ Stp [b7] w17 w') ?_ ?_
                · by_cases hm8 : (cur l i2).text = [45]
                  · rw [if_pos hm8]
                    repeat' (first | refine W1 ?_ | (exfalso; omega) | refine WL_split rfl rfl (fun hg => ?_) (fun hg => ?_) | refine WL_splitB rfl rfl (fun hg => ?_) (fun hg => ?_) | refine WC_cond rfl (fun hc => ?_) (fun hc => ?_) | refine WC_condB rfl (fun hc => ?_) (fun hc => ?_))
                    · refine WL_eff0 (OE_store1 (u := .int .i64 8) rfl rfl rfl rfl e7q (by simp)) ?_
                      rintro _ w18 ⟨hT, e8⟩
                      refine W ?_
                      exact WQ_cut () ⟨rfl, rfl, rfl, rfl, trivial⟩ ⟨e8, hT⟩
                    · exact absurd hm8 (by assumption)
                  · rw [if_neg hm8]
                    repeat' (first | refine W1 ?_ | (exfalso; omega) | refine WL_split rfl rfl (fun hg => ?_) (fun hg => ?_) | refine WL_splitB rfl rfl (fun hg => ?_) (fun hg => ?_) | refine WC_cond rfl (fun hc => ?_) (fun hc => ?_) | refine WC_condB rfl (fun hc => ?_) (fun hc => ?_))
                    · exact absurd (by assumption) hm8
                    · exact WQ_cut () ⟨rfl, rfl, rfl, rfl, trivial⟩ ⟨e7q, Stp.refl _ _⟩
                rintro _ w18 ⟨e8, hT⟩
                replace e4 := e4.ext hT (by simpa using n74.symm)
                replace hp10 : Pd w18 b tv l i3 o3 := by
                  obtain ⟨g1, g2, g3, g4, g5⟩ := hp10
                  have hSx := hS.own hT (fun c hc => .inr (hb7x _ rfl c hc))
                  exact ⟨g1.ext hT (by simpa using n7b.symm), hs0.ext hSx (fun c hc => hc) (fun c hc => .inl hc), g3, g4, g5⟩
                replace hbv := hbv.ext (X' := b7 :: b4 :: X) hT (fun c hc => by simp at hc; simp [hc]) (fun c hc => .inl hc)
                replace hm := hT.cell (by simpa using n71.symm) hm
                replace hS := hS.own hT (fun c hc => .inr (hb7x _ rfl c hc))
                replace h512 := Nat.le_trans h512 hT.size
                clear hT e7q
                obtain ⟨hpb, hps, hpi, hpl, hpo⟩ := id hp10
                refine W ?_
                refine WL_eff0 (OE_store1 (u := .int .i64 ((i3 + 1 : Nat) : Int)) rfl (by show some _ = some _; simp) rfl rfl hpb (by simp)) ?_
                rintro _ w19 ⟨hT, hpb9⟩
                replace hps := hps.ext (X' := [b]) hT (fun c hc => hc) (fun c hc => .inl hc)
                replace e4 := e4.ext hT (by simpa using n4)
                replace e8 := e8.ext hT (by simpa using n7b)
                replace hbv := hbv.ext (X' := b7 :: b4 :: X) hT (fun c hc => by simp at hc; subst hc; simp [hbX]) (fun c hc => .inl hc)
                replace hm := cell_up hm hb1 hT
                replace hS := hS.trans hT
                replace h512 := Nat.le_trans h512 hT.size
                refine W ?_
                exact WQ_loop (f1, .mk (if (cur l i2).text = [45] then 8 else 7) 0 (cur l i3).text [y, z], .slice (some ⟨bn, 0, none⟩) 2 2, i3 + 1, o3) ⟨rfl, rfl, rfl, rfl, trivial⟩ ⟨h, by omega, ⟨hpb9, hps, hi3, hpl, hpo⟩, e8, hbv, ⟨_, rfl, e4⟩, hm, hS, h512⟩ (by omega)
              · rw [if_neg (fun h => hu h.2), if_neg (by omega)] at h
                rw [decide_eq_false hu]
                refine W ?_
                exact WQ_loop (f1, .mk 6 0 (cur l i2).text [y, z], .slice (some ⟨bn, 0, none⟩) 2 2, i3, o3) ⟨rfl, rfl, rfl, rfl, trivial⟩ ⟨h, by omega, hp10, e7', hbv, ⟨_, rfl, e4⟩, hm, hS, h512⟩ (by omega)
            · rw [if_neg (fun h => k5 h.1)] at h
              by_cases k4 : k = 4
              · rw [if_pos k4] at h
                subst k4
                simp only [Option.some.injEq] at h
                subst h
                have e7 := e7'
                replace hp := hp10
                skip
                refine W ?_
                refine WL_eff0 (OE_storeA (us := ndC (.mk 6 0 (cur l i2).text [y, z]) (.slice (some ⟨bn, 0, none⟩) 2 2)) rfl rfl rfl rfl (ndC_one hbv) e4 rfl) ?_
                rintro _ wz ⟨hT, e4'⟩
                refine W ?_
                refine WQ_retc rfl rfl rfl e4' rfl ?_
                obtain ⟨hpb, hps, hpi, hpl, hpo⟩ := id hp
                have hSx := hS.own hT (fun c hc => by simp at hc; subst hc; exact .inr hb4w)
                refine PC.ok ⟨_, rfl, ?_⟩ ⟨hpb.ext hT (by simpa using n4.symm), hs0.ext hSx (fun c hc => hc) (fun c hc => .inl hc), hpi, hpl, hpo⟩ hSx
                exact (hbv.ext (X' := b7 :: b4 :: X) hT (fun c hc => by simp at hc; simp [hc]) (fun c hc => .inl hc)).wk (fun c hc => by simp [hc])
              · rw [if_neg k4] at h
                repeat' (first | refine W1 ?_ | (exfalso; omega) | refine WL_split rfl rfl (fun hg => ?_) (fun hg => ?_) | refine WL_splitB rfl rfl (fun hg => ?_) (fun hg => ?_) | refine WC_cond rfl (fun hc => ?_) (fun hc => ?_) | refine WC_condB rfl (fun hc => ?_) (fun hc => ?_))
                exact WQ_loop (f1, .mk 6 0 (cur l i2).text [y, z], .slice (some ⟨bn, 0, none⟩) 2 2, i3, o3) ⟨rfl, rfl, rfl, rfl, trivial⟩ ⟨h, by omega, hp10, e7', hbv, ⟨_, rfl, e4⟩, hm, hS, h512⟩ (by omega)
      · rw [if_neg hlv] at h
        simp only [Option.some.injEq] at h
        subst h
        repeat' (first | refine W1 ?_ | (exfalso; omega) | refine WL_split rfl rfl (fun hg => ?_) (fun hg => ?_) | refine WL_splitB rfl rfl (fun hg => ?_) (fun hg => ?_) | refine WC_cond rfl (fun hc => ?_) (fun hc => ?_) | refine WC_condB rfl (fun hc => ?_) (fun hc => ?_))
        skip
        refine W ?_
        refine WL_eff0 (OE_storeA (us := ndC y ky) rfl rfl rfl rfl (ndC_one hy) e4 rfl) ?_
        rintro _ wz ⟨hT, e4'⟩
        refine W ?_
        refine WQ_retc rfl rfl rfl e4' rfl ?_
        obtain ⟨hpb, hps, hpi, hpl, hpo⟩ := id hp
        have hSx := hS.own hT (fun c hc => by simp at hc; subst hc; exact .inr hb4w)
        refine PC.ok ⟨_, rfl, ?_⟩ ⟨hpb.ext hT (by simpa using n4.symm), hs0.ext hSx (fun c hc => hc) (fun c hc => .inl hc), hpi, hpl, hpo⟩ hSx
        exact (hy.ext (X' := b7 :: b4 :: X) hT (fun c hc => by simp at hc; simp [hc]) (fun c hc => .inl hc)).wk (fun c hc => by simp [hc])
end Go.Proofs.YtgpibcgebpgmiaaGreatDoor


/-
The parser of expressions, walked: functions and their arguments, choices (one step of the induction on the fuel).
-/
namespace Go.Eng
open Go Go.RowKit Go.Proofs
set_option linter.unusedVariables false
theorem flatten_lenG {k : Nat} : ∀ (l : List (List Value)), (∀ c ∈ l, c.length = k) → l.flatten.length = l.length * k
  | [], _ => by simp
  | c :: r, h => by
    simp only [List.flatten_cons, List.length_append, List.length_cons, Nat.succ_mul]
    rw [flatten_lenG r (fun c hc => h c (by simp [hc])), h c (by simp)]
    omega
/-- a new slice as the beginning of a row -/
theorem NewSl.rowG {α : Type} [GoRep α] {w w' : World} {X : List Nat} {T len base : Nat} {cs : List Value} {v : Value} {ys : List α} {css : List (List Value)} (h : NewSl w T len cs v w') (hX : ∀ b ∈ X, b < w.heap.size) (hbase : base ≤ w.heap.size) (hl : len = ys.length) (hcl : css.length = ys.length)
    (hc : cs = css.flatten) (hr : ∀ i (hi : i < ys.length) (hi' : i < css.length), GoRep.rep X w ys[i] css[i]) (hm : ys.length ≤ maxLen) : Row X w' base T v ys := by
  obtain ⟨b, rfl, hb, hblk, hS⟩ := h
  subst hl
  subst hc
  have hk : ∀ c ∈ css, c.length = GoRep.k α := by
    intro c hc
    obtain ⟨i, hi, rfl⟩ := List.getElem_of_mem hc
    exact GoRep.len (hr i (by omega) hi)
  have hfl : css.flatten.length = ys.length * GoRep.k α := by rw [flatten_lenG css hk, hcl]
  refine ⟨css, hcl, fun i hi hi' => GoRep.ext (hr i hi hi') hS (by simp) (fun c hc => ?_), hfl, .inr ⟨b, ys.length, css.flatten.toArray, rfl, by omega, hblk, Nat.le_refl _, hm, by rw [List.size_toArray]; exact hfl, ?_⟩⟩
  · rcases List.mem_append.1 hc with hc | hc
    · simp only [ob, List.mem_singleton] at hc
      exact .inr (by omega)
    · exact .inl hc
  · exact List.take_of_length_le (by show css.flatten.length ≤ _; rw [hfl]; exact Nat.le_refl _)
/-- a row reads as a slice, whatever does not meet its block being set apart -/
theorem Row.slvN {α : Type} [GoRep α] {X : List Nat} {w : World} {base T : Nat} {v : Value} {xs : List α} (h : Row X w base T v xs) (hX : ∀ b ∈ X, b ∉ ob v) : SlV X w v xs := by
  obtain ⟨css, hl, hr, ho⟩ := h
  have hk : ∀ c ∈ css, c.length = GoRep.k α := by
    intro c hc
    obtain ⟨i, hi, rfl⟩ := List.getElem_of_mem hc
    exact GoRep.len (hr i (by omega) hi)
  rcases ho.2 with ⟨rfl, hn⟩ | ⟨q, cap, cur, rfl, hb, hg, hnc, hcm, hcs, ht⟩
  · exact ⟨none, 0, by rw [hn], by omega, by simp [maxLen], fun _ => rfl, fun i hi => by omega⟩
  · refine ⟨some ⟨q, 0, none⟩, cap, rfl, hnc, hcm, fun h => by simp at h, fun i hi => ?_⟩
    refine ⟨q, 0, css[i]'(by omega), rfl, (Array.getElem?_eq_some_iff.1 hg).1, fun hx => hX q hx (by simp [ob]), ?_, fun j u hu => ?_⟩
    · exact GoRep.ext (hr i hi (by omega)) (Stp.refl [] w) (by simp) (fun b hb => .inl (by simp [hb]))
    · have h1 := flatten_at css hk i (by omega) j u hu
      rw [← ht, List.getElem?_take] at h1
      split at h1
      · have h2 : cur[i * GoRep.k α + j]? = some u := by simpa using h1
        rw [Nat.zero_add, cell_of_row w q _ cur T (0, 0) hg]
        exact h2
      · cases h1
end Go.Eng
namespace Go.Proofs.YtgpibcgebpgmiaaGreatDoor
open Go Go.Eng Go.RowKit Go.Proofs
set_option linter.unusedVariables false
theorem nilSlvN {α : Type} [GoRep α] (X : List Nat) (w : World) : SlV (α := α) X w (.slice none 0 0) [] := ⟨none, 0, rfl, Nat.le_refl _, by simp [maxLen], fun _ => rfl, fun i hi => absurd hi (Nat.not_lt_zero _)⟩
theorem buildC (s : Str) (w : World) : (Instr.build 36 #[(0, .int .i64 10), (2, str s)]).run Tryz.prog w = .ok (.agg #[.int .i64 10, .int .i64 0, str s, .slice none 0 0]) w := by kernel_rfl
theorem buildI9 (p : Option Addr) (l c : Nat) (w : World) : (Instr.build 36 #[(0, .int .i64 9), (3, .slice p l c)]).run Tryz.prog w = .ok (.agg #[.int .i64 9, .int .i64 0, str [], .slice p l c]) w := by kernel_rfl
theorem buildTE (a b : Str) (w : World) : (Instr.buildSlice 56 2 #[(0, str a), (1, str b)]).run Tryz.prog w = .ok (.slice (some ⟨w.heap.size, 0, none⟩) 2 2) (w.alloc (.cells #[str a, str b] 9)) := by kernel_rfl
theorem funcW_nil : ([] : Str) ∉ funcW := by decide
theorem argsO_le (s : Str) : argsO s ≤ 2 := by unfold argsO; split <;> omega
theorem Blk.slv2 {w : World} {bw T : Nat} {a c : Str} (h : Blk w bw T [str a, str c]) : SlV (α := Str) [] w (.slice (some ⟨bw, 0, none⟩) 2 2) [a, c] := by
  refine ⟨some ⟨bw, 0, none⟩, 2, rfl, Nat.le_refl _, by simp [maxLen], fun h => by simp at h, fun i hi => ⟨bw, 0, [str ([a, c][i])], rfl, h.lt, by simp, rfl, fun j u hu => h.cell ?_⟩⟩
  have hi2 : i < 2 := hi
  rcases (by omega : i = 0 ∨ i = 1) with rfl | rfl
  · cases j with
    | zero => exact hu
    | succ j => simp at hu
  · cases j with
    | zero => exact hu
    | succ j => simp at hu
theorem row_cells {α : Type} [GoRep α] {X : List Nat} {w : World} {base T : Nat} {v : Value} {xs : List α} (h : Row X w base T v xs) : v.cells.toList = [v] := by
  obtain ⟨css, _, _, ho⟩ := h
  rcases ho.2 with ⟨rfl, hn⟩ | ⟨q, cap, cur, rfl, _⟩ <;> rfl
theorem row_one {α : Type} [GoRep α] {X : List Nat} {w : World} {base T : Nat} {v : Value} {xs : List α} (h : Row X w base T v xs) : v.oneCell' = true := by
  obtain ⟨css, _, _, ho⟩ := h
  rcases ho.2 with ⟨rfl, hn⟩ | ⟨q, cap, cur, rfl, _⟩ <;> rfl
set_option maxHeartbeats 2000000 in
/-- a function and its arguments -/
theorem callE (f : Nat) (IH : ExprC f) (l : List Tkn) (hL : Toks l) (m : Int) (i o : Nat) (r : Out Nd) (hf : (cur l i).text ∈ funcW)
    (h : (match tokenO l 1 i o with
      | .err a c => some (.err a c)
      | .ok _ i1 o1 =>
        match opensO l [40] i1 o1 with
        | .err a c => some (.err a c)
        | .ok _ i' o' =>
          match manyO (exprO l f (.expr 1)) (commaO l) (argsO (cur l i).text) 0 [] i' o' with
          | none => none
          | some (.err a c) => some (.err a c)
          | some (.ok ks i3 o3) =>
            match closesO l [41] i3 o3 with
            | .err a c => some (.err a c)
            | .ok _ i4 o4 => some (.ok (.mk 10 0 (cur l i).text ks) i4 o4)) = some r) (X : List Nat) (b : Nat) (tv : Value) (w : World) (hb1 : b ≠ 1) (hbX : b ∈ X) (hX : ∀ c ∈ X, c < w.heap.size) (hm : w.cell? ⟨1, 0, none⟩ = some (.int .i64 m)) (hp : Pd w b tv l i o) :
    Calls Tryz.prog 199 #[.pointer (some ⟨b, 0, none⟩)] w (PC b w tv l r (fun x v w' => NdV X w' v x)) := by
  have hs0 := hp.2.1
  have hm0 := hm
  have hbw := hp.lt
  have hargs := argsO_le (cur l i).text
  have htx := hL.tl i
  refine calls_of_WC1 (n := 32) Tryz.func199 rfl rfl rfl ?_
  refine W ?_
  refine WL_eff OE_alloc rfl ?_
  rintro _ w1 ⟨b2, rfl, hb2, e2, hS⟩
  have n2b : b2 ≠ b := by have := hp.lt; omega
  have hb2w : w.heap.size ≤ b2 := hb2
  replace hm := hS.cell (by simp) hm
  replace hp := hp.up hS
  refine W ?_
  cases hK : tokenO l 1 i o with
  | err a c =>
    rw [hK] at h
    simp only [Option.some.injEq] at h
    subst h
    refine WL_pcall rfl (evs2 rfl rfl) (PC.falls (token_any b tv l hL 1 (by decide) i o _ hp) hK (hS.mono (by simp))) rfl ?_
    intro wz hwz
    repeat' (first | refine WQ_then_panic ?_ | refine WQ_block_panic ?_)
    refine WQ_panic ?_
    exact PC.err hwz
  | ok t i1 o1 =>
    obtain ⟨ho1, hi1, ht, hkind⟩ := tokenO_open hK
    subst o1; subst i1; subst t
    rw [hK] at h
    simp only at h
    refine WL_eff (OE_call rfl (evs2 rfl rfl) (PC.goes (token_any b tv l hL 1 (by decide) i o _ hp) hK)) rfl ?_
    rintro _ w2 ⟨rfl, hp2, hT⟩
    replace e2 := e2.ext hT (by simpa using n2b)
    replace hm := cell_up hm hb1 hT
    replace hS := (hS.mono (S' := [b]) (by simp)).trans hT
    clear hT hp
    refine WL_pure (PR_field rfl (tknText _)) rfl ?_
    apply WL_build (vs := [(0, .int .i64 10), (2, str (cur l i).text)]) rfl (buildC _) rfl
    refine WL_eff OE_alloc rfl ?_
    rintro _ w3 ⟨b3, rfl, hb3, e3, hT⟩
    have n23 : b2 ≠ b3 := by have := e2.lt; omega
    have n3b : b3 ≠ b := by have := hp2.lt; omega
    have n31 : b3 ≠ 1 := by have := block_lt_of_cell hm; simp at this; omega
    have hb3w : w.heap.size ≤ b3 := Nat.le_trans hS.size hb3
    refine WL_eff0 (OE_storeA (us := ndC (.mk 10 0 (cur l i).text []) (.slice none 0 0)) rfl rfl rfl rfl (ndC_one (x := .mk 10 0 (cur l i).text []) (nilSlvN [] w)) e3 rfl) ?_
    rintro _ w4 ⟨hT2, e3'⟩
    replace hT := hT.own hT2 (fun c hc => .inr (by simp at hc; omega))
    clear hT2 e3
    replace hp2 := hp2.up hT; replace e2 := e2.up hT
    replace hm := hT.cell (by simp) hm
    replace hS := hS.trans (hT.mono (by simp))
    clear hT
    refine W ?_
    cases hO : opensO l [40] (i + 1) o with
    | err a c =>
      rw [hO] at h
      simp only [Option.some.injEq] at h
      subst h
      refine WL_pcall rfl (evs2 rfl rfl) (PC.falls (opens_any b tv l hL [40] (by decide) _ _ _ hp2) hO hS) rfl ?_
      intro wz hwz
      repeat' (first | refine WQ_then_panic ?_ | refine WQ_block_panic ?_)
      refine WQ_panic ?_
      exact PC.err hwz
    | ok u iA oA =>
      obtain ⟨hoo, hoi, hopt⟩ := opensO_open hO
      subst oA; subst iA
      rw [hO] at h
      simp only at h
      refine WL_eff (OE_call rfl (evs2 rfl rfl) (PC.goes (opens_any b tv l hL [40] (by decide) _ _ _ hp2) hO)) rfl ?_
      rintro _ wB ⟨rfl, hp, hT⟩
      replace e2 := e2.ext hT (by simpa using n2b)
      replace e3 := e3'.ext hT (by simpa using n3b)
      replace hm := cell_up hm hb1 hT
      replace hS := hS.trans hT
      clear hT hp2 e3'
      have l2 := e2.lt
      have l3 := e3.lt
      have hwB : wB.heap.size ≤ wB.heap.size := Nat.le_refl _
      have hwBw := hS.size
      have hXb : ∀ c ∈ b3 :: b2 :: X, c < wB.heap.size := fun c hc => by
        rcases List.mem_cons.1 hc with rfl | hc
        · exact l3
        · rcases List.mem_cons.1 hc with rfl | hc
          · exact l2
          · have := hX c hc; have := hS.size; omega
      refine W ?_
      refine WL_eff (OE_call rfl (evs1 rfl) (arguments_any _ _)) rfl ?_
      rintro _ wB2 ⟨rfl, hww⟩
      subst wB2
      refine W ?_
      cases hM : manyO (exprO l f (.expr 1)) (commaO l) (argsO (cur l i).text) 0 [] (i + 1 + 1) (o + 1) with
      | none => rw [hM] at h; simp at h
      | some r3 =>
      rw [hM] at h
      refine WC_loop (σ := Nat × List Nd × Value × Nat × Nat) (fun q => [(0, .pointer (some ⟨b, 0, none⟩)), (2, .pointer (some ⟨b2, 0, none⟩)), (3, .pointer (some ⟨b3, 0, none⟩)), (13, .int .i64 (argsO (cur l i).text : Int)), (14, .int .i64 (q.1 : Int))])
        (fun q w' => manyO (exprO l f (.expr 1)) (commaO l) (argsO (cur l i).text - q.1) q.1 q.2.1 q.2.2.2.1 q.2.2.2.2 = some r3 ∧ q.1 ≤ argsO (cur l i).text ∧ q.2.1.length = q.1 ∧ q.2.2.2.2 = o + 1 ∧ Pd w' b tv l q.2.2.2.1 q.2.2.2.2 ∧ Blk w' b3 36 (ndC (.mk 10 0 (cur l i).text q.2.1) q.2.2.1) ∧ Row (b3 :: b2 :: X) w' wB.heap.size 36 q.2.2.1 q.2.1 ∧ b3 ∉ ob q.2.2.1 ∧ (∃ cs : List Value, cs.length = 4 ∧ Blk w' b2 36 cs) ∧ w'.cell? ⟨1, 0, none⟩ = some (.int .i64 m) ∧ Stp [b] w w' ∧ wB.heap.size ≤ w'.heap.size)
        (fun q => argsO (cur l i).text - q.1) (0, [], .slice none 0 0, i + 1 + 1, o + 1) ⟨rfl, rfl, rfl, rfl, rfl, trivial⟩ ⟨hM, Nat.zero_le _, rfl, rfl, hp, e3, Row.nil, by simp [ob], ⟨_, rfl, e2⟩, hm, hS, Nat.le_refl _⟩ ?_
      clear hM hp e3 e2 hm hS
      rintro ⟨k, ks, kv, i2, o2⟩ w6 ⟨hM, hka, hkl, ho2', hp, e3, hrow, hn3, ⟨cs2, hc2, e2⟩, hm, hS, hsz⟩
      dsimp only at hM hka hkl ho2' hp e3 hrow hn3 hsz ⊢
      match cs2, hc2 with
      | [q0, q1, q2, q3], _ =>
      by_cases hlt : k < argsO (cur l i).text
      · obtain ⟨n', hn'⟩ : ∃ n', argsO (cur l i).text - k = n' + 1 := ⟨argsO (cur l i).text - k - 1, by omega⟩
        rw [hn'] at hM
        simp only [manyO] at hM
        repeat' (first | refine W1 ?_ | (exfalso; omega) | refine WL_split rfl rfl (fun hg => ?_) (fun hg => ?_) | refine WL_splitB rfl rfl (fun hg => ?_) (fun hg => ?_) | refine WC_cond rfl (fun hc => ?_) (fun hc => ?_) | refine WC_condB rfl (fun hc => ?_) (fun hc => ?_))
        · -- a comma first
          have hk0 : 0 < k := by omega
          have hcm : commaO l k i2 o2 = mustO l [44] i2 o2 := by unfold commaO; rw [if_pos hk0]
          rw [hcm] at hM
          cases hU : mustO l [44] i2 o2 with
          | err a c =>
            rw [hU] at hM
            simp only [Option.some.injEq] at hM
            subst hM
            simp only [Option.some.injEq] at h
            subst h
            refine WL_pcall rfl (evs2 rfl rfl) (PC.falls (mustP_any b tv l hL _ (by decide) i2 o2 _ hp) hU hS) rfl ?_
            intro wz hwz
            repeat' (first | refine WQ_then_panic ?_ | refine WQ_block_panic ?_)
            refine WQ_panic ?_
            exact PC.err hwz
          | ok u iC oC =>
            rw [hU] at hM
            simp only at hM
            have hoC := mustO_open hU
            refine WL_eff (OE_call rfl (evs2 rfl rfl) (PC.goes (mustP_any b tv l hL _ (by decide) i2 o2 _ hp) hU)) rfl ?_
            rintro _ wC ⟨rfl, hpC, hT⟩
            have hbk : ∀ c ∈ [b], c ∈ b3 :: b2 :: X ∧ c ∉ ob kv := fun c hc => by
              simp only [List.mem_singleton] at hc
              subst hc
              exact ⟨by simp [hbX], fun h => by have := (hrow.ob_le c h).1; have := hp.lt; omega⟩
            replace hrow := hrow.ext (X' := b3 :: b2 :: X) hT hbk (fun c hc => .inl hc)
            replace e2 := e2.ext hT (by simpa using n2b)
            replace e3 := e3.ext hT (by simpa using n3b)
            replace hm := cell_up hm hb1 hT
            replace hS := hS.trans hT
            replace hsz := Nat.le_trans hsz hT.size
            clear hT hp hU hcm
            refine W ?_
            have hp := hpC
            cases hE : exprO l f (.expr 1) iC oC with
            | none => rw [hE] at hM; simp at hM
            | some r2 =>
              rw [hE] at hM
              obtain ⟨hpb, hps, hpi, hpl, hpo⟩ := id hp
              have hlb := hpb.lt
              have hlk := hrow.ob_le
              have hXk : ∀ c ∈ ob kv ++ (b3 :: b2 :: X), c < wC.heap.size := fun c hc => by
                rcases List.mem_append.1 hc with h | h
                · exact (hlk c h).2
                · exact Nat.lt_of_lt_of_le (hXb c h) hsz
              cases r2 with
              | err a c =>
                simp only [Option.some.injEq] at hM
                subst hM
                simp only [Option.some.injEq] at h
                subst h
                refine WC_drawnq 8 (b :: ob kv) [7] [(0, 0), (1, 1), (2, 0), (3, 2), (4, 2), (5, 2), (6, 0), (7, 2)] rfl mixed (by kernel_rfl) (by kernel_rfl) (by kernel_rfl) (fun w1 hS1 => ?_)
                replace hp := hp.up hS1; replace e3 := e3.up hS1
                replace hm := hS1.cell (by simp) hm
                replace hS := hS.trans (hS1.mono (by simp))
                have hsub := IH l hL m (.expr 1) iC oC _ hE (ob kv ++ (b3 :: b2 :: X)) b tv w1 hb1 (by simp [hbX]) (fun c hc => Nat.lt_of_lt_of_le (hXk c hc) hS1.size) hm hp (by omega) (by omega)
                refine WDq_free rfl trivial (fun _ => PR_fieldAddr rfl) rfl ?_
                refine WDq_read rfl trivial (fun w' hw => PR_load_blk rfl rfl (e3.ext hw (by simp only [List.mem_cons, not_or]; exact ⟨n3b, hn3⟩)) rfl) rfl ?_
                refine WDq_free rfl trivial (fun _ => PR_move rfl) rfl ?_
                refine WDq_pcall rfl trivial rfl (evs2 rfl rfl) (PC.falls hsub rfl hS) rfl ?_
                intro wz hwz
                repeat' (first | refine WQ_then_panic ?_ | refine WQ_block_panic ?_)
                refine WQ_panic ?_
                exact PC.err hwz
              | ok x i3 o3 =>
                simp only at hM
                refine WC_drawn 8 (b :: ob kv) [7] [(0, 0), (1, 1), (2, 0), (3, 2), (4, 2), (5, 2), (6, 0), (7, 2)] rfl mixed (by kernel_rfl) (by kernel_rfl) (by kernel_rfl) (fun w1 hS1 => ?_)
                replace hp := hp.up hS1; replace e3 := e3.up hS1; replace e2 := e2.up hS1; replace hrow := hrow.up hS1
                replace hm := hS1.cell (by simp) hm
                replace hS := hS.trans (hS1.mono (by simp))
                have hsz1 := Nat.le_trans hsz hS1.size
                have hXk1 : ∀ c ∈ ob kv ++ (b3 :: b2 :: X), c < w1.heap.size := fun c hc => Nat.lt_of_lt_of_le (hXk c hc) hS1.size
                have hsub := IH l hL m (.expr 1) iC oC _ hE (ob kv ++ (b3 :: b2 :: X)) b tv w1 hb1 (by simp [hbX]) hXk1 hm hp (by omega) (by omega)
                clear hS1 hXk hpb hps hlk
                refine WF_fieldAddr rfl trivial rfl rfl ?_
                refine WR_load_blk rfl trivial rfl rfl e3 (by simp only [List.mem_cons, not_or]; exact ⟨n3b, hn3⟩) rfl rfl ?_
                refine WF_move rfl trivial rfl rfl ?_
                refine WD_eff rfl trivial (OE_call rfl (evs2 rfl rfl) (PC.goes hsub rfl)) (fun _ _ h => h.2.2.mono (by simp)) rfl ?_
                rintro _ w7 ⟨⟨kx, rfl, hx⟩, hp7, hT⟩
                have hbk : ∀ c ∈ [b], c ∈ b3 :: b2 :: X ∧ c ∉ ob kv := fun c hc => by
                  simp only [List.mem_singleton] at hc
                  subst hc
                  exact ⟨by simp [hbX], fun h => by have := (hrow.ob_le c h).1; omega⟩
                replace hrow := hrow.ext (X' := b3 :: b2 :: X) hT hbk (fun c hc => .inl hc)
                replace e2 := e2.ext hT (by simpa using n2b)
                replace e3 := e3.ext hT (by simpa using n3b)
                replace hm := cell_up hm hb1 hT
                replace hS := hS.trans hT
                have hsz7 := Nat.le_trans hsz1 hT.size
                have hXk7 : ∀ c ∈ ob kv ++ (b3 :: b2 :: X), c < w7.heap.size := fun c hc => Nat.lt_of_lt_of_le (hXk1 c hc) hT.size
                clear hT hXk1 hsz1 hsub hp
                obtain ⟨px, cx, rfl, -⟩ := id hx
                refine WD_eff rfl trivial (OE_buildSlice (vs := [(0, .agg (ndC x (.slice px x.kids.length cx)).toArray)]) rfl (buildSN1 _ _ _ _ _ _)) (fun _ _ h => (NewSl.stp h).mono (by simp)) rfl ?_
                intro bv w8 hN
                have hbv : SlV (ob kv ++ (b3 :: b2 :: X)) w8 bv [x] := hN.slvG (css := [ndC x _]) hXk7 rfl rfl rfl (reps1 hx) (by simp [maxLen])
                have hT := NewSl.stp hN
                replace hp7 := hp7.up hT; replace e3 := e3.up hT; replace e2 := e2.up hT; replace hrow := hrow.up hT
                replace hm := hT.cell (by simp) hm
                replace hS := hS.trans (hT.mono (by simp))
                have hsz8 := Nat.le_trans hsz7 hT.size
                have hXk8 : ∀ c ∈ ob kv ++ (b3 :: b2 :: X), c < w8.heap.size := fun c hc => Nat.lt_of_lt_of_le (hXk7 c hc) hT.size
                clear hT hN hXk7 hsz7 hx
                have hbase : wB.heap.size ≤ w8.heap.size := Nat.le_trans hwB hsz8
                refine WD_eff rfl trivial (OE_append (X := b3 :: b2 :: X) (base := wB.heap.size) rfl (by decide) rfl rfl hrow hbv (by simp only [List.length_cons, List.length_nil]; omega) (by simp only [List.length_cons, List.length_nil, maxLen]; omega) hbase) (fun _ _ h => h.2.1.mono (fun c hc => List.mem_cons_of_mem _ hc)) rfl ?_
                rintro kv' w9 ⟨hrow', hT, hown⟩
                have hown1 : ∀ c ∈ ob kv, w.heap.size ≤ c := fun c hc => by have := (hrow.ob_le c hc).1; omega
                have hn3' : b3 ∉ ob kv' := fun h => by
                  rcases hown _ h with h | h
                  · exact hn3 h
                  · have := hXk8 b3 (by simp); omega
                have hn2' : b2 ∉ ob kv := fun h => by have := (hrow.ob_le _ h).1; omega
                have hn1 : (1 : Nat) ∉ ob kv := fun h => by have := (hrow.ob_le _ h).1; have := block_lt_of_cell hm0; simp at this; omega
                have hnX : ∀ c ∈ X, c ∉ ob kv' := fun c hc h => by
                  have := (hrow'.ob_le _ h).1
                  have := hX c hc
                  omega
                replace e2 := e2.ext hT hn2'
                replace e3 := e3.ext hT hn3
                replace hm := hT.cell hn1 hm
                replace hS := hS.own hT (fun c hc => .inr (hown1 c hc))
                replace hp7 : Pd w9 b tv l i3 o3 := by
                  obtain ⟨g1, g2, g3, g4, g5⟩ := hp7
                  exact ⟨g1.ext hT (fun h => by have := hown1 b h; omega), hs0.ext hS (fun c hc => hc) (fun c hc => .inl hc), g3, g4, g5⟩
                have hsz9 := Nat.le_trans hsz8 hT.size
                clear hT hbv hXk8 hrow
                refine WF_fieldAddr rfl trivial rfl rfl ?_
                refine WD_late0 rfl trivial (OE_store1 (u := kv') rfl rfl (row_cells hrow') (row_one hrow') e3 (by simp)) rfl ?_
                rintro _ w10 ⟨hT, e3'⟩
                replace e3' : Blk w10 b3 36 (ndC (.mk 10 0 (cur l i).text (ks ++ [x])) kv') := e3'
                replace e2 := e2.ext hT (by simpa using n23)
                replace hm := hT.cell (by simpa using n31.symm) hm
                replace hS := hS.own hT (fun c hc => by simp at hc; subst hc; exact .inr hb3w)
                replace hp7 : Pd w10 b tv l i3 o3 := by
                  obtain ⟨g1, g2, g3, g4, g5⟩ := hp7
                  exact ⟨g1.ext hT (by simpa using n3b.symm), hs0.ext hS (fun c hc => hc) (fun c hc => .inl hc), g3, g4, g5⟩
                replace hrow' := hrow'.ext (X' := b3 :: b2 :: X) hT (fun c hc => by simp at hc; subst hc; exact ⟨by simp, hn3'⟩) (fun c hc => .inl hc)
                have hsz10 := Nat.le_trans hsz9 hT.size
                refine D ?_
                refine W ?_
                exact WQ_loop (k + 1, ks ++ [x], kv', i3, o3) ⟨rfl, rfl, rfl, rfl, rfl, trivial⟩ ⟨by rw [show argsO (cur l i).text - (k + 1) = n' by omega]; exact hM, by omega, by simp; omega, by show o3 = o + 1; have := exprO_open l _ _ _ _ _ _ _ hE; omega, hp7, e3', hrow', hn3', ⟨_, rfl, e2⟩, hm, hS, hsz10⟩ (by dsimp only; omega)
        · have hk0 : ¬ 0 < k := by omega
          have hcm : commaO l k i2 o2 = .ok () i2 o2 := by unfold commaO; rw [if_neg hk0]
          rw [hcm] at hM
          simp only at hM
          cases hE : exprO l f (.expr 1) i2 o2 with
          | none => rw [hE] at hM; simp at hM
          | some r2 =>
            rw [hE] at hM
            obtain ⟨hpb, hps, hpi, hpl, hpo⟩ := id hp
            have hlb := hpb.lt
            have hlk := hrow.ob_le
            have hXk : ∀ c ∈ ob kv ++ (b3 :: b2 :: X), c < w6.heap.size := fun c hc => by
              rcases List.mem_append.1 hc with h | h
              · exact (hlk c h).2
              · exact Nat.lt_of_lt_of_le (hXb c h) hsz
            cases r2 with
            | err a c =>
              simp only [Option.some.injEq] at hM
              subst hM
              simp only [Option.some.injEq] at h
              subst h
              refine WC_drawnq 8 (b :: ob kv) [7] [(0, 0), (1, 1), (2, 0), (3, 2), (4, 2), (5, 2), (6, 0), (7, 2)] rfl mixed (by kernel_rfl) (by kernel_rfl) (by kernel_rfl) (fun w1 hS1 => ?_)
              replace hp := hp.up hS1; replace e3 := e3.up hS1
              replace hm := hS1.cell (by simp) hm
              replace hS := hS.trans (hS1.mono (by simp))
              have hsub := IH l hL m (.expr 1) i2 o2 _ hE (ob kv ++ (b3 :: b2 :: X)) b tv w1 hb1 (by simp [hbX]) (fun c hc => Nat.lt_of_lt_of_le (hXk c hc) hS1.size) hm hp (by omega) (by omega)
              refine WDq_free rfl trivial (fun _ => PR_fieldAddr rfl) rfl ?_
              refine WDq_read rfl trivial (fun w' hw => PR_load_blk rfl rfl (e3.ext hw (by simp only [List.mem_cons, not_or]; exact ⟨n3b, hn3⟩)) rfl) rfl ?_
              refine WDq_free rfl trivial (fun _ => PR_move rfl) rfl ?_
              refine WDq_pcall rfl trivial rfl (evs2 rfl rfl) (PC.falls hsub rfl hS) rfl ?_
              intro wz hwz
              repeat' (first | refine WQ_then_panic ?_ | refine WQ_block_panic ?_)
              refine WQ_panic ?_
              exact PC.err hwz
            | ok x i3 o3 =>
              simp only at hM
              refine WC_drawn 8 (b :: ob kv) [7] [(0, 0), (1, 1), (2, 0), (3, 2), (4, 2), (5, 2), (6, 0), (7, 2)] rfl mixed (by kernel_rfl) (by kernel_rfl) (by kernel_rfl) (fun w1 hS1 => ?_)
              replace hp := hp.up hS1; replace e3 := e3.up hS1; replace e2 := e2.up hS1; replace hrow := hrow.up hS1
              replace hm := hS1.cell (by simp) hm
              replace hS := hS.trans (hS1.mono (by simp))
              have hsz1 := Nat.le_trans hsz hS1.size
              have hXk1 : ∀ c ∈ ob kv ++ (b3 :: b2 :: X), c < w1.heap.size := fun c hc => Nat.lt_of_lt_of_le (hXk c hc) hS1.size
              have hsub := IH l hL m (.expr 1) i2 o2 _ hE (ob kv ++ (b3 :: b2 :: X)) b tv w1 hb1 (by simp [hbX]) hXk1 hm hp (by omega) (by omega)
              clear hS1 hXk hpb hps hlk
              refine WF_fieldAddr rfl trivial rfl rfl ?_
              refine WR_load_blk rfl trivial rfl rfl e3 (by simp only [List.mem_cons, not_or]; exact ⟨n3b, hn3⟩) rfl rfl ?_
              refine WF_move rfl trivial rfl rfl ?_
              refine WD_eff rfl trivial (OE_call rfl (evs2 rfl rfl) (PC.goes hsub rfl)) (fun _ _ h => h.2.2.mono (by simp)) rfl ?_
              rintro _ w7 ⟨⟨kx, rfl, hx⟩, hp7, hT⟩
              have hbk : ∀ c ∈ [b], c ∈ b3 :: b2 :: X ∧ c ∉ ob kv := fun c hc => by
                simp only [List.mem_singleton] at hc
                subst hc
                exact ⟨by simp [hbX], fun h => by have := (hrow.ob_le c h).1; omega⟩
              replace hrow := hrow.ext (X' := b3 :: b2 :: X) hT hbk (fun c hc => .inl hc)
              replace e2 := e2.ext hT (by simpa using n2b)
              replace e3 := e3.ext hT (by simpa using n3b)
              replace hm := cell_up hm hb1 hT
              replace hS := hS.trans hT
              have hsz7 := Nat.le_trans hsz1 hT.size
              have hXk7 : ∀ c ∈ ob kv ++ (b3 :: b2 :: X), c < w7.heap.size := fun c hc => Nat.lt_of_lt_of_le (hXk1 c hc) hT.size
              clear hT hXk1 hsz1 hsub hp
              obtain ⟨px, cx, rfl, -⟩ := id hx
              refine WD_eff rfl trivial (OE_buildSlice (vs := [(0, .agg (ndC x (.slice px x.kids.length cx)).toArray)]) rfl (buildSN1 _ _ _ _ _ _)) (fun _ _ h => (NewSl.stp h).mono (by simp)) rfl ?_
              intro bv w8 hN
              have hbv : SlV (ob kv ++ (b3 :: b2 :: X)) w8 bv [x] := hN.slvG (css := [ndC x _]) hXk7 rfl rfl rfl (reps1 hx) (by simp [maxLen])
              have hT := NewSl.stp hN
              replace hp7 := hp7.up hT; replace e3 := e3.up hT; replace e2 := e2.up hT; replace hrow := hrow.up hT
              replace hm := hT.cell (by simp) hm
              replace hS := hS.trans (hT.mono (by simp))
              have hsz8 := Nat.le_trans hsz7 hT.size
              have hXk8 : ∀ c ∈ ob kv ++ (b3 :: b2 :: X), c < w8.heap.size := fun c hc => Nat.lt_of_lt_of_le (hXk7 c hc) hT.size
              clear hT hN hXk7 hsz7 hx
              have hbase : wB.heap.size ≤ w8.heap.size := Nat.le_trans hwB hsz8
              refine WD_eff rfl trivial (OE_append (X := b3 :: b2 :: X) (base := wB.heap.size) rfl (by decide) rfl rfl hrow hbv (by simp only [List.length_cons, List.length_nil]; omega) (by simp only [List.length_cons, List.length_nil, maxLen]; omega) hbase) (fun _ _ h => h.2.1.mono (fun c hc => List.mem_cons_of_mem _ hc)) rfl ?_
              rintro kv' w9 ⟨hrow', hT, hown⟩
              have hown1 : ∀ c ∈ ob kv, w.heap.size ≤ c := fun c hc => by have := (hrow.ob_le c hc).1; omega
              have hn3' : b3 ∉ ob kv' := fun h => by
                rcases hown _ h with h | h
                · exact hn3 h
                · have := hXk8 b3 (by simp); omega
              have hn2' : b2 ∉ ob kv := fun h => by have := (hrow.ob_le _ h).1; omega
              have hn1 : (1 : Nat) ∉ ob kv := fun h => by have := (hrow.ob_le _ h).1; have := block_lt_of_cell hm0; simp at this; omega
              have hnX : ∀ c ∈ X, c ∉ ob kv' := fun c hc h => by
                have := (hrow'.ob_le _ h).1
                have := hX c hc
                omega
              replace e2 := e2.ext hT hn2'
              replace e3 := e3.ext hT hn3
              replace hm := hT.cell hn1 hm
              replace hS := hS.own hT (fun c hc => .inr (hown1 c hc))
              replace hp7 : Pd w9 b tv l i3 o3 := by
                obtain ⟨g1, g2, g3, g4, g5⟩ := hp7
                exact ⟨g1.ext hT (fun h => by have := hown1 b h; omega), hs0.ext hS (fun c hc => hc) (fun c hc => .inl hc), g3, g4, g5⟩
              have hsz9 := Nat.le_trans hsz8 hT.size
              clear hT hbv hXk8 hrow
              refine WF_fieldAddr rfl trivial rfl rfl ?_
              refine WD_late0 rfl trivial (OE_store1 (u := kv') rfl rfl (row_cells hrow') (row_one hrow') e3 (by simp)) rfl ?_
              rintro _ w10 ⟨hT, e3'⟩
              replace e3' : Blk w10 b3 36 (ndC (.mk 10 0 (cur l i).text (ks ++ [x])) kv') := e3'
              replace e2 := e2.ext hT (by simpa using n23)
              replace hm := hT.cell (by simpa using n31.symm) hm
              replace hS := hS.own hT (fun c hc => by simp at hc; subst hc; exact .inr hb3w)
              replace hp7 : Pd w10 b tv l i3 o3 := by
                obtain ⟨g1, g2, g3, g4, g5⟩ := hp7
                exact ⟨g1.ext hT (by simpa using n3b.symm), hs0.ext hS (fun c hc => hc) (fun c hc => .inl hc), g3, g4, g5⟩
              replace hrow' := hrow'.ext (X' := b3 :: b2 :: X) hT (fun c hc => by simp at hc; subst hc; exact ⟨by simp, hn3'⟩) (fun c hc => .inl hc)
              have hsz10 := Nat.le_trans hsz9 hT.size
              refine D ?_
              refine W ?_
              exact WQ_loop (k + 1, ks ++ [x], kv', i3, o3) ⟨rfl, rfl, rfl, rfl, rfl, trivial⟩ ⟨by rw [show argsO (cur l i).text - (k + 1) = n' by omega]; exact hM, by omega, by simp; omega, by show o3 = o + 1; have := exprO_open l _ _ _ _ _ _ _ hE; omega, hp7, e3', hrow', hn3', ⟨_, rfl, e2⟩, hm, hS, hsz10⟩ (by dsimp only; omega)
      · have hk : k = argsO (cur l i).text := by omega
        rw [show argsO (cur l i).text - k = 0 by omega] at hM
        simp only [manyO, Option.some.injEq] at hM
        subst hM
        simp only at h
        have ho2 : 0 < o2 := by omega
        repeat' (first | refine W1 ?_ | (exfalso; omega) | refine WL_split rfl rfl (fun hg => ?_) (fun hg => ?_) | refine WL_splitB rfl rfl (fun hg => ?_) (fun hg => ?_) | refine WC_cond rfl (fun hc => ?_) (fun hc => ?_) | refine WC_condB rfl (fun hc => ?_) (fun hc => ?_))
        cases hC : closesO l [41] i2 o2 with
        | err a c =>
          rw [hC] at h
          simp only [Option.some.injEq] at h
          subst h
          refine WL_pcall rfl (evs2 rfl rfl) (PC.falls (closes_any b tv l hL _ (by decide) i2 o2 ho2 _ hp) hC hS) rfl ?_
          intro wz hwz
          repeat' (first | refine WQ_then_panic ?_ | refine WQ_block_panic ?_)
          refine WQ_panic ?_
          exact PC.err hwz
        | ok u i3 o3 =>
          rw [hC] at h
          simp only [Option.some.injEq] at h
          subst h
          refine WL_eff (OE_call rfl (evs2 rfl rfl) (PC.goes (closes_any b tv l hL _ (by decide) i2 o2 ho2 _ hp) hC)) rfl ?_
          rintro _ w7 ⟨rfl, hp7, hT⟩
          have hbk : ∀ c ∈ [b], c ∈ b3 :: b2 :: X ∧ c ∉ ob kv := fun c hc => by
            simp only [List.mem_singleton] at hc
            subst hc
            exact ⟨by simp [hbX], fun h => by have := (hrow.ob_le c h).1; have := hp.lt; omega⟩
          have hnX : ∀ c ∈ b3 :: b2 :: X, c ∉ ob kv := fun c hc h => by
            have h1 := (hrow.ob_le _ h).1
            rcases List.mem_cons.1 hc with rfl | hc
            · exact hn3 h
            · rcases List.mem_cons.1 hc with rfl | hc
              · omega
              · have := hX c hc; omega
          replace hrow := hrow.ext (X' := b3 :: b2 :: X) hT hbk (fun c hc => .inl hc)
          replace e2 := e2.ext hT (by simpa using n2b)
          replace e3 := e3.ext hT (by simpa using n3b)
          replace hS := hS.trans hT
          have hsl := hrow.slvN hnX
          refine W ?_
          refine WL_eff0 (OE_storeA (us := ndC (.mk 10 0 (cur l i).text ks) kv) rfl rfl rfl rfl (ndC_one hsl) e2 rfl) ?_
          rintro _ wz ⟨hT, e2'⟩
          refine W ?_
          refine WQ_retc rfl rfl rfl e2' rfl ?_
          obtain ⟨hpb, hps, hpi, hpl, hpo⟩ := id hp7
          have hSx := hS.own hT (fun c hc => by simp at hc; subst hc; exact .inr hb2w)
          refine PC.ok ⟨_, rfl, ?_⟩ ⟨hpb.ext hT (by simpa using n2b.symm), hs0.ext hSx (fun c hc => hc) (fun c hc => .inl hc), hpi, hpl, hpo⟩ hSx
          exact (hsl.ext (X' := b3 :: b2 :: X) hT (fun c hc => by simp at hc; simp [hc]) (fun c hc => .inl hc)).wk (fun c hc => by simp [hc])
set_option maxHeartbeats 2000000 in
/-- a choice -/
theorem choiceE (f : Nat) (IH : ExprC f) (l : List Tkn) (hL : Toks l) (m : Int) (i o : Nat) (r : Out Nd)
    (h : (match opensO l [105, 102] i o with
      | .err a c => some (.err a c)
      | .ok _ i' o' =>
        match exprO l f (.expr 1) i' o' with
        | none => none
        | some (.err a c) => some (.err a c)
        | some (.ok x i'' o'') =>
          match manyO (exprO l f (.expr 1)) (thenO l) 2 0 [x] i'' o'' with
          | none => none
          | some (.err a c) => some (.err a c)
          | some (.ok ks i3 o3) =>
            match closesO l [101, 110, 100] i3 o3 with
            | .err a c => some (.err a c)
            | .ok _ i4 o4 => some (.ok (.mk 9 0 [] ks) i4 o4)) = some r) (X : List Nat) (b : Nat) (tv : Value) (w : World) (hb1 : b ≠ 1) (hbX : b ∈ X) (hX : ∀ c ∈ X, c < w.heap.size) (hm : w.cell? ⟨1, 0, none⟩ = some (.int .i64 m)) (hp : Pd w b tv l i o) :
    Calls Tryz.prog 198 #[.pointer (some ⟨b, 0, none⟩)] w (PC b w tv l r (fun x v w' => NdV X w' v x)) := by
  have hs0 := hp.2.1
  have hm0 := hm
  have hbw := hp.lt
  refine calls_of_WC1 (n := 32) Tryz.func198 rfl rfl rfl ?_
  refine W ?_
  refine WL_eff OE_alloc rfl ?_
  rintro _ w1 ⟨b2, rfl, hb2, e2, hS⟩
  have n2b : b2 ≠ b := by have := hp.lt; omega
  have hb2w : w.heap.size ≤ b2 := hb2
  replace hm := hS.cell (by simp) hm
  replace hp := hp.up hS
  refine W ?_
  cases hO : opensO l [105, 102] i o with
  | err a c =>
    rw [hO] at h
    simp only [Option.some.injEq] at h
    subst h
    refine WL_pcall rfl (evs2 rfl rfl) (PC.falls (opens_any b tv l hL _ (by decide) i o _ hp) hO (hS.mono (by simp))) rfl ?_
    intro wz hwz
    repeat' (first | refine WQ_then_panic ?_ | refine WQ_block_panic ?_)
    refine WQ_panic ?_
    exact PC.err hwz
  | ok t i1 o1 =>
    obtain ⟨hoo, hoi, hopt⟩ := opensO_open hO
    subst o1; subst i1
    rw [hO] at h
    simp only at h
    refine WL_eff (OE_call rfl (evs2 rfl rfl) (PC.goes (opens_any b tv l hL _ (by decide) i o _ hp) hO)) rfl ?_
    rintro _ wA ⟨rfl, hp2, hT⟩
    replace e2 := e2.ext hT (by simpa using n2b)
    replace hm := cell_up hm hb1 hT
    replace hS := (hS.mono (S' := [b]) (by simp)).trans hT
    clear hT hp
    have l2 := e2.lt
    have hXa : ∀ c ∈ b2 :: X, c < wA.heap.size := fun c hc => by
      rcases List.mem_cons.1 hc with rfl | hc
      · exact l2
      · have := hX c hc; have := hS.size; omega
    refine W ?_
    cases hE0 : exprO l f (.expr 1) (i + 1) (o + 1) with
    | none => rw [hE0] at h; simp at h
    | some r1 =>
    rw [hE0] at h
    have hsub := IH l hL m (.expr 1) (i + 1) (o + 1) r1 hE0 (b2 :: X) b tv wA hb1 (by simp [hbX]) hXa hm hp2 (by omega) (by omega)
    cases r1 with
    | err a c =>
      simp only [Option.some.injEq] at h
      subst h
      refine WL_pcall rfl (evs2 rfl rfl) (PC.falls hsub rfl hS) rfl ?_
      intro wz hwz
      repeat' (first | refine WQ_then_panic ?_ | refine WQ_block_panic ?_)
      refine WQ_panic ?_
      exact PC.err hwz
    | ok x0 iA oA =>
      have hoA := exprO_open l _ _ _ _ _ _ _ hE0
      simp only at h
      refine WL_eff (OE_call rfl (evs2 rfl rfl) (PC.goes hsub rfl)) rfl ?_
      rintro _ wB ⟨⟨kx0, rfl, hx0⟩, hp, hT⟩
      replace e2 := e2.ext hT (by simpa using n2b)
      replace hm := cell_up hm hb1 hT
      replace hS := hS.trans hT
      have hXB : ∀ c ∈ b2 :: X, c < wB.heap.size := fun c hc => Nat.lt_of_lt_of_le (hXa c hc) hT.size
      clear hT hp2 hsub hXa l2
      obtain ⟨p0, c0, rfl, -⟩ := id hx0
      refine WL_eff (OE_buildSlice (vs := [(0, .agg (ndC x0 (.slice p0 x0.kids.length c0)).toArray)]) rfl (buildSN1 _ _ _ _ _ _)) rfl ?_
      intro kv0 wD hN
      have hr0 : Row (b2 :: X) wD wB.heap.size 36 kv0 [x0] := hN.rowG (css := [ndC x0 _]) hXB (Nat.le_refl _) rfl rfl rfl (reps1 hx0) (by simp [maxLen])
      obtain ⟨bn, rfl, hbn, -, hT⟩ := id hN
      replace hp := hp.up hT; replace e2 := e2.up hT
      replace hm := hT.cell (by simp) hm
      replace hS := hS.trans (hT.mono (by simp))
      have hBD := hT.size
      clear hT hN hx0
      apply WL_build (vs := [(0, .int .i64 9), (3, .slice (some ⟨bn, 0, none⟩) 1 1)]) rfl (buildI9 _ _ _) rfl
      refine WL_eff OE_alloc rfl ?_
      rintro _ w3 ⟨b3, rfl, hb3, e3, hT⟩
      have n23 : b2 ≠ b3 := by have := e2.lt; omega
      have n3b : b3 ≠ b := by have := hp.lt; omega
      have n31 : b3 ≠ 1 := by have := block_lt_of_cell hm; simp at this; omega
      have n3n : b3 ≠ bn := by have := (hr0.ob_le bn (by simp [ob])).2; omega
      have hb3w : w.heap.size ≤ b3 := Nat.le_trans hS.size hb3
      refine WL_eff0 (OE_storeA (us := ndC (.mk 9 0 [] [x0]) (.slice (some ⟨bn, 0, none⟩) 1 1)) rfl rfl rfl rfl (by intro c hc; simp [ndC] at hc; rcases hc with rfl | rfl | rfl | rfl <;> rfl) e3 rfl) ?_
      rintro _ w4 ⟨hT2, e3'⟩
      replace hT := hT.own hT2 (fun c hc => .inr (by simp at hc; omega))
      clear hT2 e3
      replace hp := hp.up hT; replace e2 := e2.up hT
      replace hr0 : Row (b3 :: b2 :: X) w4 wB.heap.size 36 (.slice (some ⟨bn, 0, none⟩) 1 1) [x0] := hr0.ext hT (by simp) (fun c hc => by
        rcases List.mem_cons.1 hc with rfl | hc
        · exact .inr hb3
        · exact .inl hc)
      replace hm := hT.cell (by simp) hm
      replace hS := hS.trans (hT.mono (by simp))
      have hB4 := Nat.le_trans hBD hT.size
      clear hT
      refine W ?_
      refine WL_eff (OE_buildSlice (vs := [(0, str [116, 104, 101, 110]), (1, str [101, 108, 115, 101])]) rfl (buildTE _ _)) rfl ?_
      intro wv w5 hN
      obtain ⟨bw, rfl, hbw5, ew, hT⟩ := id hN
      have nwb : bw ≠ b := by have := hp.lt; omega
      have nw3 : bw ≠ b3 := by have := e3'.lt; omega
      have nwn : bw ≠ bn := by have := (hr0.ob_le bn (by simp [ob])).2; omega
      replace hp := hp.up hT; replace e2 := e2.up hT; replace e3' := e3'.up hT; replace hr0 := hr0.up hT
      replace hm := hT.cell (by simp) hm
      replace hS := hS.trans (hT.mono (by simp))
      have hwB := Nat.le_trans hB4 hT.size
      have l2 := hXB b2 (by simp)
      have hXb : ∀ c ∈ b3 :: b2 :: X, c < w5.heap.size := fun c hc => by
        rcases List.mem_cons.1 hc with rfl | hc
        · exact e3'.lt
        · exact Nat.lt_of_lt_of_le (hXB c hc) hwB
      clear hT hN hbw5
      have hwv := Blk.slv2 ew
      have hwv2 : (0 : Nat) < ([[116, 104, 101, 110], [101, 108, 115, 101]] : List Str).length := by simp
      refine W ?_
      cases hM : manyO (exprO l f (.expr 1)) (thenO l) 2 0 [x0] iA oA with
      | none => rw [hM] at h; simp at h
      | some r3 =>
      rw [hM] at h
      refine WC_loop (σ := Nat × List Nd × Value × Nat × Nat) (fun q => [(0, .pointer (some ⟨b, 0, none⟩)), (2, .pointer (some ⟨b2, 0, none⟩)), (3, .pointer (some ⟨b3, 0, none⟩)), (12, .slice (some ⟨bw, 0, none⟩) 2 2), (13, .int .i64 2), (14, .int .i64 (q.1 : Int))])
        (fun q w' => manyO (exprO l f (.expr 1)) (thenO l) (2 - q.1) q.1 q.2.1 q.2.2.2.1 q.2.2.2.2 = some r3 ∧ q.1 ≤ 2 ∧ q.2.1.length = q.1 + 1 ∧ q.2.2.2.2 = o + 1 ∧ Pd w' b tv l q.2.2.2.1 q.2.2.2.2 ∧ Blk w' b3 36 (ndC (.mk 9 0 [] q.2.1) q.2.2.1) ∧ Row (b3 :: b2 :: X) w' wB.heap.size 36 q.2.2.1 q.2.1 ∧ b3 ∉ ob q.2.2.1 ∧ bw ∉ ob q.2.2.1 ∧ Blk w' bw 9 [str [116, 104, 101, 110], str [101, 108, 115, 101]] ∧ (∃ cs : List Value, cs.length = 4 ∧ Blk w' b2 36 cs) ∧ w'.cell? ⟨1, 0, none⟩ = some (.int .i64 m) ∧ Stp [b] w w' ∧ w5.heap.size ≤ w'.heap.size)
        (fun q => 2 - q.1) (0, [x0], .slice (some ⟨bn, 0, none⟩) 1 1, iA, oA) ⟨rfl, rfl, rfl, rfl, rfl, rfl, trivial⟩ ⟨hM, by simp, rfl, hoA, hp, e3', hr0, by simpa [ob] using n3n, by simpa [ob] using nwn, ew, ⟨_, rfl, e2⟩, hm, hS, Nat.le_refl _⟩ ?_
      have hwBw : w.heap.size ≤ wB.heap.size := by omega
      clear hM hp e3' e2 hm hS hwv hr0 ew
      rintro ⟨k, ks, kv, i2, o2⟩ w6 ⟨hM, hka, hkl, ho2', hp, e3, hrow, hn3, hnw, ew, ⟨cs2, hc2, e2⟩, hm, hS, hsz⟩
      dsimp only at hM hka hkl ho2' hp e3 hrow hn3 hnw hsz ⊢
      match cs2, hc2 with
      | [q0, q1, q2, q3], _ =>
      have hwv := Blk.slv2 ew
      by_cases hlt : k < 2
      · obtain ⟨n', hn'⟩ : ∃ n', 2 - k = n' + 1 := ⟨2 - k - 1, by omega⟩
        rw [hn'] at hM
        simp only [manyO] at hM
        have hk2 : k < ([[116, 104, 101, 110], [101, 108, 115, 101]] : List Str).length := hlt
        have hth : thenO l k i2 o2 = mustO l (([[116, 104, 101, 110], [101, 108, 115, 101]] : List Str)[k]) i2 o2 := by
          rcases (by omega : k = 0 ∨ k = 1) with rfl | rfl <;> rfl
        have hne : ([[116, 104, 101, 110], [101, 108, 115, 101]] : List Str)[k] ≠ [] := by
          rcases (by omega : k = 0 ∨ k = 1) with rfl | rfl
          · show ([116, 104, 101, 110] : Str) ≠ []; decide
          · show ([101, 108, 115, 101] : Str) ≠ []; decide
        rw [hth] at hM
        repeat' (first | refine W1 ?_ | (exfalso; omega) | refine WL_split rfl rfl (fun hg => ?_) (fun hg => ?_) | refine WL_splitB rfl rfl (fun hg => ?_) (fun hg => ?_) | refine WC_cond rfl (fun hc => ?_) (fun hc => ?_) | refine WC_condB rfl (fun hc => ?_) (fun hc => ?_))
        cases hU : mustO l (([[116, 104, 101, 110], [101, 108, 115, 101]] : List Str)[k]) i2 o2 with
        | err a c =>
          rw [hU] at hM
          simp only [Option.some.injEq] at hM
          subst hM
          simp only [Option.some.injEq] at h
          subst h
          refine WL_pcall rfl (evs2 rfl rfl) (PC.falls (mustP_any b tv l hL _ hne i2 o2 _ hp) hU hS) rfl ?_
          intro wz hwz
          repeat' (first | refine WQ_then_panic ?_ | refine WQ_block_panic ?_)
          refine WQ_panic ?_
          exact PC.err hwz
        | ok u iC oC =>
          rw [hU] at hM
          simp only at hM
          have hoC := mustO_open hU
          refine WL_eff (OE_call rfl (evs2 rfl rfl) (PC.goes (mustP_any b tv l hL _ hne i2 o2 _ hp) hU)) rfl ?_
          rintro _ wC ⟨rfl, hpC, hT⟩
          have hbk : ∀ c ∈ [b], c ∈ b3 :: b2 :: X ∧ c ∉ ob kv := fun c hc => by
            simp only [List.mem_singleton] at hc
            subst hc
            exact ⟨by simp [hbX], fun h => by have := (hrow.ob_le c h).1; have := hp.lt; omega⟩
          replace hrow := hrow.ext (X' := b3 :: b2 :: X) hT hbk (fun c hc => .inl hc)
          replace e2 := e2.ext hT (by simpa using n2b)
          replace ew := ew.ext hT (by simpa using nwb)
          replace e3 := e3.ext hT (by simpa using n3b)
          replace hm := cell_up hm hb1 hT
          replace hS := hS.trans hT
          replace hsz := Nat.le_trans hsz hT.size
          clear hT hp hU hwv hth
          refine W ?_
          have hp := hpC
          cases hE : exprO l f (.expr 1) iC oC with
          | none => rw [hE] at hM; simp at hM
          | some r2 =>
            rw [hE] at hM
            obtain ⟨hpb, hps, hpi, hpl, hpo⟩ := id hp
            have hlb := hpb.lt
            have hlk := hrow.ob_le
            have hXk : ∀ c ∈ ob kv ++ (b3 :: b2 :: X), c < wC.heap.size := fun c hc => by
              rcases List.mem_append.1 hc with h | h
              · exact (hlk c h).2
              · exact Nat.lt_of_lt_of_le (hXb c h) hsz
            cases r2 with
            | err a c =>
              simp only [Option.some.injEq] at hM
              subst hM
              simp only [Option.some.injEq] at h
              subst h
              refine WC_drawnq 8 (b :: ob kv) [7] [(0, 0), (1, 1), (2, 0), (3, 2), (4, 2), (5, 2), (6, 0), (7, 2)] rfl mixed (by kernel_rfl) (by kernel_rfl) (by kernel_rfl) (fun w1 hS1 => ?_)
              replace hp := hp.up hS1; replace e3 := e3.up hS1
              replace hm := hS1.cell (by simp) hm
              replace hS := hS.trans (hS1.mono (by simp))
              have hsub := IH l hL m (.expr 1) iC oC _ hE (ob kv ++ (b3 :: b2 :: X)) b tv w1 hb1 (by simp [hbX]) (fun c hc => Nat.lt_of_lt_of_le (hXk c hc) hS1.size) hm hp (by omega) (by omega)
              refine WDq_free rfl trivial (fun _ => PR_fieldAddr rfl) rfl ?_
              refine WDq_read rfl trivial (fun w' hw => PR_load_blk rfl rfl (e3.ext hw (by simp only [List.mem_cons, not_or]; exact ⟨n3b, hn3⟩)) rfl) rfl ?_
              refine WDq_free rfl trivial (fun _ => PR_move rfl) rfl ?_
              refine WDq_pcall rfl trivial rfl (evs2 rfl rfl) (PC.falls hsub rfl hS) rfl ?_
              intro wz hwz
              repeat' (first | refine WQ_then_panic ?_ | refine WQ_block_panic ?_)
              refine WQ_panic ?_
              exact PC.err hwz
            | ok x i3 o3 =>
              simp only at hM
              refine WC_drawn 8 (b :: ob kv) [7] [(0, 0), (1, 1), (2, 0), (3, 2), (4, 2), (5, 2), (6, 0), (7, 2)] rfl mixed (by kernel_rfl) (by kernel_rfl) (by kernel_rfl) (fun w1 hS1 => ?_)
              replace hp := hp.up hS1; replace e3 := e3.up hS1; replace e2 := e2.up hS1; replace ew := ew.up hS1; replace hrow := hrow.up hS1
              replace hm := hS1.cell (by simp) hm
              replace hS := hS.trans (hS1.mono (by simp))
              have hsz1 := Nat.le_trans hsz hS1.size
              have hXk1 : ∀ c ∈ ob kv ++ (b3 :: b2 :: X), c < w1.heap.size := fun c hc => Nat.lt_of_lt_of_le (hXk c hc) hS1.size
              have hsub := IH l hL m (.expr 1) iC oC _ hE (ob kv ++ (b3 :: b2 :: X)) b tv w1 hb1 (by simp [hbX]) hXk1 hm hp (by omega) (by omega)
              clear hS1 hXk hpb hps hlk
              refine WF_fieldAddr rfl trivial rfl rfl ?_
              refine WR_load_blk rfl trivial rfl rfl e3 (by simp only [List.mem_cons, not_or]; exact ⟨n3b, hn3⟩) rfl rfl ?_
              refine WF_move rfl trivial rfl rfl ?_
              refine WD_eff rfl trivial (OE_call rfl (evs2 rfl rfl) (PC.goes hsub rfl)) (fun _ _ h => h.2.2.mono (by simp)) rfl ?_
              rintro _ w7 ⟨⟨kx, rfl, hx⟩, hp7, hT⟩
              have hbk : ∀ c ∈ [b], c ∈ b3 :: b2 :: X ∧ c ∉ ob kv := fun c hc => by
                simp only [List.mem_singleton] at hc
                subst hc
                exact ⟨by simp [hbX], fun h => by have := (hrow.ob_le c h).1; omega⟩
              replace hrow := hrow.ext (X' := b3 :: b2 :: X) hT hbk (fun c hc => .inl hc)
              replace e2 := e2.ext hT (by simpa using n2b)
              replace ew := ew.ext hT (by simpa using nwb)
              replace e3 := e3.ext hT (by simpa using n3b)
              replace hm := cell_up hm hb1 hT
              replace hS := hS.trans hT
              have hsz7 := Nat.le_trans hsz1 hT.size
              have hXk7 : ∀ c ∈ ob kv ++ (b3 :: b2 :: X), c < w7.heap.size := fun c hc => Nat.lt_of_lt_of_le (hXk1 c hc) hT.size
              clear hT hXk1 hsz1 hsub hp
              obtain ⟨px, cx, rfl, -⟩ := id hx
              refine WD_eff rfl trivial (OE_buildSlice (vs := [(0, .agg (ndC x (.slice px x.kids.length cx)).toArray)]) rfl (buildSN1 _ _ _ _ _ _)) (fun _ _ h => (NewSl.stp h).mono (by simp)) rfl ?_
              intro bv w8 hN
              have hbv : SlV (ob kv ++ (b3 :: b2 :: X)) w8 bv [x] := hN.slvG (css := [ndC x _]) hXk7 rfl rfl rfl (reps1 hx) (by simp [maxLen])
              have hT := NewSl.stp hN
              replace hp7 := hp7.up hT; replace e3 := e3.up hT; replace e2 := e2.up hT; replace ew := ew.up hT; replace hrow := hrow.up hT
              replace hm := hT.cell (by simp) hm
              replace hS := hS.trans (hT.mono (by simp))
              have hsz8 := Nat.le_trans hsz7 hT.size
              have hXk8 : ∀ c ∈ ob kv ++ (b3 :: b2 :: X), c < w8.heap.size := fun c hc => Nat.lt_of_lt_of_le (hXk7 c hc) hT.size
              clear hT hN hXk7 hsz7 hx
              have hbase : wB.heap.size ≤ w8.heap.size := Nat.le_trans hwB hsz8
              refine WD_eff rfl trivial (OE_append (X := b3 :: b2 :: X) (base := wB.heap.size) rfl (by decide) rfl rfl hrow hbv (by simp only [List.length_cons, List.length_nil]; omega) (by simp only [List.length_cons, List.length_nil, maxLen]; omega) hbase) (fun _ _ h => h.2.1.mono (fun c hc => List.mem_cons_of_mem _ hc)) rfl ?_
              rintro kv' w9 ⟨hrow', hT, hown⟩
              have hown1 : ∀ c ∈ ob kv, w.heap.size ≤ c := fun c hc => by have := (hrow.ob_le c hc).1; omega
              have hn3' : b3 ∉ ob kv' := fun h => by
                rcases hown _ h with h | h
                · exact hn3 h
                · have := hXk8 b3 (by simp); omega
              have hnw' : bw ∉ ob kv' := fun h => by
                rcases hown _ h with h | h
                · exact hnw h
                · have := ew.lt; omega
              have hn2' : b2 ∉ ob kv := fun h => by have := (hrow.ob_le _ h).1; omega
              have hn1 : (1 : Nat) ∉ ob kv := fun h => by have := (hrow.ob_le _ h).1; have := block_lt_of_cell hm0; simp at this; omega
              have hnX : ∀ c ∈ X, c ∉ ob kv' := fun c hc h => by
                have := (hrow'.ob_le _ h).1
                have := hX c hc
                omega
              replace e2 := e2.ext hT hn2'
              replace ew := ew.ext hT hnw
              replace e3 := e3.ext hT hn3
              replace hm := hT.cell hn1 hm
              replace hS := hS.own hT (fun c hc => .inr (hown1 c hc))
              replace hp7 : Pd w9 b tv l i3 o3 := by
                obtain ⟨g1, g2, g3, g4, g5⟩ := hp7
                exact ⟨g1.ext hT (fun h => by have := hown1 b h; omega), hs0.ext hS (fun c hc => hc) (fun c hc => .inl hc), g3, g4, g5⟩
              have hsz9 := Nat.le_trans hsz8 hT.size
              clear hT hbv hXk8 hrow
              refine WF_fieldAddr rfl trivial rfl rfl ?_
              refine WD_late0 rfl trivial (OE_store1 (u := kv') rfl rfl (row_cells hrow') (row_one hrow') e3 (by simp)) rfl ?_
              rintro _ w10 ⟨hT, e3'⟩
              replace e3' : Blk w10 b3 36 (ndC (.mk 9 0 [] (ks ++ [x])) kv') := e3'
              replace e2 := e2.ext hT (by simpa using n23)
              replace ew := ew.ext hT (by simpa using nw3)
              replace hm := hT.cell (by simpa using n31.symm) hm
              replace hS := hS.own hT (fun c hc => by simp at hc; subst hc; exact .inr hb3w)
              replace hp7 : Pd w10 b tv l i3 o3 := by
                obtain ⟨g1, g2, g3, g4, g5⟩ := hp7
                exact ⟨g1.ext hT (by simpa using n3b.symm), hs0.ext hS (fun c hc => hc) (fun c hc => .inl hc), g3, g4, g5⟩
              replace hrow' := hrow'.ext (X' := b3 :: b2 :: X) hT (fun c hc => by simp at hc; subst hc; exact ⟨by simp, hn3'⟩) (fun c hc => .inl hc)
              have hsz10 := Nat.le_trans hsz9 hT.size
              refine D ?_
              refine W ?_
              exact WQ_loop (k + 1, ks ++ [x], kv', i3, o3) ⟨rfl, rfl, rfl, rfl, rfl, rfl, trivial⟩ ⟨by rw [show 2 - (k + 1) = n' by omega]; exact hM, by omega, by simp; omega, by show o3 = o + 1; have := exprO_open l _ _ _ _ _ _ _ hE; omega, hp7, e3', hrow', hn3', hnw', ew, ⟨_, rfl, e2⟩, hm, hS, hsz10⟩ (by dsimp only; omega)
      · have hk : k = 2 := by omega
        subst hk
        simp only [Nat.sub_self, manyO, Option.some.injEq] at hM
        subst hM
        simp only at h
        have ho2 : 0 < o2 := by omega
        repeat' (first | refine W1 ?_ | (exfalso; omega) | refine WL_split rfl rfl (fun hg => ?_) (fun hg => ?_) | refine WL_splitB rfl rfl (fun hg => ?_) (fun hg => ?_) | refine WC_cond rfl (fun hc => ?_) (fun hc => ?_) | refine WC_condB rfl (fun hc => ?_) (fun hc => ?_))
        cases hC : closesO l [101, 110, 100] i2 o2 with
        | err a c =>
          rw [hC] at h
          simp only [Option.some.injEq] at h
          subst h
          refine WL_pcall rfl (evs2 rfl rfl) (PC.falls (closes_any b tv l hL _ (by decide) i2 o2 ho2 _ hp) hC hS) rfl ?_
          intro wz hwz
          repeat' (first | refine WQ_then_panic ?_ | refine WQ_block_panic ?_)
          refine WQ_panic ?_
          exact PC.err hwz
        | ok u i3 o3 =>
          rw [hC] at h
          simp only [Option.some.injEq] at h
          subst h
          refine WL_eff (OE_call rfl (evs2 rfl rfl) (PC.goes (closes_any b tv l hL _ (by decide) i2 o2 ho2 _ hp) hC)) rfl ?_
          rintro _ w7 ⟨rfl, hp7, hT⟩
          have hbk : ∀ c ∈ [b], c ∈ b3 :: b2 :: X ∧ c ∉ ob kv := fun c hc => by
            simp only [List.mem_singleton] at hc
            subst hc
            exact ⟨by simp [hbX], fun h => by have := (hrow.ob_le c h).1; have := hp.lt; omega⟩
          have hnX : ∀ c ∈ b3 :: b2 :: X, c ∉ ob kv := fun c hc h => by
            have h1 := (hrow.ob_le _ h).1
            rcases List.mem_cons.1 hc with rfl | hc
            · exact hn3 h
            · rcases List.mem_cons.1 hc with rfl | hc
              · omega
              · have := hX c hc; omega
          replace hrow := hrow.ext (X' := b3 :: b2 :: X) hT hbk (fun c hc => .inl hc)
          replace e2 := e2.ext hT (by simpa using n2b)
          replace e3 := e3.ext hT (by simpa using n3b)
          replace hS := hS.trans hT
          have hsl := hrow.slvN hnX
          refine W ?_
          refine WL_eff0 (OE_storeA (us := ndC (.mk 9 0 [] ks) kv) rfl rfl rfl rfl (ndC_one hsl) e2 rfl) ?_
          rintro _ wz ⟨hT, e2'⟩
          refine W ?_
          refine WQ_retc rfl rfl rfl e2' rfl ?_
          obtain ⟨hpb, hps, hpi, hpl, hpo⟩ := id hp7
          have hSx := hS.own hT (fun c hc => by simp at hc; subst hc; exact .inr hb2w)
          refine PC.ok ⟨_, rfl, ?_⟩ ⟨hpb.ext hT (by simpa using n2b.symm), hs0.ext hSx (fun c hc => hc) (fun c hc => .inl hc), hpi, hpl, hpo⟩ hSx
          exact (hsl.ext (X' := b3 :: b2 :: X) hT (fun c hc => by simp at hc; simp [hc]) (fun c hc => .inl hc)).wk (fun c hc => by simp [hc])
end Go.Proofs.YtgpibcgebpgmiaaGreatDoor


/-
The parser of expressions, walked: primaries, and the whole by induction on the fuel.
-/
namespace Go.Proofs.YtgpibcgebpgmiaaGreatDoor
open Go Go.Eng Go.RowKit Go.Proofs
set_option linter.unusedVariables false
theorem buildK1 (k n : Int) (w : World) : (Instr.build 36 #[(0, .int .i64 k), (1, .int .i64 n)]).run Tryz.prog w = .ok (.agg #[.int .i64 k, .int .i64 n, str [], .slice none 0 0]) w := by kernel_rfl
theorem buildK0 (k : Int) (w : World) : (Instr.build 36 #[(0, .int .i64 k)]).run Tryz.prog w = .ok (.agg #[.int .i64 k, .int .i64 0, str [], .slice none 0 0]) w := by kernel_rfl
theorem buildK2 (k : Int) (s : Str) (w : World) : (Instr.build 36 #[(0, .int .i64 k), (2, str s)]).run Tryz.prog w = .ok (.agg #[.int .i64 k, .int .i64 0, str s, .slice none 0 0]) w := by kernel_rfl
theorem fieldC_len : fieldC.length ≤ 1000000 := by decide
theorem funcC_len : funcC.length ≤ 1000000 := by decide
theorem fieldW_nil : ([] : Str) ∉ fieldW := by decide
set_option maxHeartbeats 4000000 in
theorem primE (f : Nat) (IH : ExprC f) (l : List Tkn) (hL : Toks l) (m : Int) (i o : Nat) (r : Out Nd) (h : exprO l (f + 1) .prim i o = some r) (X : List Nat) (b : Nat) (tv : Value) (w : World) (hb1 : b ≠ 1) (hbX : b ∈ X) (hX : ∀ c ∈ X, c < w.heap.size) (hm : w.cell? ⟨1, 0, none⟩ = some (.int .i64 m)) (hp : Pd w b tv l i o) :
    Calls Tryz.prog 162 #[.pointer (some ⟨b, 0, none⟩)] w (PC b w tv l r (fun x v w' => NdV X w' v x)) := by
  have hs0 := hp.2.1
  have hi := hp.i_lt
  have hcur := cur_of hi
  rw [exprO] at h
  refine calls_of_WC1 (n := 91) Tryz.func162 rfl rfl rfl ?_
  refine W ?_
  refine WL_eff OE_alloc rfl ?_
  rintro _ w0 ⟨b2, rfl, hb2, e2, hS⟩
  have n2 : b2 ≠ b := by have := hp.lt; omega
  have hb2w : w.heap.size ≤ b2 := hb2
  obtain ⟨hpb, hps, hpi, hpl, hpo⟩ := id hp
  replace hpb := hpb.up hS
  replace hps := hps.up hS
  replace hm := hS.cell (by simp) hm
  refine W ?_
  refine WC_drawn 12 [] [11] [(0, 0), (1, 0), (2, 0), (3, 1), (4, 0), (5, 0), (6, 0), (7, 1), (8, 0), (9, 1), (10, 2), (11, 2)] rfl mixed (by kernel_rfl) (by kernel_rfl) (by kernel_rfl) (fun w1 hS1 => ?_)
  replace hpb := hpb.up hS1
  replace hps := hps.up hS1
  replace e2 := e2.up hS1
  replace hm := hS1.cell (by simp) hm
  replace hS := hS.trans hS1
  clear hS1
  refine D ?_
  refine WD_eff rfl trivial OE_alloc (fun _ _ ⟨_, _, _, _, h⟩ => h) rfl ?_
  rintro _ w2 ⟨b3, rfl, hb3, e3, hS2⟩
  have n3 : b3 ≠ b := by have := hpb.lt; omega
  have n32 : b3 ≠ b2 := by have := e2.lt; omega
  have n31 : b3 ≠ 1 := by have := block_lt_of_cell hm; simp at this; omega
  have hb3w : w.heap.size ≤ b3 := Nat.le_trans hS.size hb3
  refine WD_late0 rfl trivial (OE_storeA (us := Flat.enc l[i]) rfl rfl rfl rfl (Flat.one _) e3 rfl) rfl ?_
  rintro _ w3 ⟨hT, e3⟩
  have hT0 := hS2.own hT (fun c hc => .inr (by simp at hc; omega))
  clear hT hS2
  replace hpb := hpb.up hT0
  replace hps := hps.up hT0
  replace e2 := e2.up hT0
  replace hm := hT0.cell (by simp) hm
  replace hS := hS.trans hT0
  clear hT0 hb3
  refine D ?_
  rw [← hcur] at e3
  clear hp
  have hp : Pd w3 b tv l i o := ⟨hpb, hps, hpi, hpl, hpo⟩
  have fin : ∀ (nd : Nd) (i' o' : Nat) (w4 w5 : World) (kv : Value), nd.kids = [] → kv = .slice none 0 0 → Pd w4 b tv l i' o' → Stp [b] w w4 → Stp [b2] w4 w5 → PC b w tv l (.ok nd i' o') (fun x v w' => NdV X w' v x) (.returned (.agg (ndC nd kv).toArray)) w5 := by
    intro nd i' o' w4 w5 kv hk hkv hp4 h1 h2
    subst hkv
    obtain ⟨g1, g2, g3, g4, g5⟩ := hp4
    have hSx := h1.own h2 (fun c hc => by simp at hc; subst hc; exact .inr hb2w)
    refine PC.ok ⟨_, rfl, ?_⟩ ⟨g1.ext h2 (by simpa using n2.symm), hs0.ext hSx (fun c hc => hc) (fun c hc => .inl hc), g3, g4, g5⟩ hSx
    rw [hk]
    exact nilSlvN _ _


  by_cases c1 : (cur l i).kind = 2
  · rw [if_pos c1] at h
    simp only [Option.some.injEq] at h
    subst h
    repeat' (first | refine W1 ?_ | (exfalso; omega) | refine WL_split rfl rfl (fun hg => ?_) (fun hg => ?_) | refine WL_splitB rfl rfl (fun hg => ?_) (fun hg => ?_) | refine WC_cond rfl (fun hc => ?_) (fun hc => ?_) | refine WC_condB rfl (fun hc => ?_) (fun hc => ?_))
    all_goals try exact absurd c1 (by assumption)
    obtain ⟨hpb, hps, hpi, hpl, hpo⟩ := id hp
    have hi1 := hL.end_of_kind hp.i_lt (by rw [c1]; decide)
    refine W ?_
    refine WL_eff0 (OE_store1 (u := .int .i64 ((i + 1 : Nat) : Int)) rfl (by show some _ = some _; simp) rfl rfl hpb (by simp)) ?_
    rintro _ w4 ⟨hT, hpb9⟩
    replace hps := hps.ext (X' := [b]) hT (fun c hc => hc) (fun c hc => .inl hc)
    replace e2 := e2.ext hT (by simpa using n2)
    replace e3 := e3.ext hT (by simpa using n3)
    replace hS := (hS.mono (S' := [b]) (by simp)).trans hT
    replace hp : Pd w4 b tv l (i + 1) o := ⟨hpb9, hps, hi1, hpl, hpo⟩
    clear hT hpb9 hpb hps
    refine W ?_
    apply WL_build (vs := [(0, .int .i64 1), (1, .int .i64 (cur l i).num)]) rfl (buildK1 _ _) rfl
    refine WL_eff0 (OE_storeA (us := ndC (.mk 1 (cur l i).num [] []) (.slice none 0 0)) rfl rfl rfl rfl (ndC_one (x := (.mk 1 (cur l i).num [] [])) (nilSlvN [] w)) e2 rfl) ?_
    rintro _ w5 ⟨hT, e2'⟩
    refine W ?_
    refine WQ_retc rfl rfl rfl e2' rfl ?_
    exact fin _ _ _ _ _ _ rfl rfl hp hS hT
  rw [if_neg c1] at h
  by_cases c2 : (cur l i).kind = 3
  · rw [if_pos c2] at h
    simp only [Option.some.injEq] at h
    subst h
    repeat' (first | refine W1 ?_ | (exfalso; omega) | refine WL_split rfl rfl (fun hg => ?_) (fun hg => ?_) | refine WL_splitB rfl rfl (fun hg => ?_) (fun hg => ?_) | refine WC_cond rfl (fun hc => ?_) (fun hc => ?_) | refine WC_condB rfl (fun hc => ?_) (fun hc => ?_))
    all_goals try exact absurd (by assumption) c1
    all_goals try exact absurd c2 (by assumption)
    obtain ⟨hpb, hps, hpi, hpl, hpo⟩ := id hp
    have hi1 := hL.end_of_kind hp.i_lt (by rw [c2]; decide)
    refine W ?_
    refine WL_eff0 (OE_store1 (u := .int .i64 ((i + 1 : Nat) : Int)) rfl (by show some _ = some _; simp) rfl rfl hpb (by simp)) ?_
    rintro _ w4 ⟨hT, hpb9⟩
    replace hps := hps.ext (X' := [b]) hT (fun c hc => hc) (fun c hc => .inl hc)
    replace e2 := e2.ext hT (by simpa using n2)
    replace e3 := e3.ext hT (by simpa using n3)
    replace hS := (hS.mono (S' := [b]) (by simp)).trans hT
    replace hp : Pd w4 b tv l (i + 1) o := ⟨hpb9, hps, hi1, hpl, hpo⟩
    clear hT hpb9 hpb hps
    refine W ?_
    apply WL_build (vs := [(0, .int .i64 3), (1, .int .i64 (cur l i).num)]) rfl (buildK1 _ _) rfl
    refine WL_eff0 (OE_storeA (us := ndC (.mk 3 (cur l i).num [] []) (.slice none 0 0)) rfl rfl rfl rfl (ndC_one (x := (.mk 3 (cur l i).num [] [])) (nilSlvN [] w)) e2 rfl) ?_
    rintro _ w5 ⟨hT, e2'⟩
    refine W ?_
    refine WQ_retc rfl rfl rfl e2' rfl ?_
    exact fin _ _ _ _ _ _ rfl rfl hp hS hT
  rw [if_neg c2] at h
  repeat' (first | refine W1 ?_ | (exfalso; omega) | refine WL_split rfl rfl (fun hg => ?_) (fun hg => ?_) | refine WL_splitB rfl rfl (fun hg => ?_) (fun hg => ?_) | refine WC_cond rfl (fun hc => ?_) (fun hc => ?_) | refine WC_condB rfl (fun hc => ?_) (fun hc => ?_))
  all_goals try exact absurd (by assumption) c1
  all_goals try exact absurd (by assumption) c2
  refine WL_eff (OE_call rfl (evs2 rfl rfl) (take_any b tv l [116, 114, 117, 101] i o _ hp (fun h => hL.end_of hp.i_lt (by rw [h]; decide)))) rfl ?_
  rintro _ w4 ⟨rfl, hp4, hT⟩
  replace e2 := e2.ext hT (by simpa using n2)
  replace e3 := e3.ext hT (by simpa using n3)
  replace hm := cell_up hm hb1 hT
  replace hS := (hS.mono (S' := [b]) (by simp)).trans hT
  clear hT hp
  by_cases c3 : (cur l i).text = [116, 114, 117, 101]
  · rw [if_pos c3] at h
    simp only [Option.some.injEq] at h
    subst h
    rw [if_pos c3] at hp4
    rw [decide_eq_true c3]
    have hp := hp4
    refine W ?_
    apply WL_build (vs := [(0, .int .i64 2), (1, .int .i64 1)]) rfl (buildK1 _ _) rfl
    refine WL_eff0 (OE_storeA (us := ndC (.mk 2 1 [] []) (.slice none 0 0)) rfl rfl rfl rfl (ndC_one (x := (.mk 2 1 [] [])) (nilSlvN [] w)) e2 rfl) ?_
    rintro _ w5 ⟨hT, e2'⟩
    refine W ?_
    refine WQ_retc rfl rfl rfl e2' rfl ?_
    exact fin _ _ _ _ _ _ rfl rfl hp hS hT
  rw [if_neg c3] at h hp4
  rw [decide_eq_false c3]
  refine W ?_
  refine WL_eff (OE_call rfl (evs2 rfl rfl) (take_any b tv l [102, 97, 108, 115, 101] i o _ hp4 (fun h => hL.end_of hp4.i_lt (by rw [h]; decide)))) rfl ?_
  rintro _ w5 ⟨rfl, hp5, hT⟩
  replace e2 := e2.ext hT (by simpa using n2)
  replace e3 := e3.ext hT (by simpa using n3)
  replace hm := cell_up hm hb1 hT
  replace hS := hS.trans hT
  clear hT hp4
  by_cases c4 : (cur l i).text = [102, 97, 108, 115, 101]
  · rw [if_pos c4] at h
    simp only [Option.some.injEq] at h
    subst h
    rw [if_pos c4] at hp5
    rw [decide_eq_true c4]
    have hp := hp5
    refine W ?_
    apply WL_build (vs := [(0, .int .i64 2)]) rfl (buildK0 _) rfl
    refine WL_eff0 (OE_storeA (us := ndC (.mk 2 0 [] []) (.slice none 0 0)) rfl rfl rfl rfl (ndC_one (x := (.mk 2 0 [] [])) (nilSlvN [] w)) e2 rfl) ?_
    rintro _ w6 ⟨hT, e2'⟩
    refine W ?_
    refine WQ_retc rfl rfl rfl e2' rfl ?_
    exact fin _ _ _ _ _ _ rfl rfl hp hS hT
  rw [if_neg c4] at h hp5
  rw [decide_eq_false c4]
  have hp := hp5
  clear hp5
  by_cases c5 : (cur l i).text = [40]
  · rw [if_pos c5] at h
    repeat' (first | refine W1 ?_ | (exfalso; omega) | refine WL_split rfl rfl (fun hg => ?_) (fun hg => ?_) | refine WL_splitB rfl rfl (fun hg => ?_) (fun hg => ?_) | refine WC_cond rfl (fun hc => ?_) (fun hc => ?_) | refine WC_condB rfl (fun hc => ?_) (fun hc => ?_))
    all_goals try exact absurd c5 (by assumption)
    cases hO : opensO l [40] i o with
    | err a c =>
      rw [hO] at h
      simp only [Option.some.injEq] at h
      subst h
      refine WL_pcall rfl (evs2 rfl rfl) (PC.falls (opens_any b tv l hL _ (by decide) i o _ hp) hO hS) rfl ?_
      intro wz hwz
      repeat' (first | refine WQ_then_panic ?_ | refine WQ_block_panic ?_)
      refine WQ_panic ?_
      exact PC.err hwz
    | ok t i1 o1 =>
      obtain ⟨hoo, hoi, hopt⟩ := opensO_open hO
      subst o1; subst i1
      rw [hO] at h
      simp only at h
      refine WL_eff (OE_call rfl (evs2 rfl rfl) (PC.goes (opens_any b tv l hL _ (by decide) i o _ hp) hO)) rfl ?_
      rintro _ wA ⟨rfl, hp2, hT⟩
      replace e2 := e2.ext hT (by simpa using n2)
      replace hm := cell_up hm hb1 hT
      replace hS := hS.trans hT
      clear hT hp e3
      have l2 := e2.lt
      have hXa : ∀ c ∈ b2 :: X, c < wA.heap.size := fun c hc => by
        rcases List.mem_cons.1 hc with rfl | hc
        · exact l2
        · have := hX c hc; have := hS.size; omega
      refine W ?_
      cases hE0 : exprO l f (.expr 1) (i + 1) (o + 1) with
      | none => rw [hE0] at h; simp at h
      | some r1 =>
      rw [hE0] at h
      have hsub := IH l hL m (.expr 1) (i + 1) (o + 1) r1 hE0 (b2 :: X) b tv wA hb1 (by simp [hbX]) hXa hm hp2 (by omega) (by omega)
      cases r1 with
      | err a c =>
        simp only [Option.some.injEq] at h
        subst h
        refine WL_pcall rfl (evs2 rfl rfl) (PC.falls hsub rfl hS) rfl ?_
        intro wz hwz
        repeat' (first | refine WQ_then_panic ?_ | refine WQ_block_panic ?_)
        refine WQ_panic ?_
        exact PC.err hwz
      | ok x iA oA =>
        have hoA := exprO_open l _ _ _ _ _ _ _ hE0
        simp only at h
        refine WL_eff (OE_call rfl (evs2 rfl rfl) (PC.goes hsub rfl)) rfl ?_
        rintro _ wB ⟨⟨kx, rfl, hx⟩, hp, hT⟩
        replace e2 := e2.ext hT (by simpa using n2)
        replace hm := cell_up hm hb1 hT
        replace hS := hS.trans hT
        clear hT hp2 hsub
        refine WL_eff OE_alloc rfl ?_
        rintro _ wC ⟨b4, rfl, hb4, e4, hT⟩
        have n42 : b4 ≠ b2 := by have := e2.lt; omega
        have n4 : b4 ≠ b := by have := hp.lt; omega
        refine WL_eff0 (OE_storeA (us := ndC x kx) rfl rfl rfl rfl (ndC_one hx) e4 rfl) ?_
        rintro _ wD ⟨hT2, e4'⟩
        replace hT := hT.own hT2 (fun c hc => .inr (by simp at hc; omega))
        clear hT2 e4
        replace hp := hp.up hT; replace e2 := e2.up hT; replace hx := hx.up hT
        replace hS := hS.trans (hT.mono (by simp))
        clear hT
        refine W ?_
        cases hC : closesO l [41] iA oA with
        | err a c =>
          rw [hC] at h
          simp only [Option.some.injEq] at h
          subst h
          refine WL_pcall rfl (evs2 rfl rfl) (PC.falls (closes_any b tv l hL _ (by decide) iA oA (by omega) _ hp) hC hS) rfl ?_
          intro wz hwz
          repeat' (first | refine WQ_then_panic ?_ | refine WQ_block_panic ?_)
          refine WQ_panic ?_
          exact PC.err hwz
        | ok u i3 o3 =>
          rw [hC] at h
          simp only [Option.some.injEq] at h
          subst h
          refine WL_eff (OE_call rfl (evs2 rfl rfl) (PC.goes (closes_any b tv l hL _ (by decide) iA oA (by omega) _ hp) hC)) rfl ?_
          rintro _ wE ⟨rfl, hp7, hT⟩
          replace e2 := e2.ext hT (by simpa using n2)
          replace e4' := e4'.ext hT (by simpa using n4)
          replace hx := hx.ext (X' := b2 :: X) hT (fun c hc => by simp at hc; subst hc; simp [hbX]) (fun c hc => .inl hc)
          replace hS := hS.trans hT
          clear hT hp
          refine W ?_
          refine WL_eff0 (OE_storeA (us := ndC x kx) rfl rfl rfl rfl (ndC_one hx) e2 rfl) ?_
          rintro _ wz ⟨hT, e2'⟩
          refine W ?_
          refine WQ_retc rfl rfl rfl e2' rfl ?_
          obtain ⟨g1, g2, g3, g4, g5⟩ := hp7
          have hSx := hS.own hT (fun c hc => by simp at hc; subst hc; exact .inr hb2w)
          refine PC.ok ⟨_, rfl, ?_⟩ ⟨g1.ext hT (by simpa using n2.symm), hs0.ext hSx (fun c hc => hc) (fun c hc => .inl hc), g3, g4, g5⟩ hSx
          exact (hx.ext (X' := b2 :: X) hT (fun c hc => by simp at hc; simp [hc]) (fun c hc => .inl hc)).wk (fun c hc => by simp [hc])
  rw [if_neg c5] at h
  by_cases c6 : (cur l i).text = [105, 102]
  · rw [if_pos c6] at h
    repeat' (first | refine W1 ?_ | (exfalso; omega) | refine WL_split rfl rfl (fun hg => ?_) (fun hg => ?_) | refine WL_splitB rfl rfl (fun hg => ?_) (fun hg => ?_) | refine WC_cond rfl (fun hc => ?_) (fun hc => ?_) | refine WC_condB rfl (fun hc => ?_) (fun hc => ?_))
    all_goals try exact absurd (by assumption) c5
    all_goals try exact absurd c6 (by assumption)
    have l2 := e2.lt
    have hXa : ∀ c ∈ b2 :: X, c < w5.heap.size := fun c hc => by
      rcases List.mem_cons.1 hc with rfl | hc
      · exact l2
      · have := hX c hc; have := hS.size; omega
    have hsub := choiceE f IH l hL m i o r h (b2 :: X) b tv _ hb1 (by simp [hbX]) hXa hm hp
    cases r with
    | err a c =>
      refine WL_pcall rfl (evs1 rfl) (PC.falls hsub rfl hS) rfl ?_
      intro wz hwz
      repeat' (first | refine WQ_then_panic ?_ | refine WQ_block_panic ?_)
      refine WQ_panic ?_
      exact PC.err hwz
    | ok x i3 o3 =>
      refine WL_eff (OE_call rfl (evs1 rfl) (PC.goes hsub rfl)) rfl ?_
      rintro _ wE ⟨⟨kx, rfl, hx⟩, hp7, hT⟩
      replace e2 := e2.ext hT (by simpa using n2)
      replace hS := hS.trans hT
      clear hT hp
      refine WL_eff0 (OE_storeA (us := ndC x kx) rfl rfl rfl rfl (ndC_one hx) e2 rfl) ?_
      rintro _ wz ⟨hT, e2'⟩
      refine W ?_
      refine WQ_retc rfl rfl rfl e2' rfl ?_
      obtain ⟨g1, g2, g3, g4, g5⟩ := hp7
      have hSx := hS.own hT (fun c hc => by simp at hc; subst hc; exact .inr hb2w)
      refine PC.ok ⟨_, rfl, ?_⟩ ⟨g1.ext hT (by simpa using n2.symm), hs0.ext hSx (fun c hc => hc) (fun c hc => .inl hc), g3, g4, g5⟩ hSx
      exact (hx.ext (X' := b2 :: X) hT (fun c hc => by simp at hc; simp [hc]) (fun c hc => .inl hc)).wk (fun c hc => by simp [hc])
  rw [if_neg c6] at h
  repeat' (first | refine W1 ?_ | (exfalso; omega) | refine WL_split rfl rfl (fun hg => ?_) (fun hg => ?_) | refine WL_splitB rfl rfl (fun hg => ?_) (fun hg => ?_) | refine WC_cond rfl (fun hc => ?_) (fun hc => ?_) | refine WC_condB rfl (fun hc => ?_) (fun hc => ?_))
  all_goals try exact absurd (by assumption) c5
  all_goals try exact absurd (by assumption) c6
  refine WL_eff (OE_call rfl (evs2 rfl rfl) (within_any funcC funcW funcW_nil (cur l i).text m _ hm funcC_len (hL.tl i) (fun h => func_iff h (hL.sp i)))) rfl ?_
  rintro _ w6 ⟨rfl, hT⟩
  replace hp := hp.up hT; replace e2 := e2.up hT; replace e3 := e3.up hT
  replace hm := hT.cell (by simp) hm
  replace hS := hS.trans (hT.mono (by simp))
  clear hT
  by_cases c7 : (cur l i).text ∈ funcW
  · rw [if_pos c7] at h
    rw [decide_eq_true c7]
    refine W ?_
    have l2 := e2.lt
    have hXa : ∀ c ∈ b2 :: X, c < w6.heap.size := fun c hc => by
      rcases List.mem_cons.1 hc with rfl | hc
      · exact l2
      · have := hX c hc; have := hS.size; omega
    have hsub := callE f IH l hL m i o r c7 h (b2 :: X) b tv _ hb1 (by simp [hbX]) hXa hm hp
    cases r with
    | err a c =>
      refine WL_pcall rfl (evs1 rfl) (PC.falls hsub rfl hS) rfl ?_
      intro wz hwz
      repeat' (first | refine WQ_then_panic ?_ | refine WQ_block_panic ?_)
      refine WQ_panic ?_
      exact PC.err hwz
    | ok x i3 o3 =>
      refine WL_eff (OE_call rfl (evs1 rfl) (PC.goes hsub rfl)) rfl ?_
      rintro _ wE ⟨⟨kx, rfl, hx⟩, hp7, hT⟩
      replace e2 := e2.ext hT (by simpa using n2)
      replace hS := hS.trans hT
      clear hT hp
      refine WL_eff0 (OE_storeA (us := ndC x kx) rfl rfl rfl rfl (ndC_one hx) e2 rfl) ?_
      rintro _ wz ⟨hT, e2'⟩
      refine W ?_
      refine WQ_retc rfl rfl rfl e2' rfl ?_
      obtain ⟨g1, g2, g3, g4, g5⟩ := hp7
      have hSx := hS.own hT (fun c hc => by simp at hc; subst hc; exact .inr hb2w)
      refine PC.ok ⟨_, rfl, ?_⟩ ⟨g1.ext hT (by simpa using n2.symm), hs0.ext hSx (fun c hc => hc) (fun c hc => .inl hc), g3, g4, g5⟩ hSx
      exact (hx.ext (X' := b2 :: X) hT (fun c hc => by simp at hc; simp [hc]) (fun c hc => .inl hc)).wk (fun c hc => by simp [hc])
  rw [if_neg c7] at h
  rw [decide_eq_false c7]
  refine W ?_
  refine WL_eff (OE_call rfl (evs2 rfl rfl) (within_any fieldC fieldW fieldW_nil (cur l i).text m _ hm fieldC_len (hL.tl i) (fun h => field_iff h (hL.sp i)))) rfl ?_
  rintro _ w7 ⟨rfl, hT⟩
  replace hp := hp.up hT; replace e2 := e2.up hT; replace e3 := e3.up hT
  replace hm := hT.cell (by simp) hm
  replace hS := hS.trans (hT.mono (by simp))
  clear hT
  by_cases c8 : (cur l i).text ∈ fieldW
  · rw [if_pos c8] at h
    simp only [Option.some.injEq] at h
    subst h
    rw [decide_eq_true c8]
    obtain ⟨hpb, hps, hpi, hpl, hpo⟩ := id hp
    have hi1 := hL.end_of hp.i_lt (fun e => fieldW_nil (e ▸ c8))
    refine W ?_
    refine WL_eff0 (OE_store1 (u := .int .i64 ((i + 1 : Nat) : Int)) rfl (by show some _ = some _; simp) rfl rfl hpb (by simp)) ?_
    rintro _ w8 ⟨hT, hpb9⟩
    replace hps := hps.ext (X' := [b]) hT (fun c hc => hc) (fun c hc => .inl hc)
    replace e2 := e2.ext hT (by simpa using n2)
    replace e3 := e3.ext hT (by simpa using n3)
    replace hS := hS.trans hT
    replace hp : Pd w8 b tv l (i + 1) o := ⟨hpb9, hps, hi1, hpl, hpo⟩
    clear hT hpb9 hpb hps
    refine W ?_
    apply WL_build (vs := [(0, .int .i64 4), (2, str (cur l i).text)]) rfl (buildK2 _ _) rfl
    refine WL_eff0 (OE_storeA (us := ndC (.mk 4 0 (cur l i).text []) (.slice none 0 0)) rfl rfl rfl rfl (ndC_one (x := (.mk 4 0 (cur l i).text [])) (nilSlvN [] w)) e2 rfl) ?_
    rintro _ w9 ⟨hT, e2'⟩
    refine W ?_
    refine WQ_retc rfl rfl rfl e2' rfl ?_
    exact fin _ _ _ _ _ _ rfl rfl hp hS hT
  rw [if_neg c8] at h
  simp only [Option.some.injEq] at h
  subst h
  rw [decide_eq_false c8]
  refine W ?_
  refine WL_pcall rfl (evs2 rfl rfl) (failS b tv l i o 20 _ w hp hS) rfl ?_
  intro wz hwz
  repeat' (first | refine WQ_then_panic ?_ | refine WQ_block_panic ?_)
  refine WQ_panic ?_
  exact PC.fail hwz
theorem expr8 {l : List Tkn} {m : Int} {i o : Nat} {r : Out Nd} (IH : ∀ (X : List Nat) (b : Nat) (tv : Value) (w : World), b ≠ 1 → b ∈ X → (∀ c ∈ X, c < w.heap.size) → w.cell? ⟨1, 0, none⟩ = some (.int .i64 m) → Pd w b tv l i o →
      Calls Tryz.prog 162 #[.pointer (some ⟨b, 0, none⟩)] w (PC b w tv l r (fun x v w' => NdV X w' v x))) (X : List Nat) (b : Nat) (tv : Value) (w : World) (hb1 : b ≠ 1) (hbX : b ∈ X) (hX : ∀ c ∈ X, c < w.heap.size) (hm : w.cell? ⟨1, 0, none⟩ = some (.int .i64 m)) (hp : Pd w b tv l i o) :
    Calls Tryz.prog 119 #[.pointer (some ⟨b, 0, none⟩), .int .i64 ((8 : Nat) : Int)] w (PC b w tv l r (fun x v w' => NdV X w' v x)) := by
  have hs0 := hp.2.1
  refine calls_of_WC2 (n := 98) Tryz.func119 rfl rfl rfl ?_
  refine W ?_
  refine WL_eff OE_alloc rfl ?_
  rintro _ w1 ⟨b4, rfl, hb4, e4, hS⟩
  have n4 : b4 ≠ b := by have := hp.lt; omega
  have hb4w : w.heap.size ≤ b4 := hb4
  replace hm := hS.cell (by simp) hm
  replace hp := hp.up hS
  have l4 := e4.lt
  have hX1 : ∀ c ∈ b4 :: X, c < w1.heap.size := fun c hc => by
    rcases List.mem_cons.1 hc with rfl | hc
    · exact l4
    · have := hX c hc; have := hS.size; omega
  repeat' (first | refine W1 ?_ | (exfalso; omega) | refine WL_split rfl rfl (fun hg => ?_) (fun hg => ?_) | refine WL_splitB rfl rfl (fun hg => ?_) (fun hg => ?_) | refine WC_cond rfl (fun hc => ?_) (fun hc => ?_) | refine WC_condB rfl (fun hc => ?_) (fun hc => ?_))
  have hsub := IH (b4 :: X) b tv _ hb1 (by simp [hbX]) hX1 hm hp
  cases r with
  | err a c =>
    refine WL_pcall rfl (evs1 rfl) (PC.falls hsub rfl (hS.mono (by simp))) rfl ?_
    intro wz hwz
    repeat' (first | refine WQ_then_panic ?_ | refine WQ_block_panic ?_)
    refine WQ_panic ?_
    exact PC.err hwz
  | ok x i3 o3 =>
    refine WL_eff (OE_call rfl (evs1 rfl) (PC.goes hsub rfl)) rfl ?_
    rintro _ wE ⟨⟨kx, rfl, hx⟩, hp7, hT⟩
    replace e4 := e4.ext hT (by simpa using n4)
    replace hS := (hS.mono (S' := [b]) (by simp)).trans hT
    clear hT hp
    refine WL_eff0 (OE_storeA (us := ndC x kx) rfl rfl rfl rfl (ndC_one hx) e4 rfl) ?_
    rintro _ wz ⟨hT, e4'⟩
    refine W ?_
    refine WQ_retc rfl rfl rfl e4' rfl ?_
    obtain ⟨g1, g2, g3, g4, g5⟩ := hp7
    have hSx := hS.own hT (fun c hc => by simp at hc; subst hc; exact .inr hb4w)
    refine PC.ok ⟨_, rfl, ?_⟩ ⟨g1.ext hT (by simpa using n4.symm), hs0.ext hSx (fun c hc => hc) (fun c hc => .inl hc), g3, g4, g5⟩ hSx
    exact (hx.ext (X' := b4 :: X) hT (fun c hc => by simp at hc; simp [hc]) (fun c hc => .inl hc)).wk (fun c hc => by simp [hc])
/-- the parser of expressions -/
theorem exprC_all : ∀ f, ExprC f := by
  intro f
  induction f using Nat.strongRecOn with
  | _ f ih =>
    intro l hL m c i o r h X b tv w hb1 hbX hX hm hp
    cases f with
    | zero => simp [exprO] at h
    | succ f =>
      have IH := ih f (Nat.lt_succ_self f)
      cases c with
      | loop k x => trivial
      | prim => exact primE f IH l hL m i o r h X b tv w hb1 hbX hX hm hp
      | expr k =>
        intro hk1 hk8
        rw [exprO] at h
        split at h
        · rename_i hsp
          exact exprU f IH l hL m k i o r hk8 hsp h X b tv w hb1 hbX hX hm hp
        · rename_i hsp
          split at h
          · rename_i h8
            subst h8
            exact expr8 (IH l hL m .prim i o r h) X b tv w hb1 hbX hX hm hp
          · exact exprB f (fun f' hf' => ih f' (by omega)) l hL m k i o r hk1 (by omega) hsp h X b tv w hb1 hbX hX hm hp
end Go.Proofs.YtgpibcgebpgmiaaGreatDoor


namespace Go.Proofs.YtgpibcgebpgmiaaGreatDoor
open Go Go.Eng Go.RowKit
set_option linter.unusedVariables false

/-- the error of an expression that must have a type -/
def mustF (x : Nd) (want : Int) : Int := if nestN x ≤ 12 then (if typeT x = 0 then 21 else if typeT x = want then 0 else 21) else 2
theorem must_any (v : Value) (x : Nd) (want : Int) (w : World) (hx : NdV [] w v x) (hF : SlV [] w flds fieldNames) : Calls Tryz.prog 58 #[v, .int .i64 want] w (Ret fun r w' => r = .int .i64 (mustF x want) ∧ Stp [] w w') := by
  obtain ⟨kv, rfl, hs⟩ := hx
  refine calls_of_WC2 (n := 20) Tryz.func58 rfl rfl rfl ?_
  refine W ?_
  refine WL_eff (OE_box rfl) rfl ?_
  rintro _ w1 ⟨b, rfl, hb, hblk, hS⟩
  replace hblk : Blk w1 b _ (ndC x kv) := hblk
  refine W ?_
  refine WL_eff (OE_call rfl (evs1 rfl) (Of_any [] [] _ x _ ⟨kv, rfl, hs.up hS⟩ (hF.up hS))) rfl ?_
  rintro _ w2 ⟨rfl, hS2⟩
  replace hS := hS.trans hS2
  unfold mustF
  by_cases hn : nestN x ≤ 12
  · rw [if_pos hn, if_pos hn, if_pos hn]
    by_cases ht : typeT x = 0
    · rw [if_pos ht, if_pos ht]
      repeat' (first | refine W1 ?_ | (exfalso; omega) | refine WL_split rfl rfl (fun hg => ?_) (fun hg => ?_) | refine WL_splitB rfl rfl (fun hg => ?_) (fun hg => ?_) | refine WC_cond rfl (fun hc => ?_) (fun hc => ?_) | refine WC_condB rfl (fun hc => ?_) (fun hc => ?_))
      first | refine WQ_ret1 rfl rfl ?_ | refine WQ_ret2 rfl rfl rfl ?_ | refine WQ_ret3 rfl rfl rfl rfl ?_ | refine WQ_ret0 rfl ?_ | refine WQ_end0 rfl ?_
      exact .mk ⟨rfl, hS⟩
    · rw [if_neg ht, if_neg ht]
      by_cases hw : typeT x = want
      · rw [if_pos hw]
        repeat' (first | refine W1 ?_ | (exfalso; omega) | refine WL_split rfl rfl (fun hg => ?_) (fun hg => ?_) | refine WL_splitB rfl rfl (fun hg => ?_) (fun hg => ?_) | refine WC_cond rfl (fun hc => ?_) (fun hc => ?_) | refine WC_condB rfl (fun hc => ?_) (fun hc => ?_))
        first | refine WQ_ret1 rfl rfl ?_ | refine WQ_ret2 rfl rfl rfl ?_ | refine WQ_ret3 rfl rfl rfl rfl ?_ | refine WQ_ret0 rfl ?_ | refine WQ_end0 rfl ?_
        exact .mk ⟨rfl, hS⟩
      · rw [if_neg hw]
        repeat' (first | refine W1 ?_ | (exfalso; omega) | refine WL_split rfl rfl (fun hg => ?_) (fun hg => ?_) | refine WL_splitB rfl rfl (fun hg => ?_) (fun hg => ?_) | refine WC_cond rfl (fun hc => ?_) (fun hc => ?_) | refine WC_condB rfl (fun hc => ?_) (fun hc => ?_))
        first | refine WQ_ret1 rfl rfl ?_ | refine WQ_ret2 rfl rfl rfl ?_ | refine WQ_ret3 rfl rfl rfl rfl ?_ | refine WQ_ret0 rfl ?_ | refine WQ_end0 rfl ?_
        exact .mk ⟨rfl, hS⟩
  · rw [if_neg hn, if_neg hn, if_neg hn]
    repeat' (first | refine W1 ?_ | (exfalso; omega) | refine WL_split rfl rfl (fun hg => ?_) (fun hg => ?_) | refine WL_splitB rfl rfl (fun hg => ?_) (fun hg => ?_) | refine WC_cond rfl (fun hc => ?_) (fun hc => ?_) | refine WC_condB rfl (fun hc => ?_) (fun hc => ?_))
    first | refine WQ_ret1 rfl rfl ?_ | refine WQ_ret2 rfl rfl rfl ?_ | refine WQ_ret3 rfl rfl rfl rfl ?_ | refine WQ_ret0 rfl ?_ | refine WQ_end0 rfl ?_
    exact .mk ⟨rfl, hS⟩
end Go.Proofs.YtgpibcgebpgmiaaGreatDoor


namespace Go.Proofs.YtgpibcgebpgmiaaGreatDoor
open Go Go.Eng Go.RowKit
set_option linter.unusedVariables false

/-! ### rules -/
structure Rul where
  name : Str
  frm : Int
  on : Str
  cnd : Nd
  due : Nd
  unl : Str
  els : Str
abbrev rlC (r : Rul) (ki kd : Value) : List Value := [str r.name, .int .i64 r.frm, str r.on, .int .i64 r.cnd.kind, .int .i64 r.cnd.num, str r.cnd.word, ki, .int .i64 r.due.kind, .int .i64 r.due.num, str r.due.word, kd, str r.unl, str r.els]
/-- the value of a rule -/
def RulV (X : List Nat) (w : World) (v : Value) (r : Rul) : Prop := ∃ ki kd, v = .agg (rlC r ki kd).toArray ∧ SlV X w ki r.cnd.kids ∧ SlV X w kd r.due.kids
theorem RulV.up {X : List Nat} {w w' : World} {v : Value} {r : Rul} (h : RulV X w v r) (hS : Stp [] w w') : RulV X w' v r := by
  obtain ⟨ki, kd, rfl, h1, h2⟩ := h
  exact ⟨ki, kd, rfl, h1.up hS, h2.up hS⟩
/-- the names are good -/
def namesT (r : Rul) : Bool := namedT r.name && namedT r.on && (decide (r.unl = []) || namedT r.unl) && (decide (r.els = []) || namedT r.els)
/-- the error of a rule -/
def checkT (r : Rul) : Int := if namesT r = false then 7 else if r.frm < 0 ∨ r.frm > 3652058 then 5 else if mustF r.cnd 2 ≠ 0 then mustF r.cnd 2 else mustF r.due 3
theorem Check14_any (v : Value) (r : Rul) (m : Int) (w : World) (hv : RulV [] w v r) (hF : SlV [] w flds fieldNames) (hm : w.cell? ⟨1, 0, none⟩ = some (.int .i64 m)) :
    Calls Tryz.prog 18 #[v] w (Ret fun r' w' => r' = .int .i64 (checkT r) ∧ Stp [] w w') := by
  obtain ⟨ki, kd, rfl, hi, hd⟩ := hv
  refine calls_of_WC1 (n := 55) Tryz.func18 rfl rfl rfl ?_
  refine W ?_
  refine WL_eff (OE_box rfl) rfl ?_
  rintro _ w1 ⟨b, rfl, hb, hblk, hS⟩
  replace hblk : Blk w1 b _ (rlC r ki kd) := hblk
  refine W ?_
  refine WL_eff (OE_call rfl (evs1 rfl) (named_any r.name m _ (hF.up hS) (hS.cell (by simp) hm))) rfl ?_
  rintro _ w2 ⟨rfl, hT⟩
  replace hblk := hblk.up hT
  replace hS := hS.trans hT
  clear hT
  refine WL_cutQ (σ := Bool) (fun q => [(1, .pointer (some ⟨b, 0, none⟩)), (2, .int .i64 0), (4, .bool q)]) (fun q w' => Blk w' b 38 (rlC r ki kd) ∧ Stp [] w w' ∧ q = !namesT r) ?_ ?_
  · cases hA : namedT r.name with
    | false =>
      refine W ?_
      exact WQ_cut true ⟨rfl, rfl, rfl, trivial⟩ ⟨hblk, hS, by simp [namesT, *]⟩
    | true =>
      refine W ?_
      refine WL_eff (OE_call rfl (evs1 rfl) (named_any r.on m _ (hF.up hS) (hS.cell (by simp) hm))) rfl ?_
      rintro _ w2 ⟨rfl, hT⟩
      replace hblk := hblk.up hT
      replace hS := hS.trans hT
      clear hT
      cases hB : namedT r.on with
      | false =>
        refine W ?_
        exact WQ_cut true ⟨rfl, rfl, rfl, trivial⟩ ⟨hblk, hS, by simp [namesT, *]⟩
      | true =>
        repeat' (first | refine W1 ?_ | (exfalso; omega) | refine WL_split rfl rfl (fun hg => ?_) (fun hg => ?_) | refine WL_splitB rfl rfl (fun hg => ?_) (fun hg => ?_) | refine WC_cond rfl (fun hc => ?_) (fun hc => ?_) | refine WC_condB rfl (fun hc => ?_) (fun hc => ?_))
        · refine WL_eff (OE_call rfl (evs1 rfl) (named_any r.unl m _ (hF.up hS) (hS.cell (by simp) hm))) rfl ?_
          rintro _ w2 ⟨rfl, hT⟩
          replace hblk := hblk.up hT
          replace hS := hS.trans hT
          clear hT
          cases hC : namedT r.unl with
          | false =>
            refine W ?_
            exact WQ_cut true ⟨rfl, rfl, rfl, trivial⟩ ⟨hblk, hS, by simp [namesT, *]⟩
          | true =>
            repeat' (first | refine W1 ?_ | (exfalso; omega) | refine WL_split rfl rfl (fun hg => ?_) (fun hg => ?_) | refine WL_splitB rfl rfl (fun hg => ?_) (fun hg => ?_) | refine WC_cond rfl (fun hc => ?_) (fun hc => ?_) | refine WC_condB rfl (fun hc => ?_) (fun hc => ?_))
            · refine WL_eff (OE_call rfl (evs1 rfl) (named_any r.els m _ (hF.up hS) (hS.cell (by simp) hm))) rfl ?_
              rintro _ w2 ⟨rfl, hT⟩
              replace hblk := hblk.up hT
              replace hS := hS.trans hT
              clear hT
              cases hD : namedT r.els with
              | false =>
                refine W ?_
                exact WQ_cut true ⟨rfl, rfl, rfl, trivial⟩ ⟨hblk, hS, by simp [namesT, *]⟩
              | true =>
                refine W ?_
                exact WQ_cut false ⟨rfl, rfl, rfl, trivial⟩ ⟨hblk, hS, by simp [namesT, *]⟩
            · exact WQ_cut false ⟨rfl, rfl, rfl, trivial⟩ ⟨hblk, hS, by simp [namesT, *]⟩
        · refine WL_eff (OE_call rfl (evs1 rfl) (named_any r.els m _ (hF.up hS) (hS.cell (by simp) hm))) rfl ?_
          rintro _ w2 ⟨rfl, hT⟩
          replace hblk := hblk.up hT
          replace hS := hS.trans hT
          clear hT
          cases hD : namedT r.els with
          | false =>
            refine W ?_
            exact WQ_cut true ⟨rfl, rfl, rfl, trivial⟩ ⟨hblk, hS, by simp [namesT, *]⟩
          | true =>
            refine W ?_
            exact WQ_cut false ⟨rfl, rfl, rfl, trivial⟩ ⟨hblk, hS, by simp [namesT, *]⟩
        · exact WQ_cut false ⟨rfl, rfl, rfl, trivial⟩ ⟨hblk, hS, by simp [namesT, *]⟩
  rintro q w3 ⟨hblk, hS, hq⟩
  try dsimp only at hq ⊢
  unfold checkT
  cases hnm : namesT r with
  | false =>
    rw [hnm] at hq
    subst hq
    refine W ?_
    first | refine WQ_ret1 rfl rfl ?_ | refine WQ_ret2 rfl rfl rfl ?_ | refine WQ_ret3 rfl rfl rfl rfl ?_ | refine WQ_ret0 rfl ?_ | refine WQ_end0 rfl ?_
    exact .mk ⟨rfl, hS⟩
  | true =>
    rw [hnm] at hq
    subst hq
    refine W ?_
    by_cases hr : r.frm < 0 ∨ r.frm > 3652058
    · repeat' (first | refine W1 ?_ | (exfalso; omega) | refine WL_split rfl rfl (fun hg => ?_) (fun hg => ?_) | refine WL_splitB rfl rfl (fun hg => ?_) (fun hg => ?_) | refine WC_cond rfl (fun hc => ?_) (fun hc => ?_) | refine WC_condB rfl (fun hc => ?_) (fun hc => ?_))
      all_goals
        first | refine WQ_ret1 rfl rfl ?_ | refine WQ_ret2 rfl rfl rfl ?_ | refine WQ_ret3 rfl rfl rfl rfl ?_ | refine WQ_ret0 rfl ?_ | refine WQ_end0 rfl ?_
        exact .mk ⟨by rw [if_neg (by decide), if_pos hr], hS⟩
    repeat' (first | refine W1 ?_ | (exfalso; omega) | refine WL_split rfl rfl (fun hg => ?_) (fun hg => ?_) | refine WL_splitB rfl rfl (fun hg => ?_) (fun hg => ?_) | refine WC_cond rfl (fun hc => ?_) (fun hc => ?_) | refine WC_condB rfl (fun hc => ?_) (fun hc => ?_))
    apply WL_pure (PR_loadN_blk (us := ndC r.cnd ki) rfl rfl hblk rfl rfl) rfl
    refine W ?_
    refine WL_eff (OE_call rfl (evs2 rfl rfl) (must_any _ r.cnd 2 _ ⟨ki, rfl, hi.up hS⟩ (hF.up hS))) rfl ?_
    rintro _ w4 ⟨rfl, hT⟩
    replace hblk := hblk.up hT
    replace hS := hS.trans hT
    clear hT
    by_cases h2 : mustF r.cnd 2 = 0
    · repeat' (first | refine W1 ?_ | (exfalso; omega) | refine WL_split rfl rfl (fun hg => ?_) (fun hg => ?_) | refine WL_splitB rfl rfl (fun hg => ?_) (fun hg => ?_) | refine WC_cond rfl (fun hc => ?_) (fun hc => ?_) | refine WC_condB rfl (fun hc => ?_) (fun hc => ?_))
      apply WL_pure (PR_loadN_blk (us := ndC r.due kd) rfl rfl hblk rfl rfl) rfl
      refine W ?_
      refine WL_eff (OE_call rfl (evs2 rfl rfl) (must_any _ r.due 3 _ ⟨kd, rfl, hd.up hS⟩ (hF.up hS))) rfl ?_
      rintro _ w5 ⟨rfl, hT⟩
      refine W ?_
      first | refine WQ_ret1 rfl rfl ?_ | refine WQ_ret2 rfl rfl rfl ?_ | refine WQ_ret3 rfl rfl rfl rfl ?_ | refine WQ_ret0 rfl ?_ | refine WQ_end0 rfl ?_
      exact .mk ⟨by rw [if_neg (by decide), if_neg hr, if_neg (by simpa using h2)], hS.trans hT⟩
    · repeat' (first | refine W1 ?_ | (exfalso; omega) | refine WL_split rfl rfl (fun hg => ?_) (fun hg => ?_) | refine WL_splitB rfl rfl (fun hg => ?_) (fun hg => ?_) | refine WC_cond rfl (fun hc => ?_) (fun hc => ?_) | refine WC_condB rfl (fun hc => ?_) (fun hc => ?_))
      first | refine WQ_ret1 rfl rfl ?_ | refine WQ_ret2 rfl rfl rfl ?_ | refine WQ_ret3 rfl rfl rfl rfl ?_ | refine WQ_ret0 rfl ?_ | refine WQ_end0 rfl ?_
      exact .mk ⟨by rw [if_neg (by decide), if_neg hr, if_pos h2], hS⟩
end Go.Proofs.YtgpibcgebpgmiaaGreatDoor


/-
The parser of rules, walked.
-/
namespace Go.Eng
open Go Go.RowKit Go.Proofs
set_option linter.unusedVariables false
section
variable {P : Program} {n : Nat} {Q : Exit → Act → World → Prop} {e : Env} {w : World} {ops : Array Oper} {rest : List Oper} {ty : TypeId} {pos : String} {af : Array Edge}
theorem OE_callB {d : Option Nat} {g : Option (Nat × Bool)} {f : Nat} {fn : Func} {xs : Array Operand} {ts : Array TypeId} {vs bd cap us : Array Value} {G : Value → World → Prop} {c : Operand} [hf : Fun P f fn] (hc : ev e c = some (.func (.func f) bd cap))
    (hv : ∀ a, Has n e a → xs.map a.eval = vs) (hu : bd ++ vs ++ cap = us) (h : Calls P f us w (Ret G)) :
    OE P n ⟨d, .call { callee := .value c, args := xs, argTypes := ts }, ty, pos, af, g⟩ e w G :=
  ⟨fun a ha Q => by
    have he : (execOp a.eval ⟨d, .call { callee := .value c, args := xs, argTypes := ts }, ty, pos, af, g⟩).run P w = .ok (.enter f us) w := by
      simp only [execOp, resolve, ha.ev hc, Deferred.ofValue, hv a ha]
      simp [invoke]
      rw [← Array.append_assoc, hu]
      exact hf.enters us w
    unfold Oper.wp
    rw [he]
    simp only [Oper.upon]
    refine h.mono ?_
    rintro r w' ⟨v, rfl, hg⟩
    exact ⟨v, rfl, hg⟩⟩
theorem WL_pcallB {d : Nat} {f : Nat} {fn : Func} {xs : Array Operand} {ts : Array TypeId} {vs bd cap us : Array Value} {c : Operand} {ch : List PanicEntry} {F : World → Prop} [hf : Fun P f fn]
    (hc : ev e c = some (.func (.func f) bd cap)) (hv : ∀ a, Has n e a → xs.map a.eval = vs) (hu : bd ++ vs ++ cap = us) (h : Calls P f us w (fun e w' => e = .panicked ch ∧ F w')) (hd : Nat.blt d n = true) (k : ∀ w', F w' → WQ n Q (.panic ch) [] w') :
    WL P n ops Q (⟨some d, .call { callee := .value c, args := xs, argTypes := ts }, ty, pos, af, none⟩ :: rest) e w :=
  WL_effP (G := fun _ _ => False) (F := fun ch' w' => ch' = ch ∧ F w') (OEP_callB hc hv hu (h.mono fun e w' ⟨h1, h2⟩ => by rw [h1]; exact .pan ⟨rfl, h2⟩)) hd (fun ch' w' ⟨h1, h2⟩ => by subst h1; exact WQ_forget (k w' h2)) (fun _ _ h => h.elim)
theorem PR_makeFuncB1 {d : Option Nat} {g : Option (Nat × Bool)} {f : Nat} {x : Operand} {v : Value} (hx : ev e x = some v) : PR P n ⟨d, .makeFunc (.func f) #[x] #[], ty, pos, af, g⟩ e w (.func (.func f) #[v] #[]) :=
  ⟨fun a ha => by simp [execOp, Instr.makeFunc, ha.ev hx]⟩
end
end Go.Eng
namespace Go.Proofs.YtgpibcgebpgmiaaGreatDoor
open Go Go.Eng Go.RowKit Go.Proofs
set_option linter.unusedVariables false
def _root_.Go.Eng.RuleM.rul (r : RuleM) : Rul := ⟨r.name, r.frm, r.on, r.cond, r.due, r.unl, r.els⟩
instance : GoRep Rul where
  k := 13
  rep := fun X w r cs => ∃ ki kd, cs = rlC r ki kd ∧ SlV X w ki r.cnd.kids ∧ SlV X w kd r.due.kids
  len := by rintro X w r cs ⟨ki, kd, rfl, _⟩; rfl
  one := by
    rintro X w r cs ⟨ki, kd, rfl, h1, h2⟩ c hc
    have e1 := h1.one
    have e2 := h2.one
    simp only [rlC, List.mem_cons, List.not_mem_nil, or_false] at hc
    rcases hc with rfl | rfl | rfl | rfl | rfl | rfl | rfl | rfl | rfl | rfl | rfl | rfl | rfl <;> first | rfl | exact e1 | exact e2
  ext := by
    rintro X S X' w w' r cs ⟨ki, kd, rfl, h1, h2⟩ hS g1 g2
    exact ⟨ki, kd, rfl, h1.ext hS g1 g2, h2.ext hS g1 g2⟩
theorem rlOne (r : Rul) {X Y : List Nat} {w w' : World} {ki kd : Value} (h1 : SlV X w ki r.cnd.kids) (h2 : SlV Y w' kd r.due.kids) : ∀ c ∈ rlC r ki kd, c.oneCell' = true := by
  intro c hc
  have e1 := h1.one
  have e2 := h2.one
  simp only [rlC, List.mem_cons, List.not_mem_nil, or_false] at hc
  rcases hc with rfl | rfl | rfl | rfl | rfl | rfl | rfl | rfl | rfl | rfl | rfl | rfl | rfl <;> first | rfl | exact e1 | exact e2
theorem whole_any (X : List Nat) (b : Nat) (tv : Value) (l : List Tkn) (hL : Toks l) (m : Int) (i o : Nat) (w : World) (hb1 : b ≠ 1) (hbX : b ∈ X) (hX : ∀ c ∈ X, c < w.heap.size) (hm : w.cell? ⟨1, 0, none⟩ = some (.int .i64 m)) (hp : Pd w b tv l i o) :
    Calls Tryz.prog 74 #[.pointer (some ⟨b, 0, none⟩)] w (PC b w tv l (wholeO l i o) (fun x v w' => NdV X w' v x)) := by
  have hs0 := hp.2.1
  have hE := wholeO_eq l i o
  generalize wholeO l i o = r at *
  refine calls_of_WC1 (n := 5) Tryz.func74 rfl rfl rfl ?_
  refine W ?_
  refine WL_eff OE_alloc rfl ?_
  rintro _ w1 ⟨b2, rfl, hb2, e2, hS⟩
  have n2 : b2 ≠ b := by have := hp.lt; omega
  have hb2w : w.heap.size ≤ b2 := hb2
  replace hm := hS.cell (by simp) hm
  replace hp := hp.up hS
  have l2 := e2.lt
  have hX1 : ∀ c ∈ b2 :: X, c < w1.heap.size := fun c hc => by
    rcases List.mem_cons.1 hc with rfl | hc
    · exact l2
    · have := hX c hc; have := hS.size; omega
  refine W ?_
  have hsub := exprC_all _ l hL m (.expr 1) i o r hE (b2 :: X) b tv _ hb1 (by simp [hbX]) hX1 hm hp (by omega) (by omega)
  cases r with
  | err a c =>
    refine WL_pcall rfl (evs2 rfl rfl) (PC.falls hsub rfl (hS.mono (by simp))) rfl ?_
    intro wz hwz
    repeat' (first | refine WQ_then_panic ?_ | refine WQ_block_panic ?_)
    refine WQ_panic ?_
    exact PC.err hwz
  | ok x i3 o3 =>
    refine WL_eff (OE_call rfl (evs2 rfl rfl) (PC.goes hsub rfl)) rfl ?_
    rintro _ wE ⟨⟨kx, rfl, hx⟩, hp7, hT⟩
    replace e2 := e2.ext hT (by simpa using n2)
    replace hS := (hS.mono (S' := [b]) (by simp)).trans hT
    clear hT hp
    refine WL_eff0 (OE_storeA (us := ndC x kx) rfl rfl rfl rfl (ndC_one hx) e2 rfl) ?_
    rintro _ wz ⟨hT, e2'⟩
    refine W ?_
    refine WQ_retc rfl rfl rfl e2' rfl ?_
    obtain ⟨g1, g2, g3, g4, g5⟩ := hp7
    have hSx := hS.own hT (fun c hc => by simp at hc; subst hc; exact .inr hb2w)
    refine PC.ok ⟨_, rfl, ?_⟩ ⟨g1.ext hT (by simpa using n2.symm), hs0.ext hSx (fun c hc => hc) (fun c hc => .inl hc), g3, g4, g5⟩ hSx
    exact (hx.ext (X' := b2 :: X) hT (fun c hc => by simp at hc; simp [hc]) (fun c hc => .inl hc)).wk (fun c hc => by simp [hc])
/-- an optional name -/
theorem partS_any (b : Nat) (tv : Value) (l : List Tkn) (hL : Toks l) (wd : Str) (hwd : wd ≠ []) (m : Int) (i o : Nat) (w : World) (hb1 : b ≠ 1) (hm : w.cell? ⟨1, 0, none⟩ = some (.int .i64 m)) (hp : Pd w b tv l i o) :
    Calls Tryz.prog 72 #[.pointer (some ⟨b, 0, none⟩), str wd, .func (.func 69) #[.pointer (some ⟨b, 0, none⟩)] #[]] w (PC b w tv l (partO l wd [] (nameO l) i o) (fun s v _ => v = str s)) := by
  unfold partO
  refine calls_of_WC3 (n := 19) Tryz.func72 rfl rfl rfl ?_
  refine W ?_
  refine WL_eff (OE_call rfl (evs2 rfl rfl) (take_any b tv l wd i o _ hp (fun h => hL.end_of hp.i_lt (by rw [h]; exact hwd)))) rfl ?_
  rintro _ w4 ⟨rfl, hp4, hS⟩
  replace hm := cell_up hm hb1 hS
  by_cases c3 : (cur l i).text = wd
  · rw [if_pos c3] at hp4 ⊢
    rw [decide_eq_true c3]
    refine W ?_
    rcases hN : nameO l (i + 1) o with ⟨a, c⟩ | ⟨s, i1, o1⟩
    · refine WL_pcallB rfl evs0 rfl (PC.falls (name_any b tv l hL _ _ m _ hm hp4) hN hS) rfl ?_
      intro wz hwz
      repeat' (first | refine WQ_then_panic ?_ | refine WQ_block_panic ?_)
      refine WQ_panic ?_
      exact PC.err hwz
    · refine WL_eff (OE_callB rfl evs0 rfl (PC.goes (name_any b tv l hL _ _ m _ hm hp4) hN)) rfl ?_
      rintro _ w5 ⟨rfl, hp5, hT⟩
      replace hS := hS.trans hT
      refine W ?_
      simp only [Out.bind]
      rcases hU : mustO l [59] i1 o1 with ⟨a, c⟩ | ⟨u, i2, o2⟩
      · refine WL_pcall rfl (evs2 rfl rfl) (PC.falls (mustP_any b tv l hL _ (by decide) i1 o1 _ hp5) hU hS) rfl ?_
        intro wz hwz
        repeat' (first | refine WQ_then_panic ?_ | refine WQ_block_panic ?_)
        refine WQ_panic ?_
        exact PC.err hwz
      · refine WL_eff (OE_call rfl (evs2 rfl rfl) (PC.goes (mustP_any b tv l hL _ (by decide) i1 o1 _ hp5) hU)) rfl ?_
        rintro _ w6 ⟨rfl, hp6, hT⟩
        replace hS := hS.trans hT
        refine W ?_
        first | refine WQ_ret1 rfl rfl ?_ | refine WQ_ret2 rfl rfl rfl ?_ | refine WQ_ret3 rfl rfl rfl rfl ?_ | refine WQ_ret0 rfl ?_ | refine WQ_end0 rfl ?_
        exact PC.ok rfl hp6 hS
  · rw [if_neg c3] at hp4 ⊢
    rw [decide_eq_false c3]
    refine W ?_
    first | refine WQ_ret1 rfl rfl ?_ | refine WQ_ret2 rfl rfl rfl ?_ | refine WQ_ret3 rfl rfl rfl rfl ?_ | refine WQ_ret0 rfl ?_ | refine WQ_end0 rfl ?_
    exact PC.ok rfl hp4 hS
/-- an optional expression -/
theorem partN_any (X : List Nat) (b : Nat) (tv : Value) (l : List Tkn) (hL : Toks l) (wd : Str) (hwd : wd ≠ []) (m : Int) (i o : Nat) (w : World) (hb1 : b ≠ 1) (hbX : b ∈ X) (hX : ∀ c ∈ X, c < w.heap.size) (hm : w.cell? ⟨1, 0, none⟩ = some (.int .i64 m)) (hp : Pd w b tv l i o) :
    Calls Tryz.prog 73 #[.pointer (some ⟨b, 0, none⟩), str wd, .func (.func 74) #[.pointer (some ⟨b, 0, none⟩)] #[]] w (PC b w tv l (partO l wd ndZero (wholeO l) i o) (fun x v w' => NdV X w' v x)) := by
  have hs0 := hp.2.1
  unfold partO
  refine calls_of_WC3 (n := 19) Tryz.func73 rfl rfl rfl ?_
  refine W ?_
  refine WL_eff OE_alloc rfl ?_
  rintro _ w1 ⟨b6, rfl, hb6, e6, hS⟩
  have n6 : b6 ≠ b := by have := hp.lt; omega
  have hb6w : w.heap.size ≤ b6 := hb6
  refine W ?_
  refine WL_eff OE_alloc rfl ?_
  rintro _ w2 ⟨b7, rfl, hb7, e7, hT⟩
  have n7 : b7 ≠ b := by have := hp.lt; have := hS.size; omega
  have n76 : b7 ≠ b6 := by have := e6.lt; omega
  replace e6 := e6.up hT
  replace hS := hS.trans hT
  clear hT
  replace hm := hS.cell (by simp) hm
  replace hp := hp.up hS
  refine W ?_
  refine WL_eff (OE_call rfl (evs2 rfl rfl) (take_any b tv l wd i o _ hp (fun h => hL.end_of hp.i_lt (by rw [h]; exact hwd)))) rfl ?_
  rintro _ w4 ⟨rfl, hp4, hT⟩
  replace hm := cell_up hm hb1 hT
  replace e6 := e6.ext hT (by simpa using n6)
  replace e7 := e7.ext hT (by simpa using n7)
  replace hS := (hS.mono (S' := [b]) (by simp)).trans hT
  clear hT hp
  by_cases c3 : (cur l i).text = wd
  · rw [if_pos c3] at hp4 ⊢
    rw [decide_eq_true c3]
    refine W ?_
    have l6 := e6.lt
    have hX4 : ∀ c ∈ b6 :: X, c < w4.heap.size := fun c hc => by
      rcases List.mem_cons.1 hc with rfl | hc
      · exact l6
      · have := hX c hc; have := hS.size; omega
    have hsub := whole_any (b6 :: X) b tv l hL m (i + 1) o w4 hb1 (by simp [hbX]) hX4 hm hp4
    rcases hN : wholeO l (i + 1) o with ⟨a, c⟩ | ⟨x, i1, o1⟩
    · refine WL_pcallB rfl evs0 rfl (PC.falls hsub hN hS) rfl ?_
      intro wz hwz
      repeat' (first | refine WQ_then_panic ?_ | refine WQ_block_panic ?_)
      refine WQ_panic ?_
      exact PC.err hwz
    · refine WL_eff (OE_callB rfl evs0 rfl (PC.goes hsub hN)) rfl ?_
      rintro _ w5 ⟨⟨kx, rfl, hx⟩, hp5, hT⟩
      replace e6 := e6.ext hT (by simpa using n6)
      replace hS := hS.trans hT
      have hX5 : ∀ c ∈ b6 :: X, c < w5.heap.size := fun c hc => Nat.lt_of_lt_of_le (hX4 c hc) hT.size
      clear hT hp4 hX4 l6 hsub
      refine WL_eff OE_alloc rfl ?_
      rintro _ w6 ⟨b8, rfl, hb8, e8, hT⟩
      have n86 : b8 ≠ b6 := by have := e6.lt; omega
      have n8 : b8 ≠ b := by have := hp5.lt; omega
      refine WL_eff0 (OE_storeA (us := ndC x kx) rfl rfl rfl rfl (ndC_one hx) e8 rfl) ?_
      rintro _ w7 ⟨hT2, e8'⟩
      replace hT := hT.own hT2 (fun c hc => .inr (by simp at hc; omega))
      clear hT2 e8
      replace hp5 := hp5.up hT; replace e6 := e6.up hT; replace hx := hx.up hT
      replace hS := hS.trans (hT.mono (by simp))
      clear hT
      refine W ?_
      simp only [Out.bind]
      rcases hU : mustO l [59] i1 o1 with ⟨a, c⟩ | ⟨u, i2, o2⟩
      · refine WL_pcall rfl (evs2 rfl rfl) (PC.falls (mustP_any b tv l hL _ (by decide) i1 o1 _ hp5) hU hS) rfl ?_
        intro wz hwz
        repeat' (first | refine WQ_then_panic ?_ | refine WQ_block_panic ?_)
        refine WQ_panic ?_
        exact PC.err hwz
      · refine WL_eff (OE_call rfl (evs2 rfl rfl) (PC.goes (mustP_any b tv l hL _ (by decide) i1 o1 _ hp5) hU)) rfl ?_
        rintro _ w8 ⟨rfl, hp6, hT⟩
        replace e6 := e6.ext hT (by simpa using n6)
        replace e8' := e8'.ext hT (by simpa using n8)
        replace hx := hx.ext (X' := b6 :: X) hT (fun c hc => by simp at hc; subst hc; simp [hbX]) (fun c hc => .inl hc)
        replace hS := hS.trans hT
        clear hT hp5
        refine W ?_
        refine WL_eff0 (OE_storeA (us := ndC x kx) rfl rfl rfl rfl (ndC_one hx) e6 rfl) ?_
        rintro _ wz ⟨hT, e6'⟩
        refine W ?_
        refine WQ_retc rfl rfl rfl e6' rfl ?_
        obtain ⟨g1, g2, g3, g4, g5⟩ := hp6
        have hSx := hS.own hT (fun c hc => by simp at hc; subst hc; exact .inr hb6w)
        refine PC.ok ⟨_, rfl, ?_⟩ ⟨g1.ext hT (by simpa using n6.symm), hs0.ext hSx (fun c hc => hc) (fun c hc => .inl hc), g3, g4, g5⟩ hSx
        exact (hx.ext (X' := b6 :: X) hT (fun c hc => by simp at hc; simp [hc]) (fun c hc => .inl hc)).wk (fun c hc => by simp [hc])
  · rw [if_neg c3] at hp4 ⊢
    rw [decide_eq_false c3]
    refine W ?_
    refine WL_eff0 (OE_storeA (us := ndC ndZero (.slice none 0 0)) rfl rfl rfl rfl (ndC_one (x := ndZero) (nilSlvN [] w)) e6 rfl) ?_
    rintro _ wz ⟨hT, e6'⟩
    refine W ?_
    refine WQ_retc rfl rfl rfl e6' rfl ?_
    obtain ⟨g1, g2, g3, g4, g5⟩ := hp4
    have hSx := hS.own hT (fun c hc => by simp at hc; subst hc; exact .inr hb6w)
    refine PC.ok ⟨_, rfl, ?_⟩ ⟨g1.ext hT (by simpa using n6.symm), hs0.ext hSx (fun c hc => hc) (fun c hc => .inl hc), g3, g4, g5⟩ hSx
    exact nilSlvN _ _
end Go.Proofs.YtgpibcgebpgmiaaGreatDoor


/-
The parser of a rule, walked.
-/
namespace Go.Proofs.YtgpibcgebpgmiaaGreatDoor
open Go Go.Eng Go.RowKit Go.Proofs
set_option linter.unusedVariables false
theorem buildR0 (s : Str) (w : World) : (Instr.build 38 #[(0, str s)]).run Tryz.prog w = .ok (.agg (rlC ⟨s, 0, [], ndZero, ndZero, [], []⟩ (.slice none 0 0) (.slice none 0 0)).toArray) w := by kernel_rfl
set_option maxHeartbeats 4000000 in
theorem rule_any (X : List Nat) (b : Nat) (tv : Value) (l : List Tkn) (hL : Toks l) (m : Int) (i o : Nat) (w : World) (hb1 : b ≠ 1) (hbX : b ∈ X) (hX : ∀ c ∈ X, c < w.heap.size) (hm : w.cell? ⟨1, 0, none⟩ = some (.int .i64 m)) (hp : Pd w b tv l i o) :
    Calls Tryz.prog 26 #[.pointer (some ⟨b, 0, none⟩)] w (PC b w tv l (ruleO l i o) (fun r v w' => RulV X w' v r.rul)) := by
  have hs0 := hp.2.1
  unfold ruleO
  refine calls_of_WC1 (n := 61) Tryz.func26 rfl rfl rfl ?_
  refine W ?_
  refine WL_eff OE_alloc rfl ?_
  rintro _ w1 ⟨b2, rfl, hb2, e2, hS⟩
  have n2 : b2 ≠ b := by have := hp.lt; omega
  have hb2w : w.heap.size ≤ b2 := hb2
  replace hm := hS.cell (by simp) hm
  replace hp := hp.up hS
  replace hS := hS.mono (S' := [b]) (by simp)
  refine W ?_
  rcases hU : mustO l [114, 117, 108, 101] i o with ⟨a, c⟩ | ⟨u1, i1, o1⟩
  · refine WL_pcall rfl (evs2 rfl rfl) (PC.falls (mustP_any b tv l hL [114, 117, 108, 101] (by decide) i o _ hp) hU hS) rfl ?_
    intro wz hwz
    repeat' (first | refine WQ_then_panic ?_ | refine WQ_block_panic ?_)
    refine WQ_panic ?_
    exact PC.err hwz
  refine WL_eff (OE_call rfl (evs2 rfl rfl) (PC.goes (mustP_any b tv l hL [114, 117, 108, 101] (by decide) i o _ hp) hU)) rfl ?_
  rintro _ wn1 ⟨rfl, hpn, hT⟩
  replace hm := cell_up hm hb1 hT
  replace e2 := e2.ext hT (by simpa using n2)
  replace hS := hS.trans hT
  clear hT hp
  have hp := hpn
  clear hpn hU
  refine W ?_
  simp only [Out.bind]
  rcases hU : nameO l i1 o1 with ⟨a, c⟩ | ⟨u2, i2, o2⟩
  · refine WL_pcall rfl (evs1 rfl) (PC.falls (name_any b tv l hL i1 o1 m _ hm hp) hU hS) rfl ?_
    intro wz hwz
    repeat' (first | refine WQ_then_panic ?_ | refine WQ_block_panic ?_)
    refine WQ_panic ?_
    exact PC.err hwz
  refine WL_eff (OE_call rfl (evs1 rfl) (PC.goes (name_any b tv l hL i1 o1 m _ hm hp) hU)) rfl ?_
  rintro _ wn2 ⟨rfl, hpn, hT⟩
  replace hm := cell_up hm hb1 hT
  replace e2 := e2.ext hT (by simpa using n2)
  replace hS := hS.trans hT
  clear hT hp
  have hp := hpn
  clear hpn hU
  apply WL_build (vs := [(0, str u2)]) rfl (buildR0 _) rfl
  refine WL_eff OE_alloc rfl ?_
  rintro _ wa ⟨b3, rfl, hb3, e3, hT⟩
  have n32 : b3 ≠ b2 := by have := e2.lt; omega
  have n3 : b3 ≠ b := by have := hp.lt; omega
  have n31 : b3 ≠ 1 := by have := block_lt_of_cell hm; simp at this; omega
  have hb3w : w.heap.size ≤ b3 := Nat.le_trans hS.size hb3
  refine WL_eff0 (OE_storeA (us := rlC ⟨u2, 0, [], ndZero, ndZero, [], []⟩ (.slice none 0 0) (.slice none 0 0)) rfl rfl rfl rfl (rlOne ⟨u2, 0, [], ndZero, ndZero, [], []⟩ (nilSlvN [] w) (nilSlvN [] w)) e3 rfl) ?_
  rintro _ wb ⟨hT2, e3'⟩
  replace hT := hT.own hT2 (fun c hc => .inr (by simp at hc; omega))
  clear hT2 e3
  have e3 := e3'
  clear e3'
  replace hp := hp.up hT; replace e2 := e2.up hT
  replace hm := hT.cell (by simp) hm
  replace hS := hS.trans (hT.mono (by simp))
  clear hT
  have hXs : ∀ c ∈ b3 :: b2 :: X, c < wb.heap.size := fun c hc => by
    rcases List.mem_cons.1 hc with rfl | hc
    · exact e3.lt
    · rcases List.mem_cons.1 hc with rfl | hc
      · exact e2.lt
      · have := hX c hc; have := hS.size; omega
  have hci : SlV (α := Nd) (b3 :: b2 :: X) wb (.slice none 0 0) ndZero.kids := nilSlvN _ _
  have hdi : SlV (α := Nd) (b3 :: b2 :: X) wb (.slice none 0 0) ndZero.kids := nilSlvN _ _
  refine W ?_
  simp only
  rcases hU : mustO l [102, 114, 111, 109] i2 o2 with ⟨a, c⟩ | ⟨u3, i3, o3⟩
  · refine WL_pcall rfl (evs2 rfl rfl) (PC.falls (mustP_any b tv l hL [102, 114, 111, 109] (by decide) i2 o2 _ hp) hU hS) rfl ?_
    intro wz hwz
    repeat' (first | refine WQ_then_panic ?_ | refine WQ_block_panic ?_)
    refine WQ_panic ?_
    exact PC.err hwz
  refine WL_eff (OE_call rfl (evs2 rfl rfl) (PC.goes (mustP_any b tv l hL [102, 114, 111, 109] (by decide) i2 o2 _ hp) hU)) rfl ?_
  rintro _ wn3 ⟨rfl, hpn, hT⟩
  replace hm := cell_up hm hb1 hT
  replace e2 := e2.ext hT (by simpa using n2)
  replace e3 := e3.ext hT (by simpa using n3)
  replace hci := hci.ext (X' := b3 :: b2 :: X) hT (fun c hc => by simp at hc; subst hc; simp [hbX]) (fun c hc => .inl hc)
  replace hdi := hdi.ext (X' := b3 :: b2 :: X) hT (fun c hc => by simp at hc; subst hc; simp [hbX]) (fun c hc => .inl hc)
  replace hS := hS.trans hT
  replace hXs := fun c hc => Nat.lt_of_lt_of_le (hXs c hc) hT.size
  clear hT hp
  have hp := hpn
  clear hpn hU
  refine W ?_
  simp only
  rcases hU : tokenO l 3 i3 o3 with ⟨a, c⟩ | ⟨u4, i4, o4⟩
  · refine WL_pcall rfl (evs2 rfl rfl) (PC.falls (token_any b tv l hL 3 (by decide) i3 o3 _ hp) hU hS) rfl ?_
    intro wz hwz
    repeat' (first | refine WQ_then_panic ?_ | refine WQ_block_panic ?_)
    refine WQ_panic ?_
    exact PC.err hwz
  refine WL_eff (OE_call rfl (evs2 rfl rfl) (PC.goes (token_any b tv l hL 3 (by decide) i3 o3 _ hp) hU)) rfl ?_
  rintro _ wn4 ⟨rfl, hpn, hT⟩
  replace hm := cell_up hm hb1 hT
  replace e2 := e2.ext hT (by simpa using n2)
  replace e3 := e3.ext hT (by simpa using n3)
  replace hci := hci.ext (X' := b3 :: b2 :: X) hT (fun c hc => by simp at hc; subst hc; simp [hbX]) (fun c hc => .inl hc)
  replace hdi := hdi.ext (X' := b3 :: b2 :: X) hT (fun c hc => by simp at hc; subst hc; simp [hbX]) (fun c hc => .inl hc)
  replace hS := hS.trans hT
  replace hXs := fun c hc => Nat.lt_of_lt_of_le (hXs c hc) hT.size
  clear hT hp
  have hp := hpn
  clear hpn hU
  refine WL_pure (PR_field rfl (tknNum _)) rfl ?_
  refine W ?_
  refine WL_eff0 (OE_store1 (u := .int .i64 u4.num) rfl rfl rfl rfl e3 (by simp)) ?_
  rintro _ ws4 ⟨hT, e3'⟩
  replace e3 : Blk ws4 b3 38 (rlC ⟨u2, u4.num, [], ndZero, ndZero, [], []⟩ (.slice none 0 0) (.slice none 0 0)) := e3'
  clear e3'
  replace e2 := e2.ext hT (by simpa using n32.symm)
  replace hm := hT.cell (by simpa using n31.symm) hm
  replace hS := hS.own hT (fun c hc => by simp at hc; subst hc; exact .inr hb3w)
  replace hp : Pd ws4 b tv l i4 o4 := by
    obtain ⟨g1, g2, g3, g4, g5⟩ := hp
    exact ⟨g1.ext hT (by simpa using n3.symm), hs0.ext hS (fun c hc => hc) (fun c hc => .inl hc), g3, g4, g5⟩
  replace hXs := fun c hc => Nat.lt_of_lt_of_le (hXs c hc) hT.size
  replace hci := hci.ext (X' := b3 :: b2 :: X) hT (fun c hc => by simp at hc; simp [hc]) (fun c hc => .inl hc)
  replace hdi := hdi.ext (X' := b3 :: b2 :: X) hT (fun c hc => by simp at hc; simp [hc]) (fun c hc => .inl hc)
  refine W ?_
  simp only
  rcases hU : mustO l [123] i4 o4 with ⟨a, c⟩ | ⟨u5, i5, o5⟩
  · refine WL_pcall rfl (evs2 rfl rfl) (PC.falls (mustP_any b tv l hL [123] (by decide) i4 o4 _ hp) hU hS) rfl ?_
    intro wz hwz
    repeat' (first | refine WQ_then_panic ?_ | refine WQ_block_panic ?_)
    refine WQ_panic ?_
    exact PC.err hwz
  refine WL_eff (OE_call rfl (evs2 rfl rfl) (PC.goes (mustP_any b tv l hL [123] (by decide) i4 o4 _ hp) hU)) rfl ?_
  rintro _ wn5 ⟨rfl, hpn, hT⟩
  replace hm := cell_up hm hb1 hT
  replace e2 := e2.ext hT (by simpa using n2)
  replace e3 := e3.ext hT (by simpa using n3)
  replace hci := hci.ext (X' := b3 :: b2 :: X) hT (fun c hc => by simp at hc; subst hc; simp [hbX]) (fun c hc => .inl hc)
  replace hdi := hdi.ext (X' := b3 :: b2 :: X) hT (fun c hc => by simp at hc; subst hc; simp [hbX]) (fun c hc => .inl hc)
  replace hS := hS.trans hT
  replace hXs := fun c hc => Nat.lt_of_lt_of_le (hXs c hc) hT.size
  clear hT hp
  have hp := hpn
  clear hpn hU
  refine W ?_
  refine WL_eff (OE_call rfl (evs1 rfl) (next_any b tv l i5 o5 _ hp)) rfl ?_
  rintro _ wx5 ⟨rfl, hT⟩
  replace hp := hp.up hT; replace e2 := e2.up hT; replace e3 := e3.up hT; replace hci := hci.up hT; replace hdi := hdi.up hT
  replace hm := hT.cell (by simp) hm
  replace hS := hS.trans (hT.mono (by simp))
  replace hXs := fun c hc => Nat.lt_of_lt_of_le (hXs c hc) hT.size
  clear hT
  simp only
  by_cases hon : (cur l i5).text = [111, 110]
  rotate_left
  · rw [if_neg hon]
    repeat' (first | refine W1 ?_ | (exfalso; omega) | refine WL_split rfl rfl (fun hg => ?_) (fun hg => ?_) | refine WL_splitB rfl rfl (fun hg => ?_) (fun hg => ?_) | refine WC_cond rfl (fun hc => ?_) (fun hc => ?_) | refine WC_condB rfl (fun hc => ?_) (fun hc => ?_))
    · refine WL_pcall rfl (evs2 rfl rfl) (failS b tv l i5 o5 20 _ w hp hS) rfl ?_
      intro wz hwz
      repeat' (first | refine WQ_then_panic ?_ | refine WQ_block_panic ?_)
      refine WQ_panic ?_
      exact PC.fail hwz
    all_goals exact absurd hon (by assumption)
  rw [if_pos hon]
  repeat' (first | refine W1 ?_ | (exfalso; omega) | refine WL_split rfl rfl (fun hg => ?_) (fun hg => ?_) | refine WL_splitB rfl rfl (fun hg => ?_) (fun hg => ?_) | refine WC_cond rfl (fun hc => ?_) (fun hc => ?_) | refine WC_condB rfl (fun hc => ?_) (fun hc => ?_))
  · exact absurd hon (by assumption)
  refine WL_pure (PR_makeFuncB1 rfl) rfl ?_
  rcases hU : partO l [111, 110] [] (nameO l) i5 o5 with ⟨a, c⟩ | ⟨u6, i6, o6⟩
  · refine WL_pcall rfl (evs3 rfl rfl rfl) (PC.falls (partS_any b tv l hL [111, 110] (by decide) m i5 o5 _ hb1 hm hp) hU hS) rfl ?_
    intro wz hwz
    repeat' (first | refine WQ_then_panic ?_ | refine WQ_block_panic ?_)
    refine WQ_panic ?_
    exact PC.err hwz
  refine WL_eff (OE_call rfl (evs3 rfl rfl rfl) (PC.goes (partS_any b tv l hL [111, 110] (by decide) m i5 o5 _ hb1 hm hp) hU)) rfl ?_
  rintro _ wn6 ⟨rfl, hpn, hT⟩
  replace hm := cell_up hm hb1 hT
  replace e2 := e2.ext hT (by simpa using n2)
  replace e3 := e3.ext hT (by simpa using n3)
  replace hci := hci.ext (X' := b3 :: b2 :: X) hT (fun c hc => by simp at hc; subst hc; simp [hbX]) (fun c hc => .inl hc)
  replace hdi := hdi.ext (X' := b3 :: b2 :: X) hT (fun c hc => by simp at hc; subst hc; simp [hbX]) (fun c hc => .inl hc)
  replace hS := hS.trans hT
  replace hXs := fun c hc => Nat.lt_of_lt_of_le (hXs c hc) hT.size
  clear hT hp
  have hp := hpn
  clear hpn hU
  refine W ?_
  refine WL_eff0 (OE_store1 (u := str u6) rfl rfl rfl rfl e3 (by simp)) ?_
  rintro _ ws6 ⟨hT, e3'⟩
  replace e3 : Blk ws6 b3 38 (rlC ⟨u2, u4.num, u6, ndZero, ndZero, [], []⟩ (.slice none 0 0) (.slice none 0 0)) := e3'
  clear e3'
  replace e2 := e2.ext hT (by simpa using n32.symm)
  replace hm := hT.cell (by simpa using n31.symm) hm
  replace hS := hS.own hT (fun c hc => by simp at hc; subst hc; exact .inr hb3w)
  replace hp : Pd ws6 b tv l i6 o6 := by
    obtain ⟨g1, g2, g3, g4, g5⟩ := hp
    exact ⟨g1.ext hT (by simpa using n3.symm), hs0.ext hS (fun c hc => hc) (fun c hc => .inl hc), g3, g4, g5⟩
  replace hXs := fun c hc => Nat.lt_of_lt_of_le (hXs c hc) hT.size
  replace hci := hci.ext (X' := b3 :: b2 :: X) hT (fun c hc => by simp at hc; simp [hc]) (fun c hc => .inl hc)
  replace hdi := hdi.ext (X' := b3 :: b2 :: X) hT (fun c hc => by simp at hc; simp [hc]) (fun c hc => .inl hc)
  refine W ?_
  refine WL_pure (PR_makeFuncB1 rfl) rfl ?_
  simp only
  rcases hU : partO l [105, 102] ndZero (wholeO l) i6 o6 with ⟨a, c⟩ | ⟨u7, i7, o7⟩
  · refine WL_pcall rfl (evs3 rfl rfl rfl) (PC.falls (partN_any (b3 :: b2 :: X) b tv l hL [105, 102] (by decide) m i6 o6 _ hb1 (by simp [hbX]) hXs hm hp) hU hS) rfl ?_
    intro wz hwz
    repeat' (first | refine WQ_then_panic ?_ | refine WQ_block_panic ?_)
    refine WQ_panic ?_
    exact PC.err hwz
  refine WL_eff (OE_call rfl (evs3 rfl rfl rfl) (PC.goes (partN_any (b3 :: b2 :: X) b tv l hL [105, 102] (by decide) m i6 o6 _ hb1 (by simp [hbX]) hXs hm hp) hU)) rfl ?_
  rintro _ wn7 ⟨⟨kx7, rfl, hx7⟩, hpn, hT⟩
  replace hm := cell_up hm hb1 hT
  replace e2 := e2.ext hT (by simpa using n2)
  replace e3 := e3.ext hT (by simpa using n3)
  replace hci := hci.ext (X' := b3 :: b2 :: X) hT (fun c hc => by simp at hc; subst hc; simp [hbX]) (fun c hc => .inl hc)
  replace hdi := hdi.ext (X' := b3 :: b2 :: X) hT (fun c hc => by simp at hc; subst hc; simp [hbX]) (fun c hc => .inl hc)
  replace hS := hS.trans hT
  replace hXs := fun c hc => Nat.lt_of_lt_of_le (hXs c hc) hT.size
  clear hT hp
  have hp := hpn
  clear hpn hU
  refine W ?_
  refine WL_eff0 (OE_store (us := ndC u7 kx7) rfl rfl rfl rfl (ndC_one hx7) e3 (by simp)) ?_
  rintro _ ws7 ⟨hT, e3'⟩
  replace e3 : Blk ws7 b3 38 (rlC ⟨u2, u4.num, u6, u7, ndZero, [], []⟩ kx7 (.slice none 0 0)) := e3'
  clear e3'
  replace e2 := e2.ext hT (by simpa using n32.symm)
  replace hm := hT.cell (by simpa using n31.symm) hm
  replace hS := hS.own hT (fun c hc => by simp at hc; subst hc; exact .inr hb3w)
  replace hp : Pd ws7 b tv l i7 o7 := by
    obtain ⟨g1, g2, g3, g4, g5⟩ := hp
    exact ⟨g1.ext hT (by simpa using n3.symm), hs0.ext hS (fun c hc => hc) (fun c hc => .inl hc), g3, g4, g5⟩
  replace hXs := fun c hc => Nat.lt_of_lt_of_le (hXs c hc) hT.size
  replace hx7 := hx7.ext (X' := b3 :: b2 :: X) hT (fun c hc => by simp at hc; simp [hc]) (fun c hc => .inl hc)
  replace hdi := hdi.ext (X' := b3 :: b2 :: X) hT (fun c hc => by simp at hc; simp [hc]) (fun c hc => .inl hc)
  clear hT hci
  refine W ?_
  refine WC_cutQ (σ := Value) (fun _ => [(0, .pointer (some ⟨b, 0, none⟩)), (2, .pointer (some ⟨b2, 0, none⟩)), (3, .pointer (some ⟨b3, 0, none⟩))])
    (fun q w' => Blk w' b3 38 (rlC ⟨u2, u4.num, u6, if u7.kind = 0 then .mk 2 1 [] [] else u7, ndZero, [], []⟩ q (.slice none 0 0)) ∧ SlV (b3 :: b2 :: X) w' q (if u7.kind = 0 then Nd.mk 2 1 [] [] else u7).kids ∧ Stp [b3] ws7 w') ?_ ?_
  · by_cases k0 : u7.kind = 0
    · rw [if_pos k0]
      repeat' (first | refine W1 ?_ | (exfalso; omega) | refine WL_split rfl rfl (fun hg => ?_) (fun hg => ?_) | refine WL_splitB rfl rfl (fun hg => ?_) (fun hg => ?_) | refine WC_cond rfl (fun hc => ?_) (fun hc => ?_) | refine WC_condB rfl (fun hc => ?_) (fun hc => ?_))
      all_goals try exact absurd k0 (by assumption)
      apply WL_build (vs := [(0, .int .i64 2), (1, .int .i64 1)]) rfl (buildK1 _ _) rfl
      refine W ?_
      refine WL_eff0 (OE_store (us := ndC (.mk 2 1 [] []) (.slice none 0 0)) rfl rfl rfl rfl (ndC_one (x := .mk 2 1 [] []) (nilSlvN [] w)) e3 (by simp)) ?_
      rintro _ wy ⟨hT, e3'⟩
      refine W ?_
      exact WQ_cut (.slice none 0 0) ⟨rfl, rfl, rfl, trivial⟩ ⟨e3', nilSlvN _ _, hT⟩
    · rw [if_neg k0]
      repeat' (first | refine W1 ?_ | (exfalso; omega) | refine WL_split rfl rfl (fun hg => ?_) (fun hg => ?_) | refine WL_splitB rfl rfl (fun hg => ?_) (fun hg => ?_) | refine WC_cond rfl (fun hc => ?_) (fun hc => ?_) | refine WC_condB rfl (fun hc => ?_) (fun hc => ?_))
      all_goals try exact absurd (by assumption) k0
      exact WQ_cut kx7 ⟨rfl, rfl, rfl, trivial⟩ ⟨e3, hx7, Stp.refl _ _⟩
  clear e3 hx7
  generalize hcnd : (if u7.kind = 0 then Nd.mk 2 1 [] [] else u7) = cnd
  rintro ki ws7 ⟨e3, hci, hT⟩
  replace e2 := e2.ext hT (by simpa using n32.symm)
  replace hm := hT.cell (by simpa using n31.symm) hm
  replace hS := hS.own hT (fun c hc => by simp at hc; subst hc; exact .inr hb3w)
  replace hp : Pd ws7 b tv l i7 o7 := by
    obtain ⟨g1, g2, g3, g4, g5⟩ := hp
    exact ⟨g1.ext hT (by simpa using n3.symm), hs0.ext hS (fun c hc => hc) (fun c hc => .inl hc), g3, g4, g5⟩
  replace hXs := fun c hc => Nat.lt_of_lt_of_le (hXs c hc) hT.size
  replace hdi := hdi.ext (X' := b3 :: b2 :: X) hT (fun c hc => by simp at hc; simp [hc]) (fun c hc => .inl hc)
  clear hT
  refine W ?_
  refine WL_eff (OE_call rfl (evs1 rfl) (next_any b tv l i7 o7 _ hp)) rfl ?_
  rintro _ wx7 ⟨rfl, hT⟩
  replace hp := hp.up hT; replace e2 := e2.up hT; replace e3 := e3.up hT; replace hci := hci.up hT; replace hdi := hdi.up hT
  replace hm := hT.cell (by simp) hm
  replace hS := hS.trans (hT.mono (by simp))
  replace hXs := fun c hc => Nat.lt_of_lt_of_le (hXs c hc) hT.size
  clear hT
  simp only
  by_cases hdue : (cur l i7).text = [100, 117, 101]
  rotate_left
  · rw [if_neg hdue]
    repeat' (first | refine W1 ?_ | (exfalso; omega) | refine WL_split rfl rfl (fun hg => ?_) (fun hg => ?_) | refine WL_splitB rfl rfl (fun hg => ?_) (fun hg => ?_) | refine WC_cond rfl (fun hc => ?_) (fun hc => ?_) | refine WC_condB rfl (fun hc => ?_) (fun hc => ?_))
    · refine WL_pcall rfl (evs2 rfl rfl) (failS b tv l i7 o7 20 _ w hp hS) rfl ?_
      intro wz hwz
      repeat' (first | refine WQ_then_panic ?_ | refine WQ_block_panic ?_)
      refine WQ_panic ?_
      exact PC.fail hwz
    all_goals exact absurd hdue (by assumption)
  rw [if_pos hdue]
  repeat' (first | refine W1 ?_ | (exfalso; omega) | refine WL_split rfl rfl (fun hg => ?_) (fun hg => ?_) | refine WL_splitB rfl rfl (fun hg => ?_) (fun hg => ?_) | refine WC_cond rfl (fun hc => ?_) (fun hc => ?_) | refine WC_condB rfl (fun hc => ?_) (fun hc => ?_))
  · exact absurd hdue (by assumption)
  refine WL_pure (PR_makeFuncB1 rfl) rfl ?_
  rcases hU : partO l [100, 117, 101] ndZero (wholeO l) i7 o7 with ⟨a, c⟩ | ⟨u8, i8, o8⟩
  · refine WL_pcall rfl (evs3 rfl rfl rfl) (PC.falls (partN_any (b3 :: b2 :: X) b tv l hL [100, 117, 101] (by decide) m i7 o7 _ hb1 (by simp [hbX]) hXs hm hp) hU hS) rfl ?_
    intro wz hwz
    repeat' (first | refine WQ_then_panic ?_ | refine WQ_block_panic ?_)
    refine WQ_panic ?_
    exact PC.err hwz
  refine WL_eff (OE_call rfl (evs3 rfl rfl rfl) (PC.goes (partN_any (b3 :: b2 :: X) b tv l hL [100, 117, 101] (by decide) m i7 o7 _ hb1 (by simp [hbX]) hXs hm hp) hU)) rfl ?_
  rintro _ wn8 ⟨⟨kx8, rfl, hx8⟩, hpn, hT⟩
  replace hm := cell_up hm hb1 hT
  replace e2 := e2.ext hT (by simpa using n2)
  replace e3 := e3.ext hT (by simpa using n3)
  replace hci := hci.ext (X' := b3 :: b2 :: X) hT (fun c hc => by simp at hc; subst hc; simp [hbX]) (fun c hc => .inl hc)
  replace hdi := hdi.ext (X' := b3 :: b2 :: X) hT (fun c hc => by simp at hc; subst hc; simp [hbX]) (fun c hc => .inl hc)
  replace hS := hS.trans hT
  replace hXs := fun c hc => Nat.lt_of_lt_of_le (hXs c hc) hT.size
  clear hT hp
  have hp := hpn
  clear hpn hU
  refine W ?_
  refine WL_eff0 (OE_store (us := ndC u8 kx8) rfl rfl rfl rfl (ndC_one hx8) e3 (by simp)) ?_
  rintro _ ws8 ⟨hT, e3'⟩
  replace e3 : Blk ws8 b3 38 (rlC ⟨u2, u4.num, u6, cnd, u8, [], []⟩ ki kx8) := e3'
  clear e3'
  replace e2 := e2.ext hT (by simpa using n32.symm)
  replace hm := hT.cell (by simpa using n31.symm) hm
  replace hS := hS.own hT (fun c hc => by simp at hc; subst hc; exact .inr hb3w)
  replace hp : Pd ws8 b tv l i8 o8 := by
    obtain ⟨g1, g2, g3, g4, g5⟩ := hp
    exact ⟨g1.ext hT (by simpa using n3.symm), hs0.ext hS (fun c hc => hc) (fun c hc => .inl hc), g3, g4, g5⟩
  replace hXs := fun c hc => Nat.lt_of_lt_of_le (hXs c hc) hT.size
  clear hdi
  have hdi := hx8.ext (X' := b3 :: b2 :: X) hT (fun c hc => by simp at hc; simp [hc]) (fun c hc => .inl hc)
  replace hci := hci.ext (X' := b3 :: b2 :: X) hT (fun c hc => by simp at hc; simp [hc]) (fun c hc => .inl hc)
  clear hT hx8
  refine W ?_
  refine WL_pure (PR_makeFuncB1 rfl) rfl ?_
  simp only
  rcases hU : partO l [117, 110, 108, 101, 115, 115] [] (nameO l) i8 o8 with ⟨a, c⟩ | ⟨u9, i9, o9⟩
  · refine WL_pcall rfl (evs3 rfl rfl rfl) (PC.falls (partS_any b tv l hL [117, 110, 108, 101, 115, 115] (by decide) m i8 o8 _ hb1 hm hp) hU hS) rfl ?_
    intro wz hwz
    repeat' (first | refine WQ_then_panic ?_ | refine WQ_block_panic ?_)
    refine WQ_panic ?_
    exact PC.err hwz
  refine WL_eff (OE_call rfl (evs3 rfl rfl rfl) (PC.goes (partS_any b tv l hL [117, 110, 108, 101, 115, 115] (by decide) m i8 o8 _ hb1 hm hp) hU)) rfl ?_
  rintro _ wn9 ⟨rfl, hpn, hT⟩
  replace hm := cell_up hm hb1 hT
  replace e2 := e2.ext hT (by simpa using n2)
  replace e3 := e3.ext hT (by simpa using n3)
  replace hci := hci.ext (X' := b3 :: b2 :: X) hT (fun c hc => by simp at hc; subst hc; simp [hbX]) (fun c hc => .inl hc)
  replace hdi := hdi.ext (X' := b3 :: b2 :: X) hT (fun c hc => by simp at hc; subst hc; simp [hbX]) (fun c hc => .inl hc)
  replace hS := hS.trans hT
  replace hXs := fun c hc => Nat.lt_of_lt_of_le (hXs c hc) hT.size
  clear hT hp
  have hp := hpn
  clear hpn hU
  refine W ?_
  refine WL_eff0 (OE_store1 (u := str u9) rfl rfl rfl rfl e3 (by simp)) ?_
  rintro _ ws9 ⟨hT, e3'⟩
  replace e3 : Blk ws9 b3 38 (rlC ⟨u2, u4.num, u6, cnd, u8, u9, []⟩ ki kx8) := e3'
  clear e3'
  replace e2 := e2.ext hT (by simpa using n32.symm)
  replace hm := hT.cell (by simpa using n31.symm) hm
  replace hS := hS.own hT (fun c hc => by simp at hc; subst hc; exact .inr hb3w)
  replace hp : Pd ws9 b tv l i9 o9 := by
    obtain ⟨g1, g2, g3, g4, g5⟩ := hp
    exact ⟨g1.ext hT (by simpa using n3.symm), hs0.ext hS (fun c hc => hc) (fun c hc => .inl hc), g3, g4, g5⟩
  replace hXs := fun c hc => Nat.lt_of_lt_of_le (hXs c hc) hT.size
  replace hci := hci.ext (X' := b3 :: b2 :: X) hT (fun c hc => by simp at hc; simp [hc]) (fun c hc => .inl hc)
  replace hdi := hdi.ext (X' := b3 :: b2 :: X) hT (fun c hc => by simp at hc; simp [hc]) (fun c hc => .inl hc)
  refine W ?_
  refine WL_pure (PR_makeFuncB1 rfl) rfl ?_
  simp only
  rcases hU : partO l [101, 108, 115, 101] [] (nameO l) i9 o9 with ⟨a, c⟩ | ⟨u10, i10, o10⟩
  · refine WL_pcall rfl (evs3 rfl rfl rfl) (PC.falls (partS_any b tv l hL [101, 108, 115, 101] (by decide) m i9 o9 _ hb1 hm hp) hU hS) rfl ?_
    intro wz hwz
    repeat' (first | refine WQ_then_panic ?_ | refine WQ_block_panic ?_)
    refine WQ_panic ?_
    exact PC.err hwz
  refine WL_eff (OE_call rfl (evs3 rfl rfl rfl) (PC.goes (partS_any b tv l hL [101, 108, 115, 101] (by decide) m i9 o9 _ hb1 hm hp) hU)) rfl ?_
  rintro _ wn10 ⟨rfl, hpn, hT⟩
  replace hm := cell_up hm hb1 hT
  replace e2 := e2.ext hT (by simpa using n2)
  replace e3 := e3.ext hT (by simpa using n3)
  replace hci := hci.ext (X' := b3 :: b2 :: X) hT (fun c hc => by simp at hc; subst hc; simp [hbX]) (fun c hc => .inl hc)
  replace hdi := hdi.ext (X' := b3 :: b2 :: X) hT (fun c hc => by simp at hc; subst hc; simp [hbX]) (fun c hc => .inl hc)
  replace hS := hS.trans hT
  replace hXs := fun c hc => Nat.lt_of_lt_of_le (hXs c hc) hT.size
  clear hT hp
  have hp := hpn
  clear hpn hU
  refine W ?_
  refine WL_eff0 (OE_store1 (u := str u10) rfl rfl rfl rfl e3 (by simp)) ?_
  rintro _ ws10 ⟨hT, e3'⟩
  replace e3 : Blk ws10 b3 38 (rlC ⟨u2, u4.num, u6, cnd, u8, u9, u10⟩ ki kx8) := e3'
  clear e3'
  replace e2 := e2.ext hT (by simpa using n32.symm)
  replace hm := hT.cell (by simpa using n31.symm) hm
  replace hS := hS.own hT (fun c hc => by simp at hc; subst hc; exact .inr hb3w)
  replace hp : Pd ws10 b tv l i10 o10 := by
    obtain ⟨g1, g2, g3, g4, g5⟩ := hp
    exact ⟨g1.ext hT (by simpa using n3.symm), hs0.ext hS (fun c hc => hc) (fun c hc => .inl hc), g3, g4, g5⟩
  replace hXs := fun c hc => Nat.lt_of_lt_of_le (hXs c hc) hT.size
  replace hci := hci.ext (X' := b3 :: b2 :: X) hT (fun c hc => by simp at hc; simp [hc]) (fun c hc => .inl hc)
  replace hdi := hdi.ext (X' := b3 :: b2 :: X) hT (fun c hc => by simp at hc; simp [hc]) (fun c hc => .inl hc)
  refine W ?_
  simp only
  rcases hU : mustO l [125] i10 o10 with ⟨a, c⟩ | ⟨u11, i11, o11⟩
  · refine WL_pcall rfl (evs2 rfl rfl) (PC.falls (mustP_any b tv l hL [125] (by decide) i10 o10 _ hp) hU hS) rfl ?_
    intro wz hwz
    repeat' (first | refine WQ_then_panic ?_ | refine WQ_block_panic ?_)
    refine WQ_panic ?_
    exact PC.err hwz
  refine WL_eff (OE_call rfl (evs2 rfl rfl) (PC.goes (mustP_any b tv l hL [125] (by decide) i10 o10 _ hp) hU)) rfl ?_
  rintro _ wn11 ⟨rfl, hpn, hT⟩
  replace hm := cell_up hm hb1 hT
  replace e2 := e2.ext hT (by simpa using n2)
  replace e3 := e3.ext hT (by simpa using n3)
  replace hci := hci.ext (X' := b3 :: b2 :: X) hT (fun c hc => by simp at hc; subst hc; simp [hbX]) (fun c hc => .inl hc)
  replace hdi := hdi.ext (X' := b3 :: b2 :: X) hT (fun c hc => by simp at hc; subst hc; simp [hbX]) (fun c hc => .inl hc)
  replace hS := hS.trans hT
  replace hXs := fun c hc => Nat.lt_of_lt_of_le (hXs c hc) hT.size
  clear hT hp
  have hp := hpn
  clear hpn hU
  refine W ?_
  simp only
  refine WL_eff0 (OE_storeA (us := rlC ⟨u2, u4.num, u6, cnd, u8, u9, u10⟩ ki kx8) rfl rfl rfl rfl (rlOne ⟨u2, u4.num, u6, cnd, u8, u9, u10⟩ hci hdi) e2 rfl) ?_
  rintro _ wz ⟨hT, e2'⟩
  refine W ?_
  rw [hcnd]
  refine WQ_retc rfl rfl rfl e2' rfl ?_
  obtain ⟨g1, g2, g3, g4, g5⟩ := hp
  have hSx := hS.own hT (fun c hc => by simp at hc; subst hc; exact .inr hb2w)
  refine PC.ok ⟨ki, kx8, rfl, ?_, ?_⟩ ⟨g1.ext hT (by simpa using n2.symm), hs0.ext hSx (fun c hc => hc) (fun c hc => .inl hc), g3, g4, g5⟩ hSx
  · exact (hci.ext (X' := b3 :: b2 :: X) hT (fun c hc => by simp at hc; simp [hc]) (fun c hc => .inl hc)).wk (fun c hc => by simp [hc])
  · exact (hdi.ext (X' := b3 :: b2 :: X) hT (fun c hc => by simp at hc; simp [hc]) (fun c hc => .inl hc)).wk (fun c hc => by simp [hc])
end Go.Proofs.YtgpibcgebpgmiaaGreatDoor

