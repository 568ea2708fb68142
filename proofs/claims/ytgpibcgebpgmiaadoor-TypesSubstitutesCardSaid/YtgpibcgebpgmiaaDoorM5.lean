/-
Merged by program out of own texts: Srt1, Use1, Liv3, Liv4, Lvs1, Ckc1, Flt1, Eng18, Wir0, Wir1, Wir2, Wir3, Enc1, Eng19, Siz1, Part1, Tyo1, Arg18, Dec0, Dec1, Cty0.
-/
import Derived.Test.YtgpibcgebpgmiaaDoorM4
import Derived.Laws.BitsAllLaws
import Derived.Laws.Bits64
import Derived.Lib.SlBytesRow
import Derived.Lib.AppendStr
import Derived.Laws.BytesArg
import Derived.Laws.Cover3

namespace Go.Eng
open Go Go.RowKit
set_option linter.unusedVariables false
variable {X : List Nat} {w w' : World} {base T : Nat} {v : Value} {zs ys : List Int}
/-- an own row of numbers, in the heap's words -/
def RowI (w : World) (base T : Nat) (v : Value) (zs : List Int) : Prop := (v = .slice none 0 0 ∧ zs = []) ∨ ∃ g cap cur, v = .slice (some ⟨g, 0, none⟩) zs.length cap ∧ base ≤ g ∧ w.heap[g]? = some (.cells cur T (0, 0)) ∧ zs.length ≤ cap ∧ cap ≤ maxLen ∧ cur.size = cap ∧ cur.toList.take zs.length = zs.map (Value.int .i64)
theorem Row.toI (h : Row X w base T v zs) : RowI w base T v zs := by
  obtain ⟨css, hl, hr, hx, ho⟩ := h
  have hc : css = zs.map (fun x => [Value.int .i64 x]) := by
    apply List.ext_getElem (by simpa using hl)
    intro i h1 h2
    have : css[i] = [Value.int .i64 zs[i]] := hr i (by omega) h1
    simp [this]
  rcases ho with ⟨rfl, hn⟩ | ⟨g, cap, cur, rfl, hb, hg, hnc, hcm, hcs, ht⟩
  · exact .inl ⟨rfl, List.length_eq_zero_iff.1 hn⟩
  · refine .inr ⟨g, cap, cur, rfl, hb, hg, hnc, hcm, by simpa [GoRep.k, Flat.k] using hcs, ?_⟩
    have h2 : cur.toList.take (zs.length * 1) = css.flatten := ht
    rw [Nat.mul_one] at h2
    rw [h2, hc]
    clear h2 ht hx hr hl hc hnc hg hcs
    induction zs with
    | nil => rfl
    | cons a l ih => simp at ih ⊢; exact ih
theorem RowI.toRow (h : RowI w base T v zs) : Row X w base T v zs := by
  rcases h with ⟨rfl, rfl⟩ | ⟨g, cap, cur, rfl, hb, hg, hnc, hcm, hcs, ht⟩
  · exact Row.nil
  · refine ⟨zs.map (fun x => [Value.int .i64 x]), by simp, fun i h1 h2 => by simp; rfl, ?_⟩
    have hf : (zs.map (fun x => [Value.int .i64 x])).flatten = zs.map (Value.int .i64) := by
      clear ht hnc
      induction zs with
      | nil => rfl
      | cons a l ih => simp at ih ⊢; exact ih
    rw [hf]
    refine ⟨by simp [GoRep.k, Flat.k], .inr ⟨g, cap, cur, rfl, hb, hg, hnc, hcm, by simpa [GoRep.k, Flat.k] using hcs, by simpa [GoRep.k, Flat.k] using ht⟩⟩
theorem compact_spec {zs : List Int} (hs : zs.Pairwise (· ≤ ·)) : (Lib.compact zs).Pairwise (· < ·) ∧ ∀ y, y ∈ Lib.compact zs ↔ y ∈ zs := by
  have hd : ∀ i j, i ≤ j → j < zs.length → zs.toArray[i]! ≤ zs.toArray[j]! := by
    intro i j hij hj
    rcases Nat.lt_or_eq_of_le hij with h | rfl
    · have := List.pairwise_iff_getElem.1 hs i j (by omega) hj h
      simpa [getElem!_pos, hj, show i < zs.length by omega] using this
    · exact Int.le_refl _
  have key : ∀ m, m ≤ zs.length → (Lib.compactUpTo zs.toArray m).Pairwise (· < ·) ∧ ∀ y, y ∈ Lib.compactUpTo zs.toArray m ↔ ∃ i, i < m ∧ y = zs.toArray[i]! := by
    intro m
    induction m with
    | zero => intro _; refine ⟨by simp [Lib.compactUpTo], fun y => by simp [Lib.compactUpTo]⟩
    | succ m ih =>
      intro hm
      obtain ⟨i1, i2⟩ := ih (by omega)
      rw [Lib.compactUpTo_succ]
      by_cases hk : Lib.keeps zs.toArray m = true
      · rw [if_pos hk]
        refine ⟨List.pairwise_append.2 ⟨i1, List.pairwise_singleton _ _, fun a ha b hb => ?_⟩, fun y => ?_⟩
        · obtain ⟨i, hi, rfl⟩ := (i2 a).1 ha
          rw [List.mem_singleton.1 hb]
          have hk' : m = 0 ∨ zs.toArray[m]! ≠ zs.toArray[m - 1]! := by simpa [Lib.keeps] using hk
          have h1 := hd i (m - 1) (by omega) (by omega)
          have h2 := hd (m - 1) m (by omega) (by omega)
          have h3 := hk'.resolve_left (by omega)
          omega
        · rw [List.mem_append, i2, List.mem_singleton]
          constructor
          · rintro (⟨i, hi, rfl⟩ | rfl)
            · exact ⟨i, by omega, rfl⟩
            · exact ⟨m, by omega, rfl⟩
          · rintro ⟨i, hi, rfl⟩
            by_cases hi' : i < m
            · exact .inl ⟨i, hi', rfl⟩
            · exact .inr (by rw [show i = m by omega])
      · rw [if_neg hk, List.append_nil]
        have hk' : ¬ (m = 0 ∨ zs.toArray[m]! ≠ zs.toArray[m - 1]!) := by simpa [Lib.keeps] using hk
        have hm0 : m ≠ 0 := fun h => hk' (.inl h)
        have he : zs.toArray[m]! = zs.toArray[m - 1]! := Decidable.byContradiction fun h => hk' (.inr h)
        refine ⟨i1, fun y => ?_⟩
        rw [i2]
        constructor
        · rintro ⟨i, hi, rfl⟩
          exact ⟨i, by omega, rfl⟩
        · rintro ⟨i, hi, rfl⟩
          by_cases hi' : i < m
          · exact ⟨i, hi', rfl⟩
          · exact ⟨m - 1, by omega, by rw [show i = m by omega, he]⟩
  obtain ⟨h1, h2⟩ := key zs.length (Nat.le_refl _)
  refine ⟨h1, fun y => ?_⟩
  show y ∈ Lib.compactUpTo zs.toArray zs.length ↔ _
  rw [h2]
  constructor
  · rintro ⟨i, hi, rfl⟩
    simp [getElem!_pos, hi]
  · intro h
    obtain ⟨i, hi, rfl⟩ := List.getElem_of_mem h
    exact ⟨i, hi, by simp [getElem!_pos, hi]⟩
/-- two ascending lists of the same members -/
theorem asc_eq : ∀ {a b : List Int}, a.Pairwise (· < ·) → b.Pairwise (· < ·) → (∀ y, y ∈ a ↔ y ∈ b) → a = b
  | [], [], _, _, _ => rfl
  | [], y :: b, _, _, h => absurd ((h y).2 (by simp)) (by simp)
  | x :: a, [], _, _, h => absurd ((h x).1 (by simp)) (by simp)
  | x :: a, y :: b, ha, hb, h => by
    rw [List.pairwise_cons] at ha hb
    have hxy : x = y := by
      have h1 := (h x).1 (by simp)
      have h2 := (h y).2 (by simp)
      rcases List.mem_cons.1 h1 with e | h1
      · exact e
      · rcases List.mem_cons.1 h2 with e | h2
        · exact e.symm
        · have := hb.1 x h1
          have := ha.1 y h2
          omega
    subst hxy
    congr 1
    refine asc_eq ha.2 hb.2 fun z => ?_
    constructor
    · intro hz
      rcases List.mem_cons.1 ((h z).1 (List.mem_cons_of_mem _ hz)) with e | h1
      · have := ha.1 z hz; omega
      · exact h1
    · intro hz
      rcases List.mem_cons.1 ((h z).2 (List.mem_cons_of_mem _ hz)) with e | h1
      · have := hb.1 z hz; omega
      · exact h1
/-- sorted and compacted -/
def sortU (zs : List Int) : List Int := Lib.compact (zs.mergeSort fun x y => decide (x ≤ y))
theorem sortU_spec (zs : List Int) : (sortU zs).Pairwise (· < ·) ∧ ∀ y, y ∈ sortU zs ↔ y ∈ zs := by
  have hp : (zs.mergeSort fun x y => decide (x ≤ y)).Pairwise (· ≤ ·) := by
    have := List.pairwise_mergeSort (le := fun (x y : Int) => decide (x ≤ y)) (fun a b c h1 h2 => by simp at *; omega) (fun a b => by simp; omega) zs
    exact this.imp (fun h => by simpa using h)
  obtain ⟨h1, h2⟩ := compact_spec hp
  exact ⟨h1, fun y => by unfold sortU; rw [h2]; exact (List.mergeSort_perm zs _).mem_iff⟩
theorem put_heap {g q : Nat} {cur : Array Value} (os : Array Obj) (h : w.heap[g]? = some (.cells cur T (0, 0))) (hl : ys.length ≤ cur.size) :
    Stp [g] w (Go.Sort.grow (Go.Sort.putRow (Value.int .i64) (Go.Sort.ahead w q) g 0 ys.toArray) os) ∧
    ∃ cur', (Go.Sort.grow (Go.Sort.putRow (Value.int .i64) (Go.Sort.ahead w q) g 0 ys.toArray) os).heap[g]? = some (.cells cur' T (0, 0)) ∧ cur'.size = cur.size ∧ cur'.toList.take ys.length = ys.map (Value.int .i64) := by
  have hlt : g < w.heap.size := (Array.getElem?_eq_some_iff.1 h).1
  have hh : (Go.Sort.grow (Go.Sort.putRow (Value.int .i64) (Go.Sort.ahead w q) g 0 ys.toArray) os).heap = w.heap.modify g (Go.Sort.onCells (Go.Sort.putCells (Value.int .i64) 0 ys.toArray)) ++ os := rfl
  refine ⟨⟨rfl, rfl, rfl, by rw [hh]; simp, fun b hb hn => ?_⟩, Go.Sort.putCells (Value.int .i64) 0 ys.toArray cur, ?_, by simp [Go.Sort.putCells], ?_⟩
  · rw [hh, Array.getElem?_append_left (by simpa using hb), Array.getElem?_modify, if_neg (by simp at hn; exact fun e => hn e.symm)]
  · rw [hh, Array.getElem?_append_left (by simpa using hlt), Array.getElem?_modify, if_pos rfl, h]
    rfl
  · apply List.ext_getElem
    · simp [Go.Sort.putCells]; omega
    · intro i h1 h2
      have hi : i < ys.length := by simpa using h2
      simp [Go.Sort.putCells, hi]
theorem holds_row {g : Nat} {cur : Array Value} (h : w.heap[g]? = some (.cells cur T (0, 0))) (ht : cur.toList.take zs.length = zs.map (Value.int .i64)) : Go.Sort.Holds (Value.int .i64) w g 0 zs.toArray := by
  intro j hj
  have hj' : j < zs.length := by simpa using hj
  have hc : cur[j]? = some (.int .i64 zs[j]) := by
    have h1 : (cur.toList.take zs.length)[j]? = some (.int .i64 zs[j]) := by rw [ht]; simp [hj']
    rw [List.getElem?_take, if_pos hj'] at h1
    simpa using h1
  constructor
  · simp [World.cell?, h, hc, hj']
  · simp [World.frozen?, h]
end Go.Eng
namespace Go.Proofs.YtgpibcgebpgmiaaDoor
open Go Go.Eng Go.RowKit
set_option linter.unusedVariables false
theorem Sort_row {X : List Nat} {base T : Nat} {v : Value} {zs : List Int} (w : World) (h : Row X w base T v zs) (hsz : zs.length < 4611686018427387904) :
    Calls Tryd.prog 35 #[v] w (Ret fun r w' => r = .tuple #[] ∧ Row X w' base T v (zs.mergeSort fun x y => decide (x ≤ y)) ∧ Stp (ob v) w w') := by
  rcases h.toI with ⟨rfl, rfl⟩ | ⟨g, cap, cur, rfl, hb, hg, hnc, hcm, hcs, ht⟩
  · refine (Tryd.slices_Sort_int_none none 0 w).mono ?_
    rintro _ _ ⟨rfl, rfl⟩
    exact .mk ⟨rfl, by simpa using Row.nil, Stp.refl _ _⟩
  · have hlt : g < w.heap.size := (Array.getElem?_eq_some_iff.1 hg).1
    refine (Tryd.slices_Sort_int g 0 cap zs w (holds_row hg ht) hlt hsz).mono ?_
    rintro _ _ ⟨rfl, q, os, rfl⟩
    have hl : (zs.mergeSort fun x y => decide (x ≤ y)).length = zs.length := List.length_mergeSort zs
    obtain ⟨hS, cur', h1, h2, h3⟩ := put_heap (q := q) os hg (ys := zs.mergeSort fun x y => decide (x ≤ y)) (by omega)
    refine .mk ⟨rfl, RowI.toRow (.inr ⟨g, cap, cur', by rw [hl], hb, h1, by omega, hcm, by omega, h3⟩), hS⟩
theorem Compact_row {X : List Nat} {base T : Nat} {v : Value} {zs : List Int} (w : World) (h : Row X w base T v zs) (hsz : zs.length ≤ 9223372036854775807) :
    Calls Tryd.prog 36 #[v] w (Ret fun r w' => Row X w' base T r (Lib.compact zs) ∧ Stp (ob v) w w' ∧ ob r = ob v) := by
  rcases h.toI with ⟨rfl, rfl⟩ | ⟨g, cap, cur, rfl, hb, hg, hnc, hcm, hcs, ht⟩
  · refine (Tryd.slices_Compact_int_empty none 0 w).mono ?_
    rintro _ _ ⟨rfl, rfl⟩
    exact .mk ⟨by rw [show Lib.compact ([] : List Int) = [] from rfl]; exact Row.nil, Stp.refl _ _, rfl⟩
  · refine (Tryd.slices_Compact_int g 0 cap zs w (holds_row hg ht) hsz hnc).mono ?_
    rintro _ _ ⟨rfl, q, rfl⟩
    have hcl : (Lib.compact zs).length ≤ zs.length := by
      unfold Lib.compact Lib.compactUpTo
      rw [List.length_map]
      exact Nat.le_trans (List.length_filter_le _ _) (by simp)
    have e : ∀ W : World, W = Go.Sort.grow W #[] := fun W => by simp [Go.Sort.grow]
    rw [e (Go.Sort.putRow _ _ _ _ _)]
    obtain ⟨hS, cur', h1, h2, h3⟩ := put_heap (q := q) #[] hg (ys := Lib.compact zs ++ List.replicate (zs.length - (Lib.compact zs).length) 0) (by simp; omega)
    refine .mk ⟨RowI.toRow (.inr ⟨g, cap, cur', rfl, hb, h1, by omega, hcm, by omega, ?_⟩), hS, rfl⟩
    have h4 := congrArg (List.take (Lib.compact zs).length) h3
    rw [List.take_take, Nat.min_eq_left (by simp)] at h4
    rw [h4]
    simp
end Go.Proofs.YtgpibcgebpgmiaaDoor

namespace Go.Proofs.YtgpibcgebpgmiaaDoor
open Go Go.Eng Go.RowKit
set_option linter.unusedVariables false

/-! ### the fields that an expression uses -/
def ownU (k : Int) (s : Str) : List Int := if (fieldF s).2.2 = true ∧ k = 4 then [(fieldF s).1] else []
def usesF : Nd → List Int
  | .mk k n s l => sortU (ownU k s ++ (l.map usesF).flatten)
theorem usesF_eq (k n : Int) (s : Str) (l : List Nd) : usesF (.mk k n s l) = sortU (ownU k s ++ (l.map usesF).flatten) := by rw [usesF]
def usesT (nm : Str) : Nd → Bool
  | .mk k n s l => (decide (k = 4) && decide (s = nm)) || (l.map (usesT nm)).any id
theorem usesT_eq (nm : Str) (k n : Int) (s : Str) (l : List Nd) : usesT nm (.mk k n s l) = ((decide (k = 4) && decide (s = nm)) || (l.map (usesT nm)).any id) := by rw [usesT]
def usesR (x : Nd) : List Int := ((List.range 7).filter (fun i => usesT (fieldNames.getD i []) x)).map (fun (i : Nat) => (i : Int))
theorem field_spec (s : Str) (y : Int) : ((fieldF s).2.2 = true ∧ y = (fieldF s).1) ↔ ∃ i, i < 7 ∧ s = fieldNames.getD i [] ∧ y = (i : Int) := by
  by_cases h0 : s = [100, 97, 121]
  · subst h0
    have e : fieldF [100, 97, 121] = (0, 3, true) := by decide +kernel
    have u : ∀ i, i < 7 → [100, 97, 121] = fieldNames.getD i [] → i = 0 := by decide +kernel
    rw [e]
    constructor
    · rintro ⟨-, rfl⟩; exact ⟨0, by decide, by decide +kernel, rfl⟩
    · rintro ⟨i, hi, he, rfl⟩; rw [u i hi he]; exact ⟨rfl, rfl⟩
  by_cases h1 : s = [115, 101, 114, 118, 101, 100]
  · subst h1
    have e : fieldF [115, 101, 114, 118, 101, 100] = (1, 3, true) := by decide +kernel
    have u : ∀ i, i < 7 → [115, 101, 114, 118, 101, 100] = fieldNames.getD i [] → i = 1 := by decide +kernel
    rw [e]
    constructor
    · rintro ⟨-, rfl⟩; exact ⟨1, by decide, by decide +kernel, rfl⟩
    · rintro ⟨i, hi, he, rfl⟩; rw [u i hi he]; exact ⟨rfl, rfl⟩
  by_cases h2 : s = [101, 120, 116, 114, 97]
  · subst h2
    have e : fieldF [101, 120, 116, 114, 97] = (2, 1, true) := by decide +kernel
    have u : ∀ i, i < 7 → [101, 120, 116, 114, 97] = fieldNames.getD i [] → i = 2 := by decide +kernel
    rw [e]
    constructor
    · rintro ⟨-, rfl⟩; exact ⟨2, by decide, by decide +kernel, rfl⟩
    · rintro ⟨i, hi, he, rfl⟩; rw [u i hi he]; exact ⟨rfl, rfl⟩
  by_cases h3 : s = [98, 121]
  · subst h3
    have e : fieldF [98, 121] = (3, 1, true) := by decide +kernel
    have u : ∀ i, i < 7 → [98, 121] = fieldNames.getD i [] → i = 3 := by decide +kernel
    rw [e]
    constructor
    · rintro ⟨-, rfl⟩; exact ⟨3, by decide, by decide +kernel, rfl⟩
    · rintro ⟨i, hi, he, rfl⟩; rw [u i hi he]; exact ⟨rfl, rfl⟩
  by_cases h4 : s = [116, 111]
  · subst h4
    have e : fieldF [116, 111] = (4, 1, true) := by decide +kernel
    have u : ∀ i, i < 7 → [116, 111] = fieldNames.getD i [] → i = 4 := by decide +kernel
    rw [e]
    constructor
    · rintro ⟨-, rfl⟩; exact ⟨4, by decide, by decide +kernel, rfl⟩
    · rintro ⟨i, hi, he, rfl⟩; rw [u i hi he]; exact ⟨rfl, rfl⟩
  by_cases h5 : s = [99, 111, 117, 114, 116]
  · subst h5
    have e : fieldF [99, 111, 117, 114, 116] = (5, 1, true) := by decide +kernel
    have u : ∀ i, i < 7 → [99, 111, 117, 114, 116] = fieldNames.getD i [] → i = 5 := by decide +kernel
    rw [e]
    constructor
    · rintro ⟨-, rfl⟩; exact ⟨5, by decide, by decide +kernel, rfl⟩
    · rintro ⟨i, hi, he, rfl⟩; rw [u i hi he]; exact ⟨rfl, rfl⟩
  by_cases h6 : s = [97, 109, 111, 117, 110, 116]
  · subst h6
    have e : fieldF [97, 109, 111, 117, 110, 116] = (6, 1, true) := by decide +kernel
    have u : ∀ i, i < 7 → [97, 109, 111, 117, 110, 116] = fieldNames.getD i [] → i = 6 := by decide +kernel
    rw [e]
    constructor
    · rintro ⟨-, rfl⟩; exact ⟨6, by decide, by decide +kernel, rfl⟩
    · rintro ⟨i, hi, he, rfl⟩; rw [u i hi he]; exact ⟨rfl, rfl⟩
  constructor
  · rintro ⟨h, -⟩
    exfalso
    have hn : fieldNames.findIdx? (isS s) = none := List.findIdx?_eq_none_iff.2 fun x hx => by
      simp only [fieldNames, List.mem_cons, List.not_mem_nil, or_false] at hx
      rcases hx with rfl | rfl | rfl | rfl | rfl | rfl | rfl <;> simp only [isS, decide_eq_false_iff_not] <;> intro e <;> first | exact (absurd e h0) | exact (absurd e.symm h0) | exact (absurd e h1) | exact (absurd e.symm h1) | exact (absurd e h2) | exact (absurd e.symm h2) | exact (absurd e h3) | exact (absurd e.symm h3) | exact (absurd e h4) | exact (absurd e.symm h4) | exact (absurd e h5) | exact (absurd e.symm h5) | exact (absurd e h6) | exact (absurd e.symm h6) | skip
    simp [fieldF, idx, hn] at h
  · rintro ⟨i, hi, he, -⟩
    exfalso
    match i, hi with
    | 0, _ => exact h0 he
    | 1, _ => exact h1 he
    | 2, _ => exact h2 he
    | 3, _ => exact h3 he
    | 4, _ => exact h4 he
    | 5, _ => exact h5 he
    | 6, _ => exact h6 he
theorem usesR_asc (x : Nd) : (usesR x).Pairwise (· < ·) := by
  unfold usesR
  rw [List.pairwise_map]
  exact (List.pairwise_lt_range.filter _).imp (fun h => by omega)
theorem mem_usesR (x : Nd) (y : Int) : y ∈ usesR x ↔ ∃ i, i < 7 ∧ usesT (fieldNames.getD i []) x = true ∧ y = (i : Int) := by
  unfold usesR
  simp only [List.mem_map, List.mem_filter, List.mem_range]
  constructor
  · rintro ⟨i, ⟨h1, h2⟩, rfl⟩; exact ⟨i, h1, h2, rfl⟩
  · rintro ⟨i, h1, h2, rfl⟩; exact ⟨i, ⟨h1, h2⟩, rfl⟩
theorem uses_eq (x : Nd) : usesF x = usesR x := by
  induction x using Nd.ind with
  | h k n s l ih =>
  rw [usesF_eq]
  refine asc_eq (sortU_spec _).1 (usesR_asc _) fun y => ?_
  rw [(sortU_spec _).2, mem_usesR, List.mem_append]
  have h1 : y ∈ ownU k s ↔ k = 4 ∧ ∃ i, i < 7 ∧ s = fieldNames.getD i [] ∧ y = (i : Int) := by
    rw [← field_spec]
    unfold ownU
    by_cases h : (fieldF s).2.2 = true ∧ k = 4
    · rw [if_pos h, List.mem_singleton]; exact ⟨fun e => ⟨h.2, h.1, e⟩, fun e => e.2.2⟩
    · rw [if_neg h]; exact ⟨fun e => (by cases e), fun e => absurd ⟨e.2.1, e.1⟩ h⟩
  rw [h1]
  constructor
  · rintro (⟨rfl, i, hi, he, rfl⟩ | h)
    · exact ⟨i, hi, by rw [usesT_eq, ← he]; simp, rfl⟩
    · obtain ⟨z, hz, hy⟩ := List.mem_flatten.1 h
      obtain ⟨c, hc, rfl⟩ := List.mem_map.1 hz
      rw [ih c hc, mem_usesR] at hy
      obtain ⟨i, hi, hu, rfl⟩ := hy
      refine ⟨i, hi, ?_, rfl⟩
      rw [usesT_eq, Bool.or_eq_true]
      exact .inr (List.any_eq_true.2 ⟨_, List.mem_map.2 ⟨c, hc, rfl⟩, hu⟩)
  · rintro ⟨i, hi, hu, rfl⟩
    rw [usesT_eq, Bool.or_eq_true] at hu
    rcases hu with hu | hu
    · simp only [Bool.and_eq_true, decide_eq_true_eq] at hu
      exact .inl ⟨hu.1, i, hi, hu.2, rfl⟩
    · obtain ⟨z, hz, hz2⟩ := List.any_eq_true.1 hu
      obtain ⟨c, hc, rfl⟩ := List.mem_map.1 hz
      exact .inr (List.mem_flatten.2 ⟨usesF c, List.mem_map.2 ⟨c, hc, rfl⟩, by rw [ih c hc, mem_usesR]; exact ⟨i, hi, hz2, rfl⟩⟩)
theorem usesF_len (x : Nd) : (usesF x).length ≤ 7 := by
  rw [uses_eq, usesR, List.length_map]
  exact Nat.le_trans (List.length_filter_le _ _) (by simp)
theorem ownU_len (k : Int) (s : Str) : (ownU k s).length ≤ 1 := by
  unfold ownU
  split <;> simp
theorem flat_len (l : List Nd) : ((l.map usesF).flatten).length ≤ 7 * l.length := by
  induction l with
  | nil => simp
  | cons a l ih =>
    have := usesF_len a
    simp only [List.map_cons, List.flatten_cons, List.length_append, List.length_cons]
    omega
set_option maxHeartbeats 1000000 in
theorem Uses_any (x : Nd) : ∀ (v : Value) (w : World), okN x = true → NdV [] w v x → SlV [] w flds fieldNames →
    Calls Tryd.prog 12 #[v] w (Ret fun r w' => Row [] w' w.heap.size 3 r (usesF x) ∧ Stp [] w w') := by
  induction x using Nd.ind with
  | h k n s l ih =>
  intro v w hok hx hF
  obtain ⟨hk1, hk2⟩ := (okN_iff _).1 hok
  replace hk1 : l.length ≤ 1000 := hk1
  replace hk2 : ∀ y ∈ l, okN y = true := hk2
  obtain ⟨kv, rfl, hs⟩ := hx
  replace hs : SlV [] w kv l := hs
  have hmax := hs.max
  have hsW := hs
  have hol := ownU_len k s
  rw [usesF_eq]
  refine calls_of_WC1 (n := 42) Tryd.func12 rfl rfl rfl ?_
  refine W ?_
  refine WL_eff (OE_box rfl) rfl ?_
  rintro _ w1 ⟨b, rfl, hbb, hblk, hS⟩
  replace hblk : Blk w1 b _ (ndL k n s kv) := hblk
  replace hs := hs.up hS
  refine W ?_
  refine WL_eff (OE_call rfl (evs1 rfl) (Field_any s _ (hF.up hS))) rfl ?_
  rintro _ w2 ⟨rfl, hT⟩
  replace hblk := hblk.up hT
  replace hs := hs.up hT
  replace hS := hS.trans hT
  clear hT hbb
  have hwb := hS.size
  refine W ?_
  refine WL_cutQ (σ := Bool) (fun q => [(1, .pointer (some ⟨b, 0, none⟩)), (3, .slice none 0 0), (4, .int .i64 (fieldF s).1), (21, .bool q)]) (fun q w' => w' = w2 ∧ q = decide ((fieldF s).2.2 = true ∧ k = 4)) ?_ ?_
  · repeat' (first | refine W1 ?_ | (exfalso; omega) | refine WL_split rfl rfl (fun hg => ?_) (fun hg => ?_) | refine WL_splitB rfl rfl (fun hg => ?_) (fun hg => ?_) | refine WC_cond rfl (fun hc => ?_) (fun hc => ?_) | refine WC_condB rfl (fun hc => ?_) (fun hc => ?_))
    all_goals exact WQ_cut _ ⟨rfl, rfl, rfl, rfl, trivial⟩ ⟨rfl, by simp [*]⟩
  rintro q _ ⟨rfl, hq⟩
  try dsimp only at hq ⊢
  refine W ?_
  refine WC_cutQ (σ := Value) (fun u => [(1, .pointer (some ⟨b, 0, none⟩)), (3, u)]) (fun u w' => Row [] w' w.heap.size 3 u (ownU k s) ∧ Blk w' b 25 (ndL k n s kv) ∧ SlV [] w' kv l ∧ Stp [] w w') ?_ ?_
  · cases q with
    | false =>
      have hno : ownU k s = [] := by unfold ownU; rw [if_neg (by simpa using hq.symm)]
      repeat' (first | refine W1 ?_ | (exfalso; omega) | refine WL_split rfl rfl (fun hg => ?_) (fun hg => ?_) | refine WL_splitB rfl rfl (fun hg => ?_) (fun hg => ?_) | refine WC_cond rfl (fun hc => ?_) (fun hc => ?_) | refine WC_condB rfl (fun hc => ?_) (fun hc => ?_))
      exact WQ_cut (.slice none 0 0) ⟨rfl, rfl, trivial⟩ ⟨by rw [hno]; exact Row.nil, hblk, hs, hS⟩
    | true =>
      have hno : ownU k s = [(fieldF s).1] := by unfold ownU; rw [if_pos (by simpa using hq.symm)]
      repeat' (first | refine W1 ?_ | (exfalso; omega) | refine WL_split rfl rfl (fun hg => ?_) (fun hg => ?_) | refine WL_splitB rfl rfl (fun hg => ?_) (fun hg => ?_) | refine WC_cond rfl (fun hc => ?_) (fun hc => ?_) | refine WC_condB rfl (fun hc => ?_) (fun hc => ?_))
      refine WL_eff (OE_buildSlice (vs := [(0, .int .i64 (fieldF s).1)]) rfl (buildSI1 _)) rfl ?_
      rintro bv w4 hN
      have hbv : SlV (ob (.slice none 0 0) ++ []) w4 bv [(fieldF s).1] := hN.slv (fun b hb => by simp [ob] at hb) rfl rfl (by simp [maxLen])
      have hS4 := NewSl.stp hN
      clear hN
      replace hblk := hblk.up hS4
      replace hs := hs.up hS4
      replace hS := hS.trans hS4
      have hwb4 := hS.size
      refine WL_eff (OE_append (X := []) (base := w.heap.size) rfl (by decide) rfl rfl Row.nil hbv (by simp only [List.length_cons, List.length_nil]; omega) (by simp only [List.length_cons, List.length_nil, maxLen]; omega) hwb4) rfl ?_
      rintro u' w5 ⟨hrow', hS5, _⟩
      replace hS5 : Stp [] w4 w5 := hS5.mono (by simp [ob])
      refine W ?_
      exact WQ_cut u' ⟨rfl, rfl, trivial⟩ ⟨by rw [hno]; exact hrow', hblk.up hS5, hs.up hS5, hS.trans hS5⟩
  clear hq q hS hblk hs hwb
  rintro u w1 ⟨hrow, hblk, hs, hS⟩
  try dsimp only at hrow hblk hs hS ⊢
  refine W ?_
  refine WC_loop (σ := Nat × Value) (fun q => [(3, q.2), (27, kv), (28, .int .i64 (l.length : Int)), (29, .int .i64 (q.1 : Int))]) (fun q w' => q.1 ≤ l.length ∧ Row [] w' w.heap.size 3 q.2 (ownU k s ++ ((l.take q.1).map usesF).flatten) ∧ Stp [] w w') (fun q => l.length - q.1) (0, u) ⟨rfl, rfl, rfl, rfl, trivial⟩ ⟨Nat.zero_le _, by simpa using hrow, hS⟩ ?_
  clear hs hblk hrow hS
  rintro ⟨j, u⟩ w2 ⟨hj, hrow, hS⟩
  dsimp only at hj hrow ⊢
  have hs := hsW.up hS
  have hfl := flat_len (l.take j)
  rw [List.length_take, Nat.min_eq_left hj] at hfl
  by_cases hlt : j < l.length
  · obtain ⟨kv2, hs2, hc2⟩ := hs.nd hlt
    have hul := usesF_len l[j]
    repeat' (first | refine W1 ?_ | (exfalso; omega) | refine WL_split rfl rfl (fun hg => ?_) (fun hg => ?_) | refine WL_splitB rfl rfl (fun hg => ?_) (fun hg => ?_) | refine WC_cond rfl (fun hc => ?_) (fun hc => ?_) | refine WC_condB rfl (fun hc => ?_) (fun hc => ?_))
    apply WL_pure (PR_loadNd rfl rfl hs hlt hc2) rfl
    refine WL_eff OE_alloc rfl ?_
    rintro _ w4 ⟨b8, rfl, hb8, e8, hT⟩
    refine WL_eff0 (OE_storeA (us := ndC l[j] kv2) rfl rfl rfl rfl (ndC_one hs2) e8 rfl) ?_
    rintro _ w5 ⟨hT2, e8'⟩
    have hT3 := hT.own hT2 (fun b hb => .inr (by simp at hb; omega))
    clear hT hT2 e8 hb8
    replace hrow := hrow.up hT3
    replace hS := hS.trans hT3
    replace hs2 := hs2.up hT3
    clear hT3
    refine W ?_
    refine WL_eff (OE_call rfl (evs1 rfl) (ih l[j] (List.getElem_mem hlt) _ _ (hk2 _ (List.getElem_mem hlt)) ⟨kv2, rfl, hs2⟩ (hF.up hS))) rfl ?_
    rintro rv w6 ⟨hr, hS6⟩
    have hrv : SlV (ob u ++ []) w6 rv (usesF l[j]) := (RowI.toRow hr.toI).slv (fun b hb => (hrow.ob_le b (by simpa using hb)).2)
    replace hrow := hrow.up hS6
    replace hS := hS.trans hS6
    have hbase := hS.size
    clear hr hS6
    refine WL_eff (OE_append (X := []) (base := w.heap.size) rfl (by decide) rfl rfl hrow hrv (by rw [List.length_append]; omega) (by rw [List.length_append]; simp only [maxLen]; omega) hbase) rfl ?_
    rintro u' w7 ⟨hrow', hS7, _⟩
    refine W ?_
    refine WQ_loop (j + 1, u') ⟨rfl, rfl, rfl, rfl, trivial⟩ ⟨by dsimp only; omega, ?_, hS.own hS7 (fun c hc => .inr (hrow.ob_le c hc).1)⟩ (by dsimp only; omega)
    · dsimp only
      rw [List.take_succ_eq_append_getElem hlt, List.map_append, List.flatten_append, ← List.append_assoc]
      simpa using hrow'
  · have hje : j = l.length := by omega
    subst hje
    rw [List.take_length] at hrow hfl
    have hll : (ownU k s ++ (l.map usesF).flatten).length ≤ 8000 := by rw [List.length_append]; omega
    repeat' (first | refine W1 ?_ | (exfalso; omega) | refine WL_split rfl rfl (fun hg => ?_) (fun hg => ?_) | refine WL_splitB rfl rfl (fun hg => ?_) (fun hg => ?_) | refine WC_cond rfl (fun hc => ?_) (fun hc => ?_) | refine WC_condB rfl (fun hc => ?_) (fun hc => ?_))
    refine WL_eff (OE_call rfl (evs1 rfl) (Sort_row _ hrow (by omega))) rfl ?_
    rintro _ w7 ⟨rfl, hrow2, hS7⟩
    refine W ?_
    refine WL_eff (OE_call rfl (evs1 rfl) (Compact_row _ hrow2 (by rw [List.length_mergeSort]; omega))) rfl ?_
    rintro rv w8 ⟨hrow3, hS8, hob⟩
    refine W ?_
    first | refine WQ_ret1 rfl rfl ?_ | refine WQ_ret2 rfl rfl rfl ?_ | refine WQ_ret3 rfl rfl rfl rfl ?_ | refine WQ_ret0 rfl ?_ | refine WQ_end0 rfl ?_
    exact .mk ⟨hrow3, (hS.own hS7 (fun c hc => .inr (hrow.ob_le c hc).1)).own hS8 (fun c hc => .inr (hrow.ob_le c hc).1)⟩
end Go.Proofs.YtgpibcgebpgmiaaDoor

namespace Go.Proofs.YtgpibcgebpgmiaaDoor
open Go Go.Eng Go.RowKit
set_option linter.unusedVariables false

theorem fieldL_any (s : Str) (w : World) : Calls Tryd.prog 38 #[str s] w (Ret fun r w' => (∀ X, NdV X w' r (.mk 4 0 s [])) ∧ Stp [] w w') := by
  refine calls_of_WC1 (n := 5) Tryd.func38 rfl rfl rfl ?_
  refine W ?_
  refine WL_eff OE_alloc rfl ?_
  rintro _ w1 ⟨b, rfl, hb, hblk, hS⟩
  refine W ?_
  apply WL_build (vs := [(0, .int .i64 4), (2, str s)]) rfl (buildN02 _ _) rfl
  refine WL_eff0 (OE_storeA (us := ndC (.mk 4 0 s []) (.slice none 0 0)) rfl rfl rfl rfl (ndC_one (x := .mk 4 0 s []) (nilSlv (α := Nd) [] w)) hblk rfl) ?_
  rintro _ w2 ⟨hS2, hblk2⟩
  refine W ?_
  refine WQ_retc rfl rfl rfl hblk2 rfl ?_
  exact .mk ⟨fun X => ⟨_, rfl, nilSlv _ _⟩, hS.own hS2 (fun c hc => .inr (by simp at hc; omega))⟩
theorem numberL_any (n : Int) (w : World) : Calls Tryd.prog 39 #[.int .i64 n] w (Ret fun r w' => (∀ X, NdV X w' r (.mk 1 n [] [])) ∧ Stp [] w w') := by
  refine calls_of_WC1 (n := 5) Tryd.func39 rfl rfl rfl ?_
  refine W ?_
  refine WL_eff OE_alloc rfl ?_
  rintro _ w1 ⟨b, rfl, hb, hblk, hS⟩
  refine W ?_
  apply WL_build (vs := [(0, .int .i64 1), (1, .int .i64 n)]) rfl (buildN01 _ _) rfl
  refine WL_eff0 (OE_storeA (us := ndC (.mk 1 n [] []) (.slice none 0 0)) rfl rfl rfl rfl (ndC_one (x := .mk 1 n [] []) (nilSlv (α := Nd) [] w)) hblk rfl) ?_
  rintro _ w2 ⟨hS2, hblk2⟩
  refine W ?_
  refine WQ_retc rfl rfl rfl hblk2 rfl ?_
  exact .mk ⟨fun X => ⟨_, rfl, nilSlv _ _⟩, hS.own hS2 (fun c hc => .inr (by simp at hc; omega))⟩
theorem twoL_any (X : List Nat) (k : Int) (s : Str) (u0 u1 : Value) (y0 y1 : Nd) (w : World) (hX0 : ∀ b ∈ X, b < w.heap.size) (h0 : NdV X w u0 y0) (h1 : NdV X w u1 y1) :
    Calls Tryd.prog 37 #[.int .i64 k, str s, u0, u1] w (Ret fun r w' => NdV X w' r (.mk k 0 s [y0, y1]) ∧ Stp [] w w') := by
  obtain ⟨k0, rfl, s0⟩ := h0
  obtain ⟨k1, rfl, s1⟩ := h1
  obtain ⟨p0, c0, rfl, -⟩ := id s0
  obtain ⟨p1, c1, rfl, -⟩ := id s1
  refine calls_of_WC4 (n := 15) Tryd.func37 rfl rfl rfl ?_
  refine W ?_
  refine WL_eff (OE_box rfl) rfl ?_
  rintro _ w1 ⟨b1, rfl, hb1, e1, hS1⟩
  replace e1 : Blk w1 b1 _ (ndC y0 (.slice p0 y0.kids.length c0)) := e1
  refine WL_eff (OE_box rfl) rfl ?_
  rintro _ w2 ⟨b2, rfl, hb2, e2, hS2⟩
  replace e2 : Blk w2 b2 _ (ndC y1 (.slice p1 y1.kids.length c1)) := e2
  replace e1 := e1.up hS2
  have hS := hS1.trans hS2
  clear hS1 hS2
  refine WL_eff OE_alloc rfl ?_
  rintro _ w3 ⟨b, rfl, hb, hblk, hS3⟩
  replace e1 := e1.up hS3
  replace e2 := e2.up hS3
  have hz := hS.size
  replace hS := hS.trans hS3
  have hw : ∀ c ∈ b :: X, c ∈ X ∨ w.heap.size ≤ c := fun c hc => by
    rcases List.mem_cons.1 hc with rfl | h
    · right; omega
    · exact .inl h
  replace s0 := s0.ext hS (by simp) hw
  replace s1 := s1.ext hS (by simp) hw
  have hX : ∀ c ∈ b :: X, c < w3.heap.size := fun c hc => by
    rcases List.mem_cons.1 hc with rfl | h
    · exact hblk.lt
    · exact Nat.lt_of_lt_of_le (hX0 c h) hS.size
  refine W ?_
  refine WL_eff (OE_buildSlice (vs := [(0, .agg #[.int .i64 y0.kind, .int .i64 y0.num, str y0.word, .slice p0 y0.kids.length c0]), (1, .agg #[.int .i64 y1.kind, .int .i64 y1.num, str y1.word, .slice p1 y1.kids.length c1])]) rfl (buildSN2 _ _ _ _ _ _ _ _ _ _ _ _)) rfl ?_
  rintro bv w4 hN
  have hbv : SlV (b :: X) w4 bv [y0, y1] := hN.slvG (css := [ndC y0 _, ndC y1 _]) hX rfl rfl rfl (reps2 s0 s1) (by simp [maxLen])
  have hT := NewSl.stp hN
  clear hN
  replace hblk := hblk.up hT
  replace hS := hS.trans hT
  obtain ⟨p, c, rfl, -⟩ := id hbv
  apply WL_build (vs := [(0, .int .i64 k), (2, str s), (3, .slice p 2 c)]) rfl (buildN023 _ _ _ _ _) rfl
  have hlt := hblk.lt
  refine WL_eff0 (OE_storeA (us := ndC (.mk k 0 s [y0, y1]) (.slice p 2 c)) rfl rfl rfl rfl (ndC_one (x := .mk k 0 s [y0, y1]) hbv) hblk rfl) ?_
  rintro _ w5 ⟨hS5, hblk5⟩
  refine W ?_
  refine WQ_retc rfl rfl rfl hblk5 rfl ?_
  refine .mk ⟨⟨_, rfl, ?_⟩, hS.own hS5 (fun c hc => .inr (by simp at hc; omega))⟩
  exact (hbv.ext (X' := b :: X) hS5 (by simp) (fun _ h => .inl h)).wk (fun c hc => List.mem_cons_of_mem _ hc)
theorem SameIntsL_any (va vb : Value) (xs ys : List Int) (w : World) (ha : SlV [] w va xs) (hb : SlV [] w vb ys) :
    Calls Tryd.prog 40 #[va, vb] w (Ret fun r w' => r = .bool (decide (xs = ys)) ∧ Stp [] w w') := by
  have hma := ha.max
  have hmb := hb.max
  refine calls_of_WC2 (n := 26) Tryd.func40 rfl rfl rfl ?_
  refine W ?_
  by_cases hl : xs.length = ys.length
  case neg =>
    repeat' (first | refine W1 ?_ | (exfalso; omega) | refine WL_split rfl rfl (fun hg => ?_) (fun hg => ?_) | refine WL_splitB rfl rfl (fun hg => ?_) (fun hg => ?_) | refine WC_cond rfl (fun hc => ?_) (fun hc => ?_) | refine WC_condB rfl (fun hc => ?_) (fun hc => ?_))
    first | refine WQ_ret1 rfl rfl ?_ | refine WQ_ret2 rfl rfl rfl ?_ | refine WQ_ret3 rfl rfl rfl rfl ?_ | refine WQ_ret0 rfl ?_ | refine WQ_end0 rfl ?_
    exact .mk ⟨by congr 1; rw [eq_comm, decide_eq_false_iff_not]; exact fun h => hl (by rw [h]), Stp.refl _ _⟩
  repeat' (first | refine W1 ?_ | (exfalso; omega) | refine WL_split rfl rfl (fun hg => ?_) (fun hg => ?_) | refine WL_splitB rfl rfl (fun hg => ?_) (fun hg => ?_) | refine WC_cond rfl (fun hc => ?_) (fun hc => ?_) | refine WC_condB rfl (fun hc => ?_) (fun hc => ?_))
  refine WC_loop (σ := Nat) (fun j => [(0, va), (1, vb), (4, .bool false), (5, .int .i64 (j : Int))]) (fun j w' => j ≤ xs.length ∧ Stp [] w w' ∧ ∀ i (h : i < xs.length), i < j → xs[i] = ys[i]'(by omega)) (fun j => xs.length - j) 0 ⟨rfl, rfl, rfl, rfl, trivial⟩ ⟨Nat.zero_le _, Stp.refl _ _, fun i _ h => absurd h (Nat.not_lt_zero _)⟩ ?_
  rintro j w2 ⟨hj, hS, heq⟩
  try dsimp only at hj heq ⊢
  replace ha := ha.up hS
  replace hb := hb.up hS
  by_cases hlt : j < xs.length
  · have hlt' : j < ys.length := by omega
    repeat' (first | refine W1 ?_ | (exfalso; omega) | refine WL_split rfl rfl (fun hg => ?_) (fun hg => ?_) | refine WL_splitB rfl rfl (fun hg => ?_) (fun hg => ?_) | refine WC_cond rfl (fun hc => ?_) (fun hc => ?_) | refine WC_condB rfl (fun hc => ?_) (fun hc => ?_))
    refine WC_drawn 9 [] [] [(0, 0), (1, 0), (2, 0), (3, 1), (4, 0), (5, 0), (6, 0), (7, 1), (8, 0)] rfl mixed (by kernel_rfl) (by kernel_rfl) (by kernel_rfl) (fun w1 hS1 => ?_)
    replace ha := ha.up hS1
    replace hb := hb.up hS1
    replace hS := hS.trans hS1
    refine D ?_
    by_cases he : xs[j] = ys[j]
    · have hk : ∀ i (h : i < xs.length), i < j + 1 → xs[i] = ys[i]'(by omega) := fun i h hi => by
        by_cases hij : i = j
        · subst hij; exact he
        · exact heq i h (by omega)
      repeat' (first | refine W1 ?_ | (exfalso; omega) | refine WL_split rfl rfl (fun hg => ?_) (fun hg => ?_) | refine WL_splitB rfl rfl (fun hg => ?_) (fun hg => ?_) | refine WC_cond rfl (fun hc => ?_) (fun hc => ?_) | refine WC_condB rfl (fun hc => ?_) (fun hc => ?_))
      exact WQ_loop (j + 1) ⟨rfl, rfl, rfl, rfl, trivial⟩ ⟨hlt, hS, hk⟩ (Nat.sub_lt_sub_left hlt (Nat.lt_succ_self j))
    · repeat' (first | refine W1 ?_ | (exfalso; omega) | refine WL_split rfl rfl (fun hg => ?_) (fun hg => ?_) | refine WL_splitB rfl rfl (fun hg => ?_) (fun hg => ?_) | refine WC_cond rfl (fun hc => ?_) (fun hc => ?_) | refine WC_condB rfl (fun hc => ?_) (fun hc => ?_))
      first | refine WQ_ret1 rfl rfl ?_ | refine WQ_ret2 rfl rfl rfl ?_ | refine WQ_ret3 rfl rfl rfl rfl ?_ | refine WQ_ret0 rfl ?_ | refine WQ_end0 rfl ?_
      exact .mk ⟨by congr 1; rw [eq_comm, decide_eq_false_iff_not]; exact fun h => he (by simp [h]), hS⟩
  · have hje : j = xs.length := by omega
    subst hje
    repeat' (first | refine W1 ?_ | (exfalso; omega) | refine WL_split rfl rfl (fun hg => ?_) (fun hg => ?_) | refine WL_splitB rfl rfl (fun hg => ?_) (fun hg => ?_) | refine WC_cond rfl (fun hc => ?_) (fun hc => ?_) | refine WC_condB rfl (fun hc => ?_) (fun hc => ?_))
    first | refine WQ_ret1 rfl rfl ?_ | refine WQ_ret2 rfl rfl rfl ?_ | refine WQ_ret3 rfl rfl rfl rfl ?_ | refine WQ_ret0 rfl ?_ | refine WQ_end0 rfl ?_
    exact .mk ⟨by congr 1; rw [eq_comm, decide_eq_true_eq]; exact List.ext_getElem hl (fun i h h' => heq i h h), hS⟩
abbrev yA : Nd := .mk 7 0 [100, 97, 121, 115] [(.mk 4 0 [100, 97, 121] []), (.mk 1 3 [] [])]
abbrev yB : Nd := .mk 6 0 [62] [.mk 10 0 [98, 101, 116, 119, 101, 101, 110] [(.mk 4 0 [100, 97, 121] []), (.mk 4 0 [115, 101, 114, 118, 101, 100] [])], (.mk 1 14 [] [])]
abbrev yC1 : Nd := .mk 6 0 [61] [(.mk 4 0 [101, 120, 116, 114, 97] []), (.mk 1 0 [] [])]
abbrev yC : Nd := .mk 9 0 [] [yC1, (.mk 4 0 [100, 97, 121] []), (.mk 4 0 [115, 101, 114, 118, 101, 100] [])]
abbrev yD : Nd := .mk 6 0 [43] [(.mk 4 0 [97, 109, 111, 117, 110, 116] []), (.mk 4 0 [100, 97, 121] [])]
theorem ofA : nestN yA = 2 ∧ typeT yA = 3 ∧ sizeN yA = 3 := by
  refine ⟨?_, ?_, ?_⟩
  · simp only [yA, nestN_eq, Nd.kids, List.map_cons, List.map_nil]; rfl
  · simp only [yA, typeT_eq, Nd.kids, Nd.kind, Nd.num, Nd.word, List.map_cons, List.map_nil]; rfl
  · simp only [yA, sizeN_eq, Nd.kids, List.map_cons, List.map_nil]; rfl
theorem ofB : nestN yB = 3 ∧ typeT yB = 2 ∧ sizeN yB = 5 := by
  refine ⟨?_, ?_, ?_⟩
  · simp only [yB, nestN_eq, Nd.kids, List.map_cons, List.map_nil]; rfl
  · simp only [yB, typeT_eq, Nd.kids, Nd.kind, Nd.num, Nd.word, List.map_cons, List.map_nil]; rfl
  · simp only [yB, sizeN_eq, Nd.kids, List.map_cons, List.map_nil]; rfl
theorem ofC : nestN yC = 3 ∧ typeT yC = 3 ∧ sizeN yC = 6 := by
  refine ⟨?_, ?_, ?_⟩
  · simp only [yC, yC1, nestN_eq, Nd.kids, List.map_cons, List.map_nil]; rfl
  · simp only [yC, yC1, typeT_eq, Nd.kids, Nd.kind, Nd.num, Nd.word, List.map_cons, List.map_nil]; rfl
  · simp only [yC, yC1, sizeN_eq, Nd.kids, List.map_cons, List.map_nil]; rfl
theorem ofD : nestN yD = 2 ∧ typeT yD = 0 ∧ sizeN yD = 3 := by
  refine ⟨?_, ?_, ?_⟩
  · simp only [yD, nestN_eq, Nd.kids, List.map_cons, List.map_nil]; rfl
  · simp only [yD, typeT_eq, Nd.kids, Nd.kind, Nd.num, Nd.word, List.map_cons, List.map_nil]; rfl
  · simp only [yD, sizeN_eq, Nd.kids, List.map_cons, List.map_nil]; rfl
theorem usC : usesF yC = [0, 1, 2] := by
  rw [uses_eq]
  simp only [yC, yC1, usesR, usesT_eq, List.map_cons, List.map_nil, List.any_cons, List.any_nil]
  decide +kernel
abbrev rlA : Rul := ⟨[97, 110, 115, 119, 101, 114], 0, [109, 111, 116, 105, 111, 110], yB, yA, [], []⟩
abbrev rlB : Rul := ⟨[97, 110, 115, 119, 101, 114], 0, [109, 111, 116, 105, 111, 110], yB, (.mk 1 3 [] []), [], []⟩
abbrev rlD : Rul := ⟨[105, 102], 0, [109, 111, 116, 105, 111, 110], yB, yA, [], []⟩
theorem ckA : checkT rlA = 0 := by
  have h : namesT rlA = true := by decide +kernel
  have m1 : mustF yB 2 = 0 := by unfold mustF; rw [ofB.1, ofB.2.1]; decide
  have m2 : mustF yA 3 = 0 := by unfold mustF; rw [ofA.1, ofA.2.1]; decide
  unfold checkT
  rw [h, if_neg (by decide), if_neg (by decide), m1, m2]
  decide
theorem ckB : checkT rlB = 21 := by
  have h : namesT rlB = true := by decide +kernel
  have m1 : mustF yB 2 = 0 := by unfold mustF; rw [ofB.1, ofB.2.1]; decide
  have m2 : mustF (.mk 1 3 [] []) 3 = 21 := by unfold mustF; rw [show nestN (.mk 1 3 [] []) = 1 by simp only [nestN_eq, Nd.kids, List.map_nil]; rfl, show typeT (.mk 1 3 [] []) = 1 by simp only [typeT_eq, Nd.kids, Nd.kind, Nd.num, Nd.word, List.map_nil]; rfl]; decide
  unfold checkT
  rw [h, if_neg (by decide), if_neg (by decide), m1, m2]
  decide
theorem ckD : checkT rlD = 7 := by
  have h : namesT rlD = false := by decide +kernel
  unfold checkT
  rw [if_pos h]
theorem fdS : fieldF [115, 101, 114, 118, 101, 100] = (1, 3, true) := by decide +kernel
end Go.Proofs.YtgpibcgebpgmiaaDoor

namespace Go.Proofs.YtgpibcgebpgmiaaDoor
open Go Go.Eng Go.RowKit
set_option linter.unusedVariables false
theorem OfL_any (v : Value) (x : Nd) (t e : Int) (w : World) (hx : NdV [] w v x) (hF : SlV [] w flds fieldNames) (h1 : (if nestN x ≤ 12 then typeT x else 0) = t) (h2 : (if nestN x ≤ 12 then (if typeT x = 0 then 21 else 0) else 2) = e) :
    Calls Tryd.prog 11 #[v] w (Ret fun r w' => r = .tuple #[.int .i64 t, .int .i64 e] ∧ Stp [] w w') := by
  have := Of_any [] [] v x w hx hF
  rw [h1, h2] at this
  exact this
theorem CheckL_any (v : Value) (r : Rul) (c m : Int) (w : World) (hv : RulV [] w v r) (hF : SlV [] w flds fieldNames) (hm : w.cell? ⟨1, 0, none⟩ = some (.int .i64 m)) (h : checkT r = c) :
    Calls Tryd.prog 41 #[v] w (Ret fun r' w' => r' = .int .i64 c ∧ Stp [] w w') := by
  have := Check14_any v r m w hv hF hm
  rw [h] at this
  exact this
theorem buildN03 (k : Int) (p : Option Addr) (l c : Nat) (w : World) : (Instr.build 25 #[(0, .int .i64 k), (3, .slice p l c)]).run Tryd.prog w = .ok (.agg #[.int .i64 k, .int .i64 0, str [], .slice p l c]) w := by kernel_rfl
theorem buildRlL (a o : Str) (k n : Int) (s : Str) (p : Option Addr) (l c : Nat) (k' n' : Int) (s' : Str) (p' : Option Addr) (l' c' : Nat) (w : World) : (Instr.build 51 #[(0, str a), (2, str o), (3, .agg #[.int .i64 k, .int .i64 n, str s, .slice p l c]), (4, .agg #[.int .i64 k', .int .i64 n', str s', .slice p' l' c'])]).run Tryd.prog w = .ok (.agg #[str a, .int .i64 0, str o, .int .i64 k, .int .i64 n, str s, .slice p l c, .int .i64 k', .int .i64 n', str s', .slice p' l' c', str [], str []]) w := by kernel_rfl
set_option maxHeartbeats 2000000 in
theorem lives14_any (m : Int) (w : World) (hF : SlV [] w flds fieldNames) (hm : w.cell? ⟨1, 0, none⟩ = some (.int .i64 m)) : Calls Tryd.prog 14 #[] w (Ret fun r w' => r = .bool true ∧ Stp [] w w') := by
  have oA1 : (if nestN yA ≤ 12 then typeT yA else 0) = 3 := by rw [ofA.1, ofA.2.1]; decide
  have oA2 : (if nestN yA ≤ 12 then (if typeT yA = 0 then 21 else 0) else 2) = (0 : Int) := by rw [ofA.1, ofA.2.1]; decide
  have oB1 : (if nestN yB ≤ 12 then typeT yB else 0) = 2 := by rw [ofB.1, ofB.2.1]; decide
  have oB2 : (if nestN yB ≤ 12 then (if typeT yB = 0 then 21 else 0) else 2) = (0 : Int) := by rw [ofB.1, ofB.2.1]; decide
  have oC1 : (if nestN yC ≤ 12 then typeT yC else 0) = 3 := by rw [ofC.1, ofC.2.1]; decide
  have oC2 : (if nestN yC ≤ 12 then (if typeT yC = 0 then 21 else 0) else 2) = (0 : Int) := by rw [ofC.1, ofC.2.1]; decide
  have oD1 : (if nestN yD ≤ 12 then typeT yD else 0) = 0 := by rw [ofD.1, ofD.2.1]; decide
  have oD2 : (if nestN yD ≤ 12 then (if typeT yD = 0 then 21 else 0) else 2) = (21 : Int) := by rw [ofD.1, ofD.2.1]; decide
  have kC : okN yC = true := okN_of_size yC (by rw [ofC.2.2]; decide)
  have hS : Stp [] w w := Stp.refl _ _
  refine calls_of_WC0 (n := 127) Tryd.func14 rfl rfl ?_
  refine W ?_
  refine WL_eff (OE_call rfl (evs1 rfl) (fieldL_any [100, 97, 121] _)) rfl ?_
  rintro rh1 w1 ⟨h1, hT⟩
  replace hS := hS.trans hT
  clear hT
  replace h1 := h1 []
  refine W ?_
  refine WL_eff (OE_call rfl (evs1 rfl) (numberL_any 3 _)) rfl ?_
  rintro rh2 w1 ⟨h2, hT⟩
  replace h1 := h1.up hT
  replace hS := hS.trans hT
  clear hT
  replace h2 := h2 []
  refine W ?_
  refine WL_eff (OE_call rfl (evs4 rfl rfl rfl rfl) (twoL_any [] 7 [100, 97, 121, 115] _ _ _ _ _ (by simp) h1 h2)) rfl ?_
  rintro rh3 w1 ⟨h3, hT⟩
  replace hS := hS.trans hT
  clear hT
  clear h1 h2
  obtain ⟨ka, rfl, sa⟩ := h3
  refine W ?_
  refine WL_eff OE_alloc rfl ?_
  rintro _ w1 ⟨b1, rfl, hb, e0, hT⟩
  refine WL_eff0 (OE_storeA (us := ndC yA ka) rfl rfl rfl rfl (ndC_one sa) e0 rfl) ?_
  rintro _ w2 ⟨hT2, e1⟩
  replace hT := hT.own hT2 (fun b hb => .inr (by simp at hb; omega))
  clear hT2 e0 hb
  replace sa := sa.up hT
  replace hS := hS.trans hT
  clear hT
  refine W ?_
  refine WL_eff (OE_call rfl (evs1 rfl) (fieldL_any [100, 97, 121] _)) rfl ?_
  rintro rh1 w1 ⟨h1, hT⟩
  replace sa := sa.up hT
  replace e1 := e1.up hT
  replace hS := hS.trans hT
  clear hT
  replace h1 := h1 []
  refine W ?_
  refine WL_eff (OE_call rfl (evs1 rfl) (fieldL_any [115, 101, 114, 118, 101, 100] _)) rfl ?_
  rintro rh2 w1 ⟨h2, hT⟩
  replace sa := sa.up hT
  replace e1 := e1.up hT
  replace h1 := h1.up hT
  replace hS := hS.trans hT
  clear hT
  replace h2 := h2 []
  refine W ?_
  refine WL_eff (OE_call rfl (evs4 rfl rfl rfl rfl) (twoL_any [] 10 [98, 101, 116, 119, 101, 101, 110] _ _ _ _ _ (by simp) h1 h2)) rfl ?_
  rintro rh3 w1 ⟨h3, hT⟩
  replace sa := sa.up hT
  replace e1 := e1.up hT
  replace hS := hS.trans hT
  clear hT
  clear h1 h2
  refine W ?_
  refine WL_eff (OE_call rfl (evs1 rfl) (numberL_any 14 _)) rfl ?_
  rintro rh4 w1 ⟨h4, hT⟩
  replace sa := sa.up hT
  replace e1 := e1.up hT
  replace h3 := h3.up hT
  replace hS := hS.trans hT
  clear hT
  replace h4 := h4 []
  refine W ?_
  refine WL_eff (OE_call rfl (evs4 rfl rfl rfl rfl) (twoL_any [] 6 [62] _ _ _ _ _ (by simp) h3 h4)) rfl ?_
  rintro rh5 w1 ⟨h5, hT⟩
  replace sa := sa.up hT
  replace e1 := e1.up hT
  replace hS := hS.trans hT
  clear hT
  clear h3 h4
  obtain ⟨kb, rfl, sb⟩ := h5
  refine W ?_
  refine WL_eff OE_alloc rfl ?_
  rintro _ w1 ⟨b2, rfl, hb, e0, hT⟩
  refine WL_eff0 (OE_storeA (us := ndC yB kb) rfl rfl rfl rfl (ndC_one sb) e0 rfl) ?_
  rintro _ w2 ⟨hT2, e2⟩
  replace hT := hT.own hT2 (fun b hb => .inr (by simp at hb; omega))
  clear hT2 e0 hb
  replace sa := sa.up hT
  replace e1 := e1.up hT
  replace sb := sb.up hT
  replace hS := hS.trans hT
  clear hT
  refine W ?_
  refine WL_eff (OE_call rfl (evs1 rfl) (fieldL_any [101, 120, 116, 114, 97] _)) rfl ?_
  rintro rh1 w1 ⟨h1, hT⟩
  replace sa := sa.up hT
  replace e1 := e1.up hT
  replace sb := sb.up hT
  replace e2 := e2.up hT
  replace hS := hS.trans hT
  clear hT
  replace h1 := h1 []
  refine W ?_
  refine WL_eff (OE_call rfl (evs1 rfl) (numberL_any 0 _)) rfl ?_
  rintro rh2 w1 ⟨h2, hT⟩
  replace sa := sa.up hT
  replace e1 := e1.up hT
  replace sb := sb.up hT
  replace e2 := e2.up hT
  replace h1 := h1.up hT
  replace hS := hS.trans hT
  clear hT
  replace h2 := h2 []
  refine W ?_
  refine WL_eff (OE_call rfl (evs4 rfl rfl rfl rfl) (twoL_any [] 6 [61] _ _ _ _ _ (by simp) h1 h2)) rfl ?_
  rintro rh3 w1 ⟨h3, hT⟩
  replace sa := sa.up hT
  replace e1 := e1.up hT
  replace sb := sb.up hT
  replace e2 := e2.up hT
  replace hS := hS.trans hT
  clear hT
  clear h1 h2
  refine W ?_
  refine WL_eff (OE_call rfl (evs1 rfl) (fieldL_any [100, 97, 121] _)) rfl ?_
  rintro rh4 w1 ⟨h4, hT⟩
  replace sa := sa.up hT
  replace e1 := e1.up hT
  replace sb := sb.up hT
  replace e2 := e2.up hT
  replace h3 := h3.up hT
  replace hS := hS.trans hT
  clear hT
  replace h4 := h4 []
  refine W ?_
  refine WL_eff (OE_call rfl (evs1 rfl) (fieldL_any [115, 101, 114, 118, 101, 100] _)) rfl ?_
  rintro rh5 w1 ⟨h5, hT⟩
  replace sa := sa.up hT
  replace e1 := e1.up hT
  replace sb := sb.up hT
  replace e2 := e2.up hT
  replace h3 := h3.up hT
  replace h4 := h4.up hT
  replace hS := hS.trans hT
  clear hT
  replace h5 := h5 []
  obtain ⟨k0, rfl, s0⟩ := h3
  obtain ⟨k1, rfl, s1⟩ := h4
  obtain ⟨k2, rfl, s2⟩ := h5
  obtain ⟨p0, c0, rfl, -⟩ := id s0
  obtain ⟨p1, c1, rfl, -⟩ := id s1
  obtain ⟨p2, c2, rfl, -⟩ := id s2
  refine W ?_
  refine WL_eff (OE_buildSlice (vs := [(0, .agg #[.int .i64 6, .int .i64 0, str [61], .slice p0 2 c0]), (1, .agg #[.int .i64 4, .int .i64 0, str [100, 97, 121], .slice p1 0 c1]), (2, .agg #[.int .i64 4, .int .i64 0, str [115, 101, 114, 118, 101, 100], .slice p2 0 c2])]) rfl (buildSN3 _ _ _ _ _ _ _ _ _ _ _ _ _ _ _ _ _ _)) rfl ?_
  rintro bv w3 hN
  have hbv : SlV [] w3 bv yC.kids := hN.slvG (X := []) (css := [ndC yC1 _, ndC (.mk 4 0 [100, 97, 121] []) _, ndC (.mk 4 0 [115, 101, 114, 118, 101, 100] []) _]) (by simp) rfl rfl rfl (reps3 (y0 := yC1) (y1 := .mk 4 0 [100, 97, 121] []) (y2 := .mk 4 0 [115, 101, 114, 118, 101, 100] []) s0 s1 s2) (show 3 ≤ maxLen by decide)
  have hT := NewSl.stp hN
  clear hN s0 s1 s2
  replace sa := sa.up hT
  replace e1 := e1.up hT
  replace sb := sb.up hT
  replace e2 := e2.up hT
  replace hS := hS.trans hT
  clear hT
  obtain ⟨p, c, rfl, -⟩ := id hbv
  apply WL_build (vs := [(0, .int .i64 9), (3, .slice p 3 c)]) rfl (buildN03 _ _ _ _) rfl
  refine W ?_
  refine WL_eff OE_alloc rfl ?_
  rintro _ w1 ⟨b3, rfl, hb, e0, hT⟩
  refine WL_eff0 (OE_storeA (us := ndC yC (.slice p 3 c)) rfl rfl rfl rfl (ndC_one (x := yC) hbv) e0 rfl) ?_
  rintro _ w2 ⟨hT2, e3⟩
  replace hT := hT.own hT2 (fun b hb => .inr (by simp at hb; omega))
  clear hT2 e0 hb
  replace sa := sa.up hT
  replace e1 := e1.up hT
  replace sb := sb.up hT
  replace e2 := e2.up hT
  replace hbv := hbv.up hT
  replace hS := hS.trans hT
  clear hT
  refine W ?_
  refine WL_eff (OE_call rfl (evs1 rfl) (OfL_any _ yA _ _ _ ⟨ka, rfl, sa⟩ (hF.up hS) oA1 oA2)) rfl ?_
  rintro _ w1 ⟨rfl, hT⟩
  replace sa := sa.up hT
  replace e1 := e1.up hT
  replace sb := sb.up hT
  replace e2 := e2.up hT
  replace hbv := hbv.up hT
  replace e3 := e3.up hT
  replace hS := hS.trans hT
  clear hT
  refine W ?_
  refine WL_eff (OE_call rfl (evs1 rfl) (OfL_any _ yB _ _ _ ⟨kb, rfl, sb⟩ (hF.up hS) oB1 oB2)) rfl ?_
  rintro _ w1 ⟨rfl, hT⟩
  replace sa := sa.up hT
  replace e1 := e1.up hT
  replace sb := sb.up hT
  replace e2 := e2.up hT
  replace hbv := hbv.up hT
  replace e3 := e3.up hT
  replace hS := hS.trans hT
  clear hT
  refine W ?_
  refine WL_eff (OE_call rfl (evs1 rfl) (fieldL_any [97, 109, 111, 117, 110, 116] _)) rfl ?_
  rintro rh1 w1 ⟨h1, hT⟩
  replace sa := sa.up hT
  replace e1 := e1.up hT
  replace sb := sb.up hT
  replace e2 := e2.up hT
  replace hbv := hbv.up hT
  replace e3 := e3.up hT
  replace hS := hS.trans hT
  clear hT
  replace h1 := h1 []
  refine W ?_
  refine WL_eff (OE_call rfl (evs1 rfl) (fieldL_any [100, 97, 121] _)) rfl ?_
  rintro rh2 w1 ⟨h2, hT⟩
  replace sa := sa.up hT
  replace e1 := e1.up hT
  replace sb := sb.up hT
  replace e2 := e2.up hT
  replace hbv := hbv.up hT
  replace e3 := e3.up hT
  replace h1 := h1.up hT
  replace hS := hS.trans hT
  clear hT
  replace h2 := h2 []
  refine W ?_
  refine WL_eff (OE_call rfl (evs4 rfl rfl rfl rfl) (twoL_any [] 6 [43] _ _ _ _ _ (by simp) h1 h2)) rfl ?_
  rintro rh3 w1 ⟨h3, hT⟩
  replace sa := sa.up hT
  replace e1 := e1.up hT
  replace sb := sb.up hT
  replace e2 := e2.up hT
  replace hbv := hbv.up hT
  replace e3 := e3.up hT
  replace hS := hS.trans hT
  clear hT
  clear h1 h2
  refine W ?_
  refine WL_eff (OE_call rfl (evs1 rfl) (OfL_any _ yD _ _ _ h3 (hF.up hS) oD1 oD2)) rfl ?_
  rintro _ w1 ⟨rfl, hT⟩
  replace sa := sa.up hT
  replace e1 := e1.up hT
  replace sb := sb.up hT
  replace e2 := e2.up hT
  replace hbv := hbv.up hT
  replace e3 := e3.up hT
  replace hS := hS.trans hT
  clear hT
  clear h3
  refine W ?_
  refine WL_eff (OE_call rfl (evs1 rfl) (OfL_any _ yC _ _ _ ⟨_, rfl, hbv⟩ (hF.up hS) oC1 oC2)) rfl ?_
  rintro _ w1 ⟨rfl, hT⟩
  replace sa := sa.up hT
  replace e1 := e1.up hT
  replace sb := sb.up hT
  replace e2 := e2.up hT
  replace hbv := hbv.up hT
  replace e3 := e3.up hT
  replace hS := hS.trans hT
  clear hT
  obtain ⟨p0, c0, rfl, -⟩ := id sb
  obtain ⟨p1, c1, rfl, -⟩ := id sa
  refine W ?_
  apply WL_build (vs := [(0, str [97, 110, 115, 119, 101, 114]), (2, str [109, 111, 116, 105, 111, 110]), (3, .agg (ndC yB (.slice p0 2 c0)).toArray), (4, .agg (ndC yA (.slice p1 2 c1)).toArray)]) rfl (buildRlL _ _ _ _ _ _ _ _ _ _ _ _ _ _) rfl
  refine W ?_
  refine WL_eff OE_alloc rfl ?_
  rintro _ w1 ⟨b12, rfl, hb, e0, hT⟩
  refine WL_eff0 (OE_storeA (us := rlC rlA (.slice p0 2 c0) (.slice p1 2 c1)) rfl rfl rfl rfl (rlC_one rlA sb sa) e0 rfl) ?_
  rintro _ w2 ⟨hT2, e12⟩
  replace hT := hT.own hT2 (fun b hb => .inr (by simp at hb; omega))
  clear hT2 e0 hb
  replace sa := sa.up hT
  replace e1 := e1.up hT
  replace sb := sb.up hT
  replace e2 := e2.up hT
  replace hbv := hbv.up hT
  replace e3 := e3.up hT
  replace hS := hS.trans hT
  clear hT
  refine W ?_
  refine WL_eff OE_alloc rfl ?_
  rintro _ w1 ⟨b13, rfl, hb, e0, hT⟩
  refine WL_eff0 (OE_storeA (us := rlC rlA (.slice p0 2 c0) (.slice p1 2 c1)) rfl rfl rfl rfl (rlC_one rlA sb sa) e0 rfl) ?_
  rintro _ w2 ⟨hT2, e13⟩
  have hbw : w.heap.size ≤ b13 := Nat.le_trans hS.size hb
  replace sa := (sa.ext (X' := [b13]) hT (by simp) (fun b h => by simp at h; subst h; exact .inr hb)).ext hT2 (by simp) (fun _ h => .inl h)
  have n1 : b1 ≠ b13 := by have := e1.lt; omega
  replace sb := (sb.ext (X' := [b13]) hT (by simp) (fun b h => by simp at h; subst h; exact .inr hb)).ext hT2 (by simp) (fun _ h => .inl h)
  have n2 : b2 ≠ b13 := by have := e2.lt; omega
  replace hbv := (hbv.ext (X' := [b13]) hT (by simp) (fun b h => by simp at h; subst h; exact .inr hb)).ext hT2 (by simp) (fun _ h => .inl h)
  have n3 : b3 ≠ b13 := by have := e3.lt; omega
  have n12 : b12 ≠ b13 := by have := e12.lt; omega
  replace hT := hT.own hT2 (fun b hb => .inr (by simp at hb; omega))
  replace e1 := e1.up hT
  replace e2 := e2.up hT
  replace e3 := e3.up hT
  replace e12 := e12.up hT
  replace hS := hS.trans hT
  clear hT hT2 e0 hb
  refine W ?_
  refine WL_eff (OE_call rfl (evs1 rfl) (numberL_any 3 _)) rfl ?_
  rintro _ w1 ⟨h1, hT⟩
  obtain ⟨k3, rfl, s3⟩ := h1 [b13]
  clear h1
  replace sa := sa.up hT
  replace e1 := e1.up hT
  replace sb := sb.up hT
  replace e2 := e2.up hT
  replace hbv := hbv.up hT
  replace e3 := e3.up hT
  replace e12 := e12.up hT
  replace e13 := e13.up hT
  replace hS := hS.trans hT
  clear hT
  refine W ?_
  refine WL_eff0 (OE_store (us := ndC (.mk 1 3 [] []) k3) rfl rfl rfl rfl (ndC_one (x := .mk 1 3 [] []) s3) e13 (by simp)) ?_
  rintro _ w2 ⟨hT, e13⟩
  replace e13 : Blk w2 b13 51 (rlC rlB (.slice p0 2 c0) k3) := e13
  replace sa := (sa.ext hT (by simp) (fun _ h => .inl h)).wk (X' := []) (by simp)
  replace e1 := e1.ext hT (by simp; exact n1)
  replace sb := (sb.ext hT (by simp) (fun _ h => .inl h)).wk (X' := []) (by simp)
  replace e2 := e2.ext hT (by simp; exact n2)
  replace hbv := (hbv.ext hT (by simp) (fun _ h => .inl h)).wk (X' := []) (by simp)
  replace e3 := e3.ext hT (by simp; exact n3)
  replace e12 := e12.ext hT (by simp; exact n12)
  replace s3 := (s3.ext hT (by simp) (fun _ h => .inl h)).wk (X' := []) (by simp)
  replace hS := hS.own hT (fun b hb => .inr (by simp at hb; omega))
  clear hT hbw
  refine W ?_
  refine WL_eff OE_alloc rfl ?_
  rintro _ w1 ⟨b14, rfl, hb, e0, hT⟩
  refine WL_eff0 (OE_storeA (us := rlC rlA (.slice p0 2 c0) (.slice p1 2 c1)) rfl rfl rfl rfl (rlC_one rlA sb sa) e0 rfl) ?_
  rintro _ w2 ⟨hT2, e14⟩
  have hbw : w.heap.size ≤ b14 := Nat.le_trans hS.size hb
  replace sa := (sa.ext (X' := [b14]) hT (by simp) (fun b h => by simp at h; subst h; exact .inr hb)).ext hT2 (by simp) (fun _ h => .inl h)
  have n1 : b1 ≠ b14 := by have := e1.lt; omega
  replace sb := (sb.ext (X' := [b14]) hT (by simp) (fun b h => by simp at h; subst h; exact .inr hb)).ext hT2 (by simp) (fun _ h => .inl h)
  have n2 : b2 ≠ b14 := by have := e2.lt; omega
  replace hbv := (hbv.ext (X' := [b14]) hT (by simp) (fun b h => by simp at h; subst h; exact .inr hb)).ext hT2 (by simp) (fun _ h => .inl h)
  have n3 : b3 ≠ b14 := by have := e3.lt; omega
  have n12 : b12 ≠ b14 := by have := e12.lt; omega
  have n13 : b13 ≠ b14 := by have := e13.lt; omega
  replace s3 := (s3.ext (X' := [b14]) hT (by simp) (fun b h => by simp at h; subst h; exact .inr hb)).ext hT2 (by simp) (fun _ h => .inl h)
  replace hT := hT.own hT2 (fun b hb => .inr (by simp at hb; omega))
  replace e1 := e1.up hT
  replace e2 := e2.up hT
  replace e3 := e3.up hT
  replace e12 := e12.up hT
  replace e13 := e13.up hT
  replace hS := hS.trans hT
  clear hT hT2 e0 hb
  refine W ?_
  refine WL_eff0 (OE_store1 (o := 0) (u := str [105, 102]) rfl rfl rfl rfl e14 (by simp)) ?_
  rintro _ w2 ⟨hT, e14⟩
  replace e14 : Blk w2 b14 51 (rlC rlD (.slice p0 2 c0) (.slice p1 2 c1)) := e14
  replace sa := (sa.ext hT (by simp) (fun _ h => .inl h)).wk (X' := []) (by simp)
  replace e1 := e1.ext hT (by simp; exact n1)
  replace sb := (sb.ext hT (by simp) (fun _ h => .inl h)).wk (X' := []) (by simp)
  replace e2 := e2.ext hT (by simp; exact n2)
  replace hbv := (hbv.ext hT (by simp) (fun _ h => .inl h)).wk (X' := []) (by simp)
  replace e3 := e3.ext hT (by simp; exact n3)
  replace e12 := e12.ext hT (by simp; exact n12)
  replace e13 := e13.ext hT (by simp; exact n13)
  replace s3 := (s3.ext hT (by simp) (fun _ h => .inl h)).wk (X' := []) (by simp)
  replace hS := hS.own hT (fun b hb => .inr (by simp at hb; omega))
  clear hT hbw
  refine W ?_
  refine WL_eff (OE_call rfl (evs1 rfl) (Field_any [115, 101, 114, 118, 101, 100] _ (hF.up hS))) rfl ?_
  rintro _ w1 ⟨rfl, hT⟩
  rw [fdS]
  replace sa := sa.up hT
  replace e1 := e1.up hT
  replace sb := sb.up hT
  replace e2 := e2.up hT
  replace hbv := hbv.up hT
  replace e3 := e3.up hT
  replace e12 := e12.up hT
  replace e13 := e13.up hT
  replace s3 := s3.up hT
  replace e14 := e14.up hT
  replace hS := hS.trans hT
  clear hT
  repeat' (first | refine W1 ?_ | (exfalso; omega) | refine WL_split rfl rfl (fun hg => ?_) (fun hg => ?_) | refine WL_splitB rfl rfl (fun hg => ?_) (fun hg => ?_) | refine WC_cond rfl (fun hc => ?_) (fun hc => ?_) | refine WC_condB rfl (fun hc => ?_) (fun hc => ?_))
  all_goals try (exfalso; first | (apply absurd rfl; assumption) | (simp at hc; done) | (simp at hg; done))
  repeat' (first | refine W1 ?_ | (exfalso; omega) | refine WL_split rfl rfl (fun hg => ?_) (fun hg => ?_) | refine WL_splitB rfl rfl (fun hg => ?_) (fun hg => ?_) | refine WC_cond rfl (fun hc => ?_) (fun hc => ?_) | refine WC_condB rfl (fun hc => ?_) (fun hc => ?_))
  all_goals try (exact absurd rfl (by assumption))
  refine WL_eff (OE_call rfl (evs1 rfl) (Uses_any yC _ _ kC ⟨_, rfl, hbv⟩ (hF.up hS))) rfl ?_
  rintro ru w1 ⟨hr, hT⟩
  rw [usC] at hr
  have hru := hr.slv0
  clear hr
  replace sa := sa.up hT
  replace e1 := e1.up hT
  replace sb := sb.up hT
  replace e2 := e2.up hT
  replace hbv := hbv.up hT
  replace e3 := e3.up hT
  replace e12 := e12.up hT
  replace e13 := e13.up hT
  replace s3 := s3.up hT
  replace e14 := e14.up hT
  replace hS := hS.trans hT
  clear hT
  refine W ?_
  refine WL_eff (OE_buildSlice (vs := [(0, .int .i64 0), (1, .int .i64 1), (2, .int .i64 2)]) rfl (buildSI3 _ _ _)) rfl ?_
  rintro rv w1 hN
  have hrv := hN.slv (X := []) (ys := [(0 : Int), 1, 2]) (by simp) rfl rfl (by simp [maxLen])
  have hT := NewSl.stp hN
  clear hN
  replace sa := sa.up hT
  replace e1 := e1.up hT
  replace sb := sb.up hT
  replace e2 := e2.up hT
  replace hbv := hbv.up hT
  replace e3 := e3.up hT
  replace e12 := e12.up hT
  replace e13 := e13.up hT
  replace s3 := s3.up hT
  replace e14 := e14.up hT
  replace hru := hru.up hT
  replace hS := hS.trans hT
  clear hT
  refine W ?_
  refine WL_eff (OE_call rfl (evs2 rfl rfl) (SameIntsL_any _ _ _ _ _ hru hrv)) rfl ?_
  rintro _ w1 ⟨rfl, hT⟩
  clear hru hrv
  replace sa := sa.up hT
  replace e1 := e1.up hT
  replace sb := sb.up hT
  replace e2 := e2.up hT
  replace hbv := hbv.up hT
  replace e3 := e3.up hT
  replace e12 := e12.up hT
  replace e13 := e13.up hT
  replace s3 := s3.up hT
  replace e14 := e14.up hT
  replace hS := hS.trans hT
  clear hT
  rw [decide_eq_true (rfl : [(0 : Int), 1, 2] = [0, 1, 2])]
  repeat' (first | refine W1 ?_ | (exfalso; omega) | refine WL_split rfl rfl (fun hg => ?_) (fun hg => ?_) | refine WL_splitB rfl rfl (fun hg => ?_) (fun hg => ?_) | refine WC_cond rfl (fun hc => ?_) (fun hc => ?_) | refine WC_condB rfl (fun hc => ?_) (fun hc => ?_))
  all_goals try (exact absurd rfl (by assumption))
  refine WL_eff (OE_call rfl (evs1 rfl) (CheckL_any _ rlA 0 m _ ⟨_, _, rfl, sb, sa⟩ (hF.up hS) (hS.cell (by simp) hm) ckA)) rfl ?_
  rintro _ w1 ⟨rfl, hT⟩
  replace sa := sa.up hT
  replace e1 := e1.up hT
  replace sb := sb.up hT
  replace e2 := e2.up hT
  replace hbv := hbv.up hT
  replace e3 := e3.up hT
  replace e12 := e12.up hT
  replace e13 := e13.up hT
  replace s3 := s3.up hT
  replace e14 := e14.up hT
  replace hS := hS.trans hT
  clear hT
  repeat' (first | refine W1 ?_ | (exfalso; omega) | refine WL_split rfl rfl (fun hg => ?_) (fun hg => ?_) | refine WL_splitB rfl rfl (fun hg => ?_) (fun hg => ?_) | refine WC_cond rfl (fun hc => ?_) (fun hc => ?_) | refine WC_condB rfl (fun hc => ?_) (fun hc => ?_))
  all_goals try (exact absurd rfl (by assumption))
  refine WL_eff (OE_call rfl (evs1 rfl) (CheckL_any _ rlB 21 m _ ⟨_, _, rfl, sb, s3⟩ (hF.up hS) (hS.cell (by simp) hm) ckB)) rfl ?_
  rintro _ w1 ⟨rfl, hT⟩
  replace sa := sa.up hT
  replace e1 := e1.up hT
  replace sb := sb.up hT
  replace e2 := e2.up hT
  replace hbv := hbv.up hT
  replace e3 := e3.up hT
  replace e12 := e12.up hT
  replace e13 := e13.up hT
  replace s3 := s3.up hT
  replace e14 := e14.up hT
  replace hS := hS.trans hT
  clear hT
  repeat' (first | refine W1 ?_ | (exfalso; omega) | refine WL_split rfl rfl (fun hg => ?_) (fun hg => ?_) | refine WL_splitB rfl rfl (fun hg => ?_) (fun hg => ?_) | refine WC_cond rfl (fun hc => ?_) (fun hc => ?_) | refine WC_condB rfl (fun hc => ?_) (fun hc => ?_))
  all_goals try (exact absurd rfl (by assumption))
  refine WL_eff (OE_call rfl (evs1 rfl) (CheckL_any _ rlD 7 m _ ⟨_, _, rfl, sb, sa⟩ (hF.up hS) (hS.cell (by simp) hm) ckD)) rfl ?_
  rintro _ w1 ⟨rfl, hT⟩
  replace sa := sa.up hT
  replace e1 := e1.up hT
  replace sb := sb.up hT
  replace e2 := e2.up hT
  replace hbv := hbv.up hT
  replace e3 := e3.up hT
  replace e12 := e12.up hT
  replace e13 := e13.up hT
  replace s3 := s3.up hT
  replace e14 := e14.up hT
  replace hS := hS.trans hT
  clear hT
  repeat' (first | refine W1 ?_ | (exfalso; omega) | refine WL_split rfl rfl (fun hg => ?_) (fun hg => ?_) | refine WL_splitB rfl rfl (fun hg => ?_) (fun hg => ?_) | refine WC_cond rfl (fun hc => ?_) (fun hc => ?_) | refine WC_condB rfl (fun hc => ?_) (fun hc => ?_))
  all_goals try (exact absurd rfl (by assumption))
  first | refine WQ_ret1 rfl rfl ?_ | refine WQ_ret2 rfl rfl rfl ?_ | refine WQ_ret3 rfl rfl rfl rfl ?_ | refine WQ_ret0 rfl ?_ | refine WQ_end0 rfl ?_
  exact .mk ⟨rfl, hS⟩
end Go.Proofs.YtgpibcgebpgmiaaDoor

namespace Go.Eng
open Go Go.RowKit
theorem Row.drop {α : Type} [GoRep α] {X : List Nat} {w : World} {base T : Nat} {v : Value} {xs : List α} (h : Row X w base T v xs) : SlV [] w v xs :=
  (h.ext (S := []) (X' := []) (Stp.refl [] w) (by simp) (by simp)).slv (by simp)
end Go.Eng
namespace Go.Proofs.YtgpibcgebpgmiaaDoor
open Go Go.Eng Go.RowKit
set_option linter.unusedVariables false
theorem buildN012 (k n : Int) (s : Str) (w : World) : (Instr.build 25 #[(0, .int .i64 k), (1, .int .i64 n), (2, str s)]).run Tryd.prog w = .ok (.agg #[.int .i64 k, .int .i64 n, str s, .slice none 0 0]) w := by kernel_rfl
end Go.Proofs.YtgpibcgebpgmiaaDoor

namespace Go.Proofs.YtgpibcgebpgmiaaDoor
open Go Go.Eng Go.RowKit
set_option linter.unusedVariables false
abbrev rlN (s : Str) : Rul := ⟨s, 0, s, .mk 2 0 [] [], .mk 3 0 [] [], [], []⟩
theorem ckN (s : Str) : decide (checkT (rlN s) = 0) = namedT s := by
  have m1 : mustF (.mk 2 0 [] []) 2 = 0 := by
    unfold mustF
    rw [show nestN (.mk 2 0 [] []) = 1 by simp only [nestN_eq, Nd.kids, List.map_nil]; rfl, show typeT (.mk 2 0 [] []) = 2 by simp only [typeT_eq, Nd.kids, Nd.kind, Nd.num, Nd.word, List.map_nil]; rfl]
    decide
  have m2 : mustF (.mk 3 0 [] []) 3 = 0 := by
    unfold mustF
    rw [show nestN (.mk 3 0 [] []) = 1 by simp only [nestN_eq, Nd.kids, List.map_nil]; rfl, show typeT (.mk 3 0 [] []) = 3 by simp only [typeT_eq, Nd.kids, Nd.kind, Nd.num, Nd.word, List.map_nil]; rfl]
    decide
  have hn : namesT (rlN s) = namedT s := by simp [namesT]
  unfold checkT
  rw [hn, m1, m2]
  cases namedT s <;> simp
theorem buildN0k (k : Int) (w : World) : (Instr.build 25 #[(0, .int .i64 k)]).run Tryd.prog w = .ok (.agg #[.int .i64 k, .int .i64 0, str [], .slice none 0 0]) w := by kernel_rfl
theorem CNamed_any (s : Str) (m : Int) (w : World) (hF : SlV [] w flds fieldNames) (hm : w.cell? ⟨1, 0, none⟩ = some (.int .i64 m)) :
    Calls Tryd.prog 67 #[str s] w (Ret fun r w' => r = .bool (namedT s) ∧ Stp [] w w') := by
  refine calls_of_WC1 (n := 12) Tryd.func67 rfl rfl rfl ?_
  refine W ?_
  apply WL_build (vs := [(0, .int .i64 2)]) rfl (buildN0k _) rfl
  apply WL_build (vs := [(0, .int .i64 3)]) rfl (buildN0k _) rfl
  apply WL_build (vs := [(0, str s), (2, str s), (3, .agg #[.int .i64 2, .int .i64 0, str [], .slice none 0 0]), (4, .agg #[.int .i64 3, .int .i64 0, str [], .slice none 0 0])]) rfl (buildRlL _ _ _ _ _ _ _ _ _ _ _ _ _ _) rfl
  refine WL_eff OE_alloc rfl ?_
  rintro _ w1 ⟨b, rfl, hb, e0, hT⟩
  refine WL_eff0 (OE_storeA (us := rlC (rlN s) nilS nilS) rfl rfl rfl rfl (rlC_one (rlN s) (nilSlv (α := Nd) [] w) (nilSlv (α := Nd) [] w)) e0 rfl) ?_
  rintro _ w2 ⟨hT2, e1⟩
  have hS := hT.own hT2 (fun b hb => .inr (by simp at hb; omega))
  clear hT hT2 e0
  refine W ?_
  refine WL_eff (OE_call rfl (evs1 rfl) (Check14_any _ (rlN s) m _ ⟨nilS, nilS, rfl, nilSlv _ _, nilSlv _ _⟩ (hF.up hS) (hS.cell (by simp) hm))) rfl ?_
  rintro _ w3 ⟨rfl, hT⟩
  replace hS := hS.trans hT
  refine W ?_
  first | refine WQ_ret1 rfl rfl ?_ | refine WQ_ret2 rfl rfl rfl ?_ | refine WQ_ret3 rfl rfl rfl rfl ?_ | refine WQ_ret0 rfl ?_ | refine WQ_end0 rfl ?_
  exact .mk ⟨by rw [← ckN s], hS⟩
/-- a compiled rule that is not valid -/
def badC (q : Cr) : Bool := decide ((verM q.cnd).2 ≠ 0) || decide ((verM q.due).2 ≠ 0) || decide ((verM q.cnd).1 ≠ 2) || decide ((verM q.due).1 ≠ 3) || decide (q.frm < 0) || decide (q.frm > 3652058) || !namedT q.name || !namedT q.on || (decide (q.unl ≠ []) && !namedT q.unl) || (decide (q.els ≠ []) && !namedT q.els)
def chkC (q : Cr) : Int := if badC q then 22 else 0
theorem CheckC_any (v : Value) (q : Cr) (w : World) (m : Int) (hF : SlV [] w flds fieldNames) (hm : w.cell? ⟨1, 0, none⟩ = some (.int .i64 m)) (hv : CrV [] w v q) :
    Calls Tryd.prog 24 #[v] w (Ret fun r w' => r = .int .i64 (chkC q) ∧ Stp [] w w') := by
  obtain ⟨kc, kd, rfl, hc1, hd1⟩ := hv
  refine calls_of_WC1 (n := 60) Tryd.func24 rfl rfl rfl ?_
  refine W ?_
  refine WL_eff (OE_box rfl) rfl ?_
  rintro _ w1 ⟨b, rfl, hb, e1, hS⟩
  replace e1 : Blk w1 b 42 (crC q kc kd) := e1
  replace hc1 := hc1.up hS
  replace hd1 := hd1.up hS
  clear hb
  refine W ?_
  refine WL_eff (OE_call rfl (evs1 rfl) (Verify_any _ q.cnd _ hc1)) rfl ?_
  rintro _ w2 ⟨rfl, hT⟩
  replace e1 := e1.up hT
  replace hc1 := hc1.up hT
  replace hd1 := hd1.up hT
  replace hS := hS.trans hT
  clear hT
  refine W ?_
  refine WL_eff (OE_call rfl (evs1 rfl) (Verify_any _ q.due _ hd1)) rfl ?_
  rintro _ w2 ⟨rfl, hT⟩
  replace e1 := e1.up hT
  replace hc1 := hc1.up hT
  replace hd1 := hd1.up hT
  replace hS := hS.trans hT
  clear hT
  refine W ?_
  refine WC_cutQ (σ := Bool) (fun u => [(1, .pointer (some ⟨b, 0, none⟩)), (2, .int .i64 0), (19, .bool u)]) (fun u w' => Blk w' b 42 (crC q kc kd) ∧ Stp [] w w' ∧ u = badC q) ?_ ?_
  · repeat' (first | refine W1 ?_ | (exfalso; omega) | refine WL_split rfl rfl (fun hg => ?_) (fun hg => ?_) | refine WL_splitB rfl rfl (fun hg => ?_) (fun hg => ?_) | refine WC_cond rfl (fun hc => ?_) (fun hc => ?_) | refine WC_condB rfl (fun hc => ?_) (fun hc => ?_))
    all_goals try (first | exact WQ_cut true ⟨rfl, rfl, rfl, trivial⟩ ⟨e1, hS, by simp [badC, *]⟩ | exact WQ_cut false ⟨rfl, rfl, rfl, trivial⟩ ⟨e1, hS, by simp [badC, *]⟩ | exact WQ_cut _ ⟨rfl, rfl, rfl, trivial⟩ ⟨e1, hS, by simp [badC, *]⟩)
    refine W ?_
    refine WL_eff (OE_call rfl (evs1 rfl) (CNamed_any q.name m _ (hF.up hS) (hS.cell (by simp) hm))) rfl ?_
    rintro _ w3 ⟨rfl, hT⟩
    replace e1 := e1.up hT
    replace hc1 := hc1.up hT
    replace hd1 := hd1.up hT
    replace hS := hS.trans hT
    clear hT
    cases hn_name : namedT q.name with
    | false =>
      repeat' (first | refine W1 ?_ | (exfalso; omega) | refine WL_split rfl rfl (fun hg => ?_) (fun hg => ?_) | refine WL_splitB rfl rfl (fun hg => ?_) (fun hg => ?_) | refine WC_cond rfl (fun hc => ?_) (fun hc => ?_) | refine WC_condB rfl (fun hc => ?_) (fun hc => ?_))
      all_goals (first | exact WQ_cut true ⟨rfl, rfl, rfl, trivial⟩ ⟨e1, hS, by simp [badC, *]⟩ | exact WQ_cut false ⟨rfl, rfl, rfl, trivial⟩ ⟨e1, hS, by simp [badC, *]⟩ | exact WQ_cut _ ⟨rfl, rfl, rfl, trivial⟩ ⟨e1, hS, by simp [badC, *]⟩)
    | true =>
      repeat' (first | refine W1 ?_ | (exfalso; omega) | refine WL_split rfl rfl (fun hg => ?_) (fun hg => ?_) | refine WL_splitB rfl rfl (fun hg => ?_) (fun hg => ?_) | refine WC_cond rfl (fun hc => ?_) (fun hc => ?_) | refine WC_condB rfl (fun hc => ?_) (fun hc => ?_))
      refine W ?_
      refine WL_eff (OE_call rfl (evs1 rfl) (CNamed_any q.on m _ (hF.up hS) (hS.cell (by simp) hm))) rfl ?_
      rintro _ w3 ⟨rfl, hT⟩
      replace e1 := e1.up hT
      replace hc1 := hc1.up hT
      replace hd1 := hd1.up hT
      replace hS := hS.trans hT
      clear hT
      cases hn_on : namedT q.on with
      | false =>
        repeat' (first | refine W1 ?_ | (exfalso; omega) | refine WL_split rfl rfl (fun hg => ?_) (fun hg => ?_) | refine WL_splitB rfl rfl (fun hg => ?_) (fun hg => ?_) | refine WC_cond rfl (fun hc => ?_) (fun hc => ?_) | refine WC_condB rfl (fun hc => ?_) (fun hc => ?_))
        all_goals (first | exact WQ_cut true ⟨rfl, rfl, rfl, trivial⟩ ⟨e1, hS, by simp [badC, *]⟩ | exact WQ_cut false ⟨rfl, rfl, rfl, trivial⟩ ⟨e1, hS, by simp [badC, *]⟩ | exact WQ_cut _ ⟨rfl, rfl, rfl, trivial⟩ ⟨e1, hS, by simp [badC, *]⟩)
      | true =>
        repeat' (first | refine W1 ?_ | (exfalso; omega) | refine WL_split rfl rfl (fun hg => ?_) (fun hg => ?_) | refine WL_splitB rfl rfl (fun hg => ?_) (fun hg => ?_) | refine WC_cond rfl (fun hc => ?_) (fun hc => ?_) | refine WC_condB rfl (fun hc => ?_) (fun hc => ?_))
        · refine W ?_
          refine WL_eff (OE_call rfl (evs1 rfl) (CNamed_any q.unl m _ (hF.up hS) (hS.cell (by simp) hm))) rfl ?_
          rintro _ w3 ⟨rfl, hT⟩
          replace e1 := e1.up hT
          replace hc1 := hc1.up hT
          replace hd1 := hd1.up hT
          replace hS := hS.trans hT
          clear hT
          cases hn_unl : namedT q.unl with
          | false =>
            repeat' (first | refine W1 ?_ | (exfalso; omega) | refine WL_split rfl rfl (fun hg => ?_) (fun hg => ?_) | refine WL_splitB rfl rfl (fun hg => ?_) (fun hg => ?_) | refine WC_cond rfl (fun hc => ?_) (fun hc => ?_) | refine WC_condB rfl (fun hc => ?_) (fun hc => ?_))
            all_goals (first | exact WQ_cut true ⟨rfl, rfl, rfl, trivial⟩ ⟨e1, hS, by simp [badC, *]⟩ | exact WQ_cut false ⟨rfl, rfl, rfl, trivial⟩ ⟨e1, hS, by simp [badC, *]⟩ | exact WQ_cut _ ⟨rfl, rfl, rfl, trivial⟩ ⟨e1, hS, by simp [badC, *]⟩)
          | true =>
            repeat' (first | refine W1 ?_ | (exfalso; omega) | refine WL_split rfl rfl (fun hg => ?_) (fun hg => ?_) | refine WL_splitB rfl rfl (fun hg => ?_) (fun hg => ?_) | refine WC_cond rfl (fun hc => ?_) (fun hc => ?_) | refine WC_condB rfl (fun hc => ?_) (fun hc => ?_))
            · refine W ?_
              refine WL_eff (OE_call rfl (evs1 rfl) (CNamed_any q.els m _ (hF.up hS) (hS.cell (by simp) hm))) rfl ?_
              rintro _ w3 ⟨rfl, hT⟩
              replace e1 := e1.up hT
              replace hc1 := hc1.up hT
              replace hd1 := hd1.up hT
              replace hS := hS.trans hT
              clear hT
              cases hn_els : namedT q.els with
              | false =>
                repeat' (first | refine W1 ?_ | (exfalso; omega) | refine WL_split rfl rfl (fun hg => ?_) (fun hg => ?_) | refine WL_splitB rfl rfl (fun hg => ?_) (fun hg => ?_) | refine WC_cond rfl (fun hc => ?_) (fun hc => ?_) | refine WC_condB rfl (fun hc => ?_) (fun hc => ?_))
                all_goals (first | exact WQ_cut true ⟨rfl, rfl, rfl, trivial⟩ ⟨e1, hS, by simp [badC, *]⟩ | exact WQ_cut false ⟨rfl, rfl, rfl, trivial⟩ ⟨e1, hS, by simp [badC, *]⟩ | exact WQ_cut _ ⟨rfl, rfl, rfl, trivial⟩ ⟨e1, hS, by simp [badC, *]⟩)
              | true =>
                repeat' (first | refine W1 ?_ | (exfalso; omega) | refine WL_split rfl rfl (fun hg => ?_) (fun hg => ?_) | refine WL_splitB rfl rfl (fun hg => ?_) (fun hg => ?_) | refine WC_cond rfl (fun hc => ?_) (fun hc => ?_) | refine WC_condB rfl (fun hc => ?_) (fun hc => ?_))
                all_goals (first | exact WQ_cut true ⟨rfl, rfl, rfl, trivial⟩ ⟨e1, hS, by simp [badC, *]⟩ | exact WQ_cut false ⟨rfl, rfl, rfl, trivial⟩ ⟨e1, hS, by simp [badC, *]⟩ | exact WQ_cut _ ⟨rfl, rfl, rfl, trivial⟩ ⟨e1, hS, by simp [badC, *]⟩)
            all_goals (first | exact WQ_cut true ⟨rfl, rfl, rfl, trivial⟩ ⟨e1, hS, by simp [badC, *]⟩ | exact WQ_cut false ⟨rfl, rfl, rfl, trivial⟩ ⟨e1, hS, by simp [badC, *]⟩ | exact WQ_cut _ ⟨rfl, rfl, rfl, trivial⟩ ⟨e1, hS, by simp [badC, *]⟩)
        · refine W ?_
          refine WL_eff (OE_call rfl (evs1 rfl) (CNamed_any q.els m _ (hF.up hS) (hS.cell (by simp) hm))) rfl ?_
          rintro _ w3 ⟨rfl, hT⟩
          replace e1 := e1.up hT
          replace hc1 := hc1.up hT
          replace hd1 := hd1.up hT
          replace hS := hS.trans hT
          clear hT
          cases hn_els : namedT q.els with
          | false =>
            repeat' (first | refine W1 ?_ | (exfalso; omega) | refine WL_split rfl rfl (fun hg => ?_) (fun hg => ?_) | refine WL_splitB rfl rfl (fun hg => ?_) (fun hg => ?_) | refine WC_cond rfl (fun hc => ?_) (fun hc => ?_) | refine WC_condB rfl (fun hc => ?_) (fun hc => ?_))
            all_goals (first | exact WQ_cut true ⟨rfl, rfl, rfl, trivial⟩ ⟨e1, hS, by simp [badC, *]⟩ | exact WQ_cut false ⟨rfl, rfl, rfl, trivial⟩ ⟨e1, hS, by simp [badC, *]⟩ | exact WQ_cut _ ⟨rfl, rfl, rfl, trivial⟩ ⟨e1, hS, by simp [badC, *]⟩)
          | true =>
            repeat' (first | refine W1 ?_ | (exfalso; omega) | refine WL_split rfl rfl (fun hg => ?_) (fun hg => ?_) | refine WL_splitB rfl rfl (fun hg => ?_) (fun hg => ?_) | refine WC_cond rfl (fun hc => ?_) (fun hc => ?_) | refine WC_condB rfl (fun hc => ?_) (fun hc => ?_))
            all_goals (first | exact WQ_cut true ⟨rfl, rfl, rfl, trivial⟩ ⟨e1, hS, by simp [badC, *]⟩ | exact WQ_cut false ⟨rfl, rfl, rfl, trivial⟩ ⟨e1, hS, by simp [badC, *]⟩ | exact WQ_cut _ ⟨rfl, rfl, rfl, trivial⟩ ⟨e1, hS, by simp [badC, *]⟩)
        all_goals (first | exact WQ_cut true ⟨rfl, rfl, rfl, trivial⟩ ⟨e1, hS, by simp [badC, *]⟩ | exact WQ_cut false ⟨rfl, rfl, rfl, trivial⟩ ⟨e1, hS, by simp [badC, *]⟩ | exact WQ_cut _ ⟨rfl, rfl, rfl, trivial⟩ ⟨e1, hS, by simp [badC, *]⟩)
  rintro u w4 ⟨e1, hS, hu⟩
  try dsimp only at hu ⊢
  unfold chkC
  rw [← hu]
  cases u with
  | true =>
    repeat' (first | refine W1 ?_ | (exfalso; omega) | refine WL_split rfl rfl (fun hg => ?_) (fun hg => ?_) | refine WL_splitB rfl rfl (fun hg => ?_) (fun hg => ?_) | refine WC_cond rfl (fun hc => ?_) (fun hc => ?_) | refine WC_condB rfl (fun hc => ?_) (fun hc => ?_))
    first | refine WQ_ret1 rfl rfl ?_ | refine WQ_ret2 rfl rfl rfl ?_ | refine WQ_ret3 rfl rfl rfl rfl ?_ | refine WQ_ret0 rfl ?_ | refine WQ_end0 rfl ?_
    exact .mk ⟨rfl, hS⟩
  | false =>
    repeat' (first | refine W1 ?_ | (exfalso; omega) | refine WL_split rfl rfl (fun hg => ?_) (fun hg => ?_) | refine WL_splitB rfl rfl (fun hg => ?_) (fun hg => ?_) | refine WC_cond rfl (fun hc => ?_) (fun hc => ?_) | refine WC_condB rfl (fun hc => ?_) (fun hc => ?_))
    first | refine WQ_ret1 rfl rfl ?_ | refine WQ_ret2 rfl rfl rfl ?_ | refine WQ_ret3 rfl rfl rfl rfl ?_ | refine WQ_ret0 rfl ?_ | refine WQ_end0 rfl ?_
    exact .mk ⟨rfl, hS⟩
def okC (q : Cr) : Bool := namedT q.name && namedT q.on && (decide (q.unl = []) || namedT q.unl) && (decide (q.els = []) || namedT q.els)
theorem badC_eq (q : Cr) : badC q = (!okC q || decide (q.frm < 0) || decide (q.frm > 3652058) || decide ((verM q.cnd).2 ≠ 0) || decide ((verM q.due).2 ≠ 0) || decide ((verM q.cnd).1 ≠ 2) || decide ((verM q.due).1 ≠ 3)) := by
  unfold badC okC
  generalize decide ((verM q.cnd).2 ≠ 0) = a1
  generalize decide ((verM q.due).2 ≠ 0) = a2
  generalize decide ((verM q.cnd).1 ≠ 2) = a3
  generalize decide ((verM q.due).1 ≠ 3) = a4
  generalize decide (q.frm < 0) = a5
  generalize decide (q.frm > 3652058) = a6
  generalize namedT q.name = a7
  generalize namedT q.on = a8
  generalize namedT q.unl = a9
  generalize namedT q.els = b1
  have h1 : decide (q.unl ≠ []) = !decide (q.unl = []) := by simp
  have h2 : decide (q.els ≠ []) = !decide (q.els = []) := by simp
  rw [h1, h2]
  generalize decide (q.unl = []) = b2
  generalize decide (q.els = []) = b3
  simp only [Bool.not_and, Bool.not_or]
  ac_rfl
theorem CheckCR_any (v : Value) (q : Cr) (w : World) (hv : CrV [] w v q) :
    Calls Tryd.prog 53 #[v] w (Ret fun r w' => r = .int .i64 (chkC q) ∧ Stp [] w w') := by
  obtain ⟨kc, kd, rfl, hc1, hd1⟩ := hv
  refine calls_of_WC1 (n := 76) Tryd.func53 rfl rfl rfl ?_
  refine W ?_
  refine WL_eff (OE_box rfl) rfl ?_
  rintro _ w1 ⟨b, rfl, hb, e1, hS⟩
  replace e1 : Blk w1 b 42 (crC q kc kd) := e1
  replace hc1 := hc1.up hS
  replace hd1 := hd1.up hS
  clear hb
  refine W ?_
  refine WL_eff (OE_call rfl (evs1 rfl) (VerifyR_any _ q.cnd _ hc1)) rfl ?_
  rintro _ w2 ⟨rfl, hT⟩
  replace e1 := e1.up hT
  replace hc1 := hc1.up hT
  replace hd1 := hd1.up hT
  replace hS := hS.trans hT
  clear hT
  refine W ?_
  refine WL_eff (OE_call rfl (evs1 rfl) (VerifyR_any _ q.due _ hd1)) rfl ?_
  rintro _ w2 ⟨rfl, hT⟩
  replace e1 := e1.up hT
  replace hc1 := hc1.up hT
  replace hd1 := hd1.up hT
  replace hS := hS.trans hT
  clear hT
  refine W ?_
  refine WL_cutQ (σ := Bool) (fun u => [(1, .pointer (some ⟨b, 0, none⟩)), (2, .int .i64 0), (3, .int .i64 (verM q.cnd).1), (4, .int .i64 (verM q.cnd).2), (5, .int .i64 (verM q.due).1), (6, .int .i64 (verM q.due).2), (7, .bool u)]) (fun u w' => Blk w' b 42 (crC q kc kd) ∧ Stp [] w w' ∧ u = okC q) ?_ ?_
  · refine W ?_
    refine WL_eff (OE_call rfl (evs1 rfl) (Named14_any q.name _)) rfl ?_
    rintro _ w3 ⟨rfl, hT⟩
    replace e1 := e1.up hT
    replace hc1 := hc1.up hT
    replace hd1 := hd1.up hT
    replace hS := hS.trans hT
    clear hT
    cases hn_name : namedT q.name with
    | false =>
      repeat' (first | refine W1 ?_ | (exfalso; omega) | refine WL_split rfl rfl (fun hg => ?_) (fun hg => ?_) | refine WL_splitB rfl rfl (fun hg => ?_) (fun hg => ?_) | refine WC_cond rfl (fun hc => ?_) (fun hc => ?_) | refine WC_condB rfl (fun hc => ?_) (fun hc => ?_))
      all_goals (first | exact WQ_cut true ⟨rfl, rfl, rfl, rfl, rfl, rfl, rfl, trivial⟩ ⟨e1, hS, by simp [okC, *]⟩ | exact WQ_cut false ⟨rfl, rfl, rfl, rfl, rfl, rfl, rfl, trivial⟩ ⟨e1, hS, by simp [okC, *]⟩ | exact WQ_cut _ ⟨rfl, rfl, rfl, rfl, rfl, rfl, rfl, trivial⟩ ⟨e1, hS, by simp [okC, *]⟩)
    | true =>
      refine W ?_
      refine WL_eff (OE_call rfl (evs1 rfl) (Named14_any q.on _)) rfl ?_
      rintro _ w3 ⟨rfl, hT⟩
      replace e1 := e1.up hT
      replace hc1 := hc1.up hT
      replace hd1 := hd1.up hT
      replace hS := hS.trans hT
      clear hT
      cases hn_on : namedT q.on with
      | false =>
        repeat' (first | refine W1 ?_ | (exfalso; omega) | refine WL_split rfl rfl (fun hg => ?_) (fun hg => ?_) | refine WL_splitB rfl rfl (fun hg => ?_) (fun hg => ?_) | refine WC_cond rfl (fun hc => ?_) (fun hc => ?_) | refine WC_condB rfl (fun hc => ?_) (fun hc => ?_))
        all_goals (first | exact WQ_cut true ⟨rfl, rfl, rfl, rfl, rfl, rfl, rfl, trivial⟩ ⟨e1, hS, by simp [okC, *]⟩ | exact WQ_cut false ⟨rfl, rfl, rfl, rfl, rfl, rfl, rfl, trivial⟩ ⟨e1, hS, by simp [okC, *]⟩ | exact WQ_cut _ ⟨rfl, rfl, rfl, rfl, rfl, rfl, rfl, trivial⟩ ⟨e1, hS, by simp [okC, *]⟩)
      | true =>
        by_cases hu : q.unl = []
        · repeat' (first | refine W1 ?_ | (exfalso; omega) | refine WL_split rfl rfl (fun hg => ?_) (fun hg => ?_) | refine WL_splitB rfl rfl (fun hg => ?_) (fun hg => ?_) | refine WC_cond rfl (fun hc => ?_) (fun hc => ?_) | refine WC_condB rfl (fun hc => ?_) (fun hc => ?_))
          all_goals try contradiction
          all_goals try (first | exact WQ_cut true ⟨rfl, rfl, rfl, rfl, rfl, rfl, rfl, trivial⟩ ⟨e1, hS, by simp [okC, *]⟩ | exact WQ_cut false ⟨rfl, rfl, rfl, rfl, rfl, rfl, rfl, trivial⟩ ⟨e1, hS, by simp [okC, *]⟩ | exact WQ_cut _ ⟨rfl, rfl, rfl, rfl, rfl, rfl, rfl, trivial⟩ ⟨e1, hS, by simp [okC, *]⟩)
          by_cases he : q.els = []
          · repeat' (first | refine W1 ?_ | (exfalso; omega) | refine WL_split rfl rfl (fun hg => ?_) (fun hg => ?_) | refine WL_splitB rfl rfl (fun hg => ?_) (fun hg => ?_) | refine WC_cond rfl (fun hc => ?_) (fun hc => ?_) | refine WC_condB rfl (fun hc => ?_) (fun hc => ?_))
            all_goals try contradiction
            all_goals (first | exact WQ_cut true ⟨rfl, rfl, rfl, rfl, rfl, rfl, rfl, trivial⟩ ⟨e1, hS, by simp [okC, *]⟩ | exact WQ_cut false ⟨rfl, rfl, rfl, rfl, rfl, rfl, rfl, trivial⟩ ⟨e1, hS, by simp [okC, *]⟩ | exact WQ_cut _ ⟨rfl, rfl, rfl, rfl, rfl, rfl, rfl, trivial⟩ ⟨e1, hS, by simp [okC, *]⟩)
          repeat' (first | refine W1 ?_ | (exfalso; omega) | refine WL_split rfl rfl (fun hg => ?_) (fun hg => ?_) | refine WL_splitB rfl rfl (fun hg => ?_) (fun hg => ?_) | refine WC_cond rfl (fun hc => ?_) (fun hc => ?_) | refine WC_condB rfl (fun hc => ?_) (fun hc => ?_))
          all_goals try contradiction
          all_goals try (first | exact WQ_cut true ⟨rfl, rfl, rfl, rfl, rfl, rfl, rfl, trivial⟩ ⟨e1, hS, by simp [okC, *]⟩ | exact WQ_cut false ⟨rfl, rfl, rfl, rfl, rfl, rfl, rfl, trivial⟩ ⟨e1, hS, by simp [okC, *]⟩ | exact WQ_cut _ ⟨rfl, rfl, rfl, rfl, rfl, rfl, rfl, trivial⟩ ⟨e1, hS, by simp [okC, *]⟩)
          refine W ?_
          refine WL_eff (OE_call rfl (evs1 rfl) (Named14_any q.els _)) rfl ?_
          rintro _ w3 ⟨rfl, hT⟩
          replace e1 := e1.up hT
          replace hc1 := hc1.up hT
          replace hd1 := hd1.up hT
          replace hS := hS.trans hT
          clear hT
          cases hn_els : namedT q.els with
          | false =>
            repeat' (first | refine W1 ?_ | (exfalso; omega) | refine WL_split rfl rfl (fun hg => ?_) (fun hg => ?_) | refine WL_splitB rfl rfl (fun hg => ?_) (fun hg => ?_) | refine WC_cond rfl (fun hc => ?_) (fun hc => ?_) | refine WC_condB rfl (fun hc => ?_) (fun hc => ?_))
            all_goals (first | exact WQ_cut true ⟨rfl, rfl, rfl, rfl, rfl, rfl, rfl, trivial⟩ ⟨e1, hS, by simp [okC, *]⟩ | exact WQ_cut false ⟨rfl, rfl, rfl, rfl, rfl, rfl, rfl, trivial⟩ ⟨e1, hS, by simp [okC, *]⟩ | exact WQ_cut _ ⟨rfl, rfl, rfl, rfl, rfl, rfl, rfl, trivial⟩ ⟨e1, hS, by simp [okC, *]⟩)
          | true =>
            repeat' (first | refine W1 ?_ | (exfalso; omega) | refine WL_split rfl rfl (fun hg => ?_) (fun hg => ?_) | refine WL_splitB rfl rfl (fun hg => ?_) (fun hg => ?_) | refine WC_cond rfl (fun hc => ?_) (fun hc => ?_) | refine WC_condB rfl (fun hc => ?_) (fun hc => ?_))
            all_goals (first | exact WQ_cut true ⟨rfl, rfl, rfl, rfl, rfl, rfl, rfl, trivial⟩ ⟨e1, hS, by simp [okC, *]⟩ | exact WQ_cut false ⟨rfl, rfl, rfl, rfl, rfl, rfl, rfl, trivial⟩ ⟨e1, hS, by simp [okC, *]⟩ | exact WQ_cut _ ⟨rfl, rfl, rfl, rfl, rfl, rfl, rfl, trivial⟩ ⟨e1, hS, by simp [okC, *]⟩)
        repeat' (first | refine W1 ?_ | (exfalso; omega) | refine WL_split rfl rfl (fun hg => ?_) (fun hg => ?_) | refine WL_splitB rfl rfl (fun hg => ?_) (fun hg => ?_) | refine WC_cond rfl (fun hc => ?_) (fun hc => ?_) | refine WC_condB rfl (fun hc => ?_) (fun hc => ?_))
        all_goals try contradiction
        all_goals try (first | exact WQ_cut true ⟨rfl, rfl, rfl, rfl, rfl, rfl, rfl, trivial⟩ ⟨e1, hS, by simp [okC, *]⟩ | exact WQ_cut false ⟨rfl, rfl, rfl, rfl, rfl, rfl, rfl, trivial⟩ ⟨e1, hS, by simp [okC, *]⟩ | exact WQ_cut _ ⟨rfl, rfl, rfl, rfl, rfl, rfl, rfl, trivial⟩ ⟨e1, hS, by simp [okC, *]⟩)
        refine W ?_
        refine WL_eff (OE_call rfl (evs1 rfl) (Named14_any q.unl _)) rfl ?_
        rintro _ w3 ⟨rfl, hT⟩
        replace e1 := e1.up hT
        replace hc1 := hc1.up hT
        replace hd1 := hd1.up hT
        replace hS := hS.trans hT
        clear hT
        cases hn_unl : namedT q.unl with
        | false =>
          repeat' (first | refine W1 ?_ | (exfalso; omega) | refine WL_split rfl rfl (fun hg => ?_) (fun hg => ?_) | refine WL_splitB rfl rfl (fun hg => ?_) (fun hg => ?_) | refine WC_cond rfl (fun hc => ?_) (fun hc => ?_) | refine WC_condB rfl (fun hc => ?_) (fun hc => ?_))
          all_goals (first | exact WQ_cut true ⟨rfl, rfl, rfl, rfl, rfl, rfl, rfl, trivial⟩ ⟨e1, hS, by simp [okC, *]⟩ | exact WQ_cut false ⟨rfl, rfl, rfl, rfl, rfl, rfl, rfl, trivial⟩ ⟨e1, hS, by simp [okC, *]⟩ | exact WQ_cut _ ⟨rfl, rfl, rfl, rfl, rfl, rfl, rfl, trivial⟩ ⟨e1, hS, by simp [okC, *]⟩)
        | true =>
          by_cases he : q.els = []
          · repeat' (first | refine W1 ?_ | (exfalso; omega) | refine WL_split rfl rfl (fun hg => ?_) (fun hg => ?_) | refine WL_splitB rfl rfl (fun hg => ?_) (fun hg => ?_) | refine WC_cond rfl (fun hc => ?_) (fun hc => ?_) | refine WC_condB rfl (fun hc => ?_) (fun hc => ?_))
            all_goals try contradiction
            all_goals (first | exact WQ_cut true ⟨rfl, rfl, rfl, rfl, rfl, rfl, rfl, trivial⟩ ⟨e1, hS, by simp [okC, *]⟩ | exact WQ_cut false ⟨rfl, rfl, rfl, rfl, rfl, rfl, rfl, trivial⟩ ⟨e1, hS, by simp [okC, *]⟩ | exact WQ_cut _ ⟨rfl, rfl, rfl, rfl, rfl, rfl, rfl, trivial⟩ ⟨e1, hS, by simp [okC, *]⟩)
          repeat' (first | refine W1 ?_ | (exfalso; omega) | refine WL_split rfl rfl (fun hg => ?_) (fun hg => ?_) | refine WL_splitB rfl rfl (fun hg => ?_) (fun hg => ?_) | refine WC_cond rfl (fun hc => ?_) (fun hc => ?_) | refine WC_condB rfl (fun hc => ?_) (fun hc => ?_))
          all_goals try contradiction
          all_goals try (first | exact WQ_cut true ⟨rfl, rfl, rfl, rfl, rfl, rfl, rfl, trivial⟩ ⟨e1, hS, by simp [okC, *]⟩ | exact WQ_cut false ⟨rfl, rfl, rfl, rfl, rfl, rfl, rfl, trivial⟩ ⟨e1, hS, by simp [okC, *]⟩ | exact WQ_cut _ ⟨rfl, rfl, rfl, rfl, rfl, rfl, rfl, trivial⟩ ⟨e1, hS, by simp [okC, *]⟩)
          refine W ?_
          refine WL_eff (OE_call rfl (evs1 rfl) (Named14_any q.els _)) rfl ?_
          rintro _ w3 ⟨rfl, hT⟩
          replace e1 := e1.up hT
          replace hc1 := hc1.up hT
          replace hd1 := hd1.up hT
          replace hS := hS.trans hT
          clear hT
          cases hn_els : namedT q.els with
          | false =>
            repeat' (first | refine W1 ?_ | (exfalso; omega) | refine WL_split rfl rfl (fun hg => ?_) (fun hg => ?_) | refine WL_splitB rfl rfl (fun hg => ?_) (fun hg => ?_) | refine WC_cond rfl (fun hc => ?_) (fun hc => ?_) | refine WC_condB rfl (fun hc => ?_) (fun hc => ?_))
            all_goals (first | exact WQ_cut true ⟨rfl, rfl, rfl, rfl, rfl, rfl, rfl, trivial⟩ ⟨e1, hS, by simp [okC, *]⟩ | exact WQ_cut false ⟨rfl, rfl, rfl, rfl, rfl, rfl, rfl, trivial⟩ ⟨e1, hS, by simp [okC, *]⟩ | exact WQ_cut _ ⟨rfl, rfl, rfl, rfl, rfl, rfl, rfl, trivial⟩ ⟨e1, hS, by simp [okC, *]⟩)
          | true =>
            repeat' (first | refine W1 ?_ | (exfalso; omega) | refine WL_split rfl rfl (fun hg => ?_) (fun hg => ?_) | refine WL_splitB rfl rfl (fun hg => ?_) (fun hg => ?_) | refine WC_cond rfl (fun hc => ?_) (fun hc => ?_) | refine WC_condB rfl (fun hc => ?_) (fun hc => ?_))
            all_goals (first | exact WQ_cut true ⟨rfl, rfl, rfl, rfl, rfl, rfl, rfl, trivial⟩ ⟨e1, hS, by simp [okC, *]⟩ | exact WQ_cut false ⟨rfl, rfl, rfl, rfl, rfl, rfl, rfl, trivial⟩ ⟨e1, hS, by simp [okC, *]⟩ | exact WQ_cut _ ⟨rfl, rfl, rfl, rfl, rfl, rfl, rfl, trivial⟩ ⟨e1, hS, by simp [okC, *]⟩)
  rintro u w4 ⟨e1, hS, hu⟩
  try dsimp only at hu ⊢
  have hb := badC_eq q
  rw [← hu] at hb
  unfold chkC
  rw [hb]
  clear hu hb
  cases u with
  | false =>
    repeat' (first | refine W1 ?_ | (exfalso; omega) | refine WL_split rfl rfl (fun hg => ?_) (fun hg => ?_) | refine WL_splitB rfl rfl (fun hg => ?_) (fun hg => ?_) | refine WC_cond rfl (fun hc => ?_) (fun hc => ?_) | refine WC_condB rfl (fun hc => ?_) (fun hc => ?_))
    first | refine WQ_ret1 rfl rfl ?_ | refine WQ_ret2 rfl rfl rfl ?_ | refine WQ_ret3 rfl rfl rfl rfl ?_ | refine WQ_ret0 rfl ?_ | refine WQ_end0 rfl ?_
    exact .mk ⟨by simp, hS⟩
  | true =>
    repeat' (first | refine W1 ?_ | (exfalso; omega) | refine WL_split rfl rfl (fun hg => ?_) (fun hg => ?_) | refine WL_splitB rfl rfl (fun hg => ?_) (fun hg => ?_) | refine WC_cond rfl (fun hc => ?_) (fun hc => ?_) | refine WC_condB rfl (fun hc => ?_) (fun hc => ?_))
    all_goals
      first | refine WQ_ret1 rfl rfl ?_ | refine WQ_ret2 rfl rfl rfl ?_ | refine WQ_ret3 rfl rfl rfl rfl ?_ | refine WQ_ret0 rfl ?_ | refine WQ_end0 rfl ?_
      exact .mk ⟨by simp [*], hS⟩
end Go.Proofs.YtgpibcgebpgmiaaDoor

namespace Go.Proofs.YtgpibcgebpgmiaaDoor
open Go Go.Eng Go.RowKit
set_option linter.unusedVariables false
/-- a code as numbers -/
def flatF (l : List Ins) : List Int := l.flatMap fun x => [x.op, x.n]
theorem flatF_len (l : List Ins) : (flatF l).length = 2 * l.length := by
  unfold flatF
  induction l with
  | nil => rfl
  | cons a l ih => simp only [List.flatMap_cons, List.length_append, List.length_cons, List.length_nil, ih]; omega
theorem flatF_succ (l : List Ins) (j : Nat) (h : j < l.length) : flatF (l.take (j + 1)) = flatF (l.take j) ++ [l[j].op, l[j].n] := by
  unfold flatF
  rw [List.take_succ_eq_append_getElem h, List.flatMap_append]
  simp
theorem Flat_any (v : Value) (l : List Ins) (w : World) (hlen : l.length ≤ 100000) (hs : SlV [] w v l) :
    Calls Tryd.prog 58 #[v] w (Ret fun r w' => Row [] w' w.heap.size 3 r (flatF l) ∧ Stp [] w w') := by
  have hmax := hs.max
  refine calls_of_WC1 (n := 21) Tryd.func58 rfl rfl rfl ?_
  refine W ?_
  have hs0 := hs
  refine WC_loop (σ := Nat × Value) (fun q => [(3, q.2), (6, v), (7, .int .i64 (l.length : Int)), (8, .int .i64 (q.1 : Int))]) (fun q w' => q.1 ≤ l.length ∧ Row [] w' w.heap.size 3 q.2 (flatF (l.take q.1)) ∧ Stp [] w w') (fun q => l.length - q.1) (0, .slice none 0 0) ⟨rfl, rfl, rfl, rfl, trivial⟩ ⟨Nat.zero_le _, Row.nil, Stp.refl _ _⟩ ?_
  clear hs
  rintro ⟨j, u⟩ w2 ⟨hj, hrow, hS⟩
  dsimp only at hj hrow ⊢
  have hs := hs0.up hS
  by_cases hlt : j < l.length
  · repeat' (first | refine W1 ?_ | (exfalso; omega) | refine WL_split rfl rfl (fun hg => ?_) (fun hg => ?_) | refine WL_splitB rfl rfl (fun hg => ?_) (fun hg => ?_) | refine WC_cond rfl (fun hc => ?_) (fun hc => ?_) | refine WC_condB rfl (fun hc => ?_) (fun hc => ?_))
    refine WL_eff OE_alloc rfl ?_
    rintro _ w3 ⟨b5, rfl, hb5, e0, hT⟩
    refine WL_eff0 (OE_storeA (us := Flat.enc l[j]) rfl rfl rfl rfl (Flat.one _) e0 rfl) ?_
    rintro _ w4 ⟨hT2, e5⟩
    replace hT := hT.own hT2 (fun b hb => .inr (by simp at hb; omega))
    clear hT2 e0 hb5
    replace hrow := hrow.up hT
    replace hS := hS.trans hT
    clear hT
    refine W ?_
    refine WL_eff (OE_buildSlice (vs := [(0, .int .i64 l[j].op), (1, .int .i64 l[j].n)]) rfl (buildSI2 _ _)) rfl ?_
    rintro bv w5 hN
    have hbv : SlV (ob u ++ []) w5 bv [l[j].op, l[j].n] := hN.slv (fun b hb => (hrow.ob_le b (by simpa using hb)).2) rfl rfl (by simp [maxLen])
    have hT := NewSl.stp hN
    clear hN
    replace hrow := hrow.up hT
    replace hS := hS.trans hT
    clear hT
    have hbase := hS.size
    have hfl := flatF_len (l.take j)
    rw [List.length_take, Nat.min_eq_left hj] at hfl
    refine WL_eff (OE_append (X := []) (base := w.heap.size) rfl (by decide) rfl rfl hrow hbv (by simp only [List.length_cons, List.length_nil]; omega) (by simp only [List.length_cons, List.length_nil, maxLen]; omega) hbase) rfl ?_
    rintro u' w6 ⟨hrow', hT, _⟩
    have hown : ∀ b ∈ ob u, b ∈ ([] : List Nat) ∨ w.heap.size ≤ b := fun c hc => .inr (hrow.ob_le c hc).1
    refine W ?_
    exact WQ_loop (j + 1, u') ⟨rfl, rfl, rfl, rfl, trivial⟩ ⟨hlt, by dsimp only; rw [flatF_succ l j hlt]; exact hrow', hS.own hT hown⟩ (by dsimp only; omega)
  · have hje : j = l.length := by omega
    subst hje
    rw [List.take_length] at hrow
    repeat' (first | refine W1 ?_ | (exfalso; omega) | refine WL_split rfl rfl (fun hg => ?_) (fun hg => ?_) | refine WL_splitB rfl rfl (fun hg => ?_) (fun hg => ?_) | refine WC_cond rfl (fun hc => ?_) (fun hc => ?_) | refine WC_condB rfl (fun hc => ?_) (fun hc => ?_))
    first | refine WQ_ret1 rfl rfl ?_ | refine WQ_ret2 rfl rfl rfl ?_ | refine WQ_ret3 rfl rfl rfl rfl ?_ | refine WQ_ret0 rfl ?_ | refine WQ_end0 rfl ?_
    exact .mk ⟨hrow, hS⟩
end Go.Proofs.YtgpibcgebpgmiaaDoor
/-
The walk engine, part 18: numbers of other kinds: conversions, bits, shifts; strings out of bytes; append of a string to bytes.
-/
namespace Go.Eng
open Go Go.RowKit Go.Proofs
set_option linter.unusedVariables false
section
variable {P : Program} {n : Nat} {e : Env} {w : World} {d : Option Nat} {ty : TypeId} {pos : String} {af : Array Edge} {g : Option (Nat × Bool)}
theorem PR_conv {src dst : TypeId} {k k' : IntKind} {x : Operand} {a : Int} {D : TypeDesc} [hs : Und P src D] [hd : Und P dst (.int k)] (hx : ev e x = some (.int k' a)) :
    PR P n ⟨d, .convert src dst x, ty, pos, af, g⟩ e w (.int k (k.wrap a)) :=
  ⟨fun c ha => by
    have hk : P.intKind dst = k := by simp [Program.intKind, hd.h]
    have := run_convert_int (P := P) w src dst k' a (by rw [hs.h]; rfl) (by rw [hk]; exact hd.h)
    simp [execOp, ha.ev hx, this, hk]⟩
theorem PR_convTo {src dst : TypeId} {k k' : IntKind} {x : Operand} {a b : Int} {D : TypeDesc} [hs : Und P src D] [hd : Und P dst (.int k)] (hx : ev e x = some (.int k' a)) (hb : k.wrap a = b) :
    PR P n ⟨d, .convert src dst x, ty, pos, af, g⟩ e w (.int k b) := hb ▸ PR_conv hx
section
variable {x y : Operand} {t u : TypeId} {k : IntKind} {a b : Int}
theorem PR_and (hx : ev e x = some (.int k a)) (hy : ev e y = some (.int k b)) {r : Int} (hr : Go.bits .and k a b = r) : PR P n ⟨d, .binOp .and t x y u, ty, pos, af, g⟩ e w (.int k r) :=
  ⟨fun c ha => by simp only [execOp, ha.ev hx, ha.ev hy]; simp [go_sem, hr]⟩
theorem PR_or (hx : ev e x = some (.int k a)) (hy : ev e y = some (.int k b)) {r : Int} (hr : Go.bits .or k a b = r) : PR P n ⟨d, .binOp .or t x y u, ty, pos, af, g⟩ e w (.int k r) :=
  ⟨fun c ha => by simp only [execOp, ha.ev hx, ha.ev hy]; simp [go_sem, hr]⟩
theorem PR_xor (hx : ev e x = some (.int k a)) (hy : ev e y = some (.int k b)) {r : Int} (hr : Go.bits .xor k a b = r) : PR P n ⟨d, .binOp .xor t x y u, ty, pos, af, g⟩ e w (.int k r) :=
  ⟨fun c ha => by simp only [execOp, ha.ev hx, ha.ev hy]; simp [go_sem, hr]⟩
theorem PR_shl {yk : IntKind} {s : Nat} (hx : ev e x = some (.int k a)) (hy : ev e y = some (.int yk (s : Int))) (hs : s ≤ k.bits) {r : Int} (hr : k.wrap (a * 2 ^ s) = r) : PR P n ⟨d, .binOp .shl t x y u, ty, pos, af, g⟩ e w (.int k r) :=
  ⟨fun c ha => by
    have h := shift_shl k yk a (s : Int) (by omega) (by omega)
    rw [Int.toNat_natCast, hr] at h
    simp only [execOp, ha.ev hx, ha.ev hy]
    simp [go_sem, binOp, h]⟩
theorem PR_shr {yk : IntKind} {s : Nat} (hx : ev e x = some (.int k a)) (hy : ev e y = some (.int yk (s : Int))) (hs : s ≤ k.bits) {r : Int} (hr : a / 2 ^ s = r) : PR P n ⟨d, .binOp .shr t x y u, ty, pos, af, g⟩ e w (.int k r) :=
  ⟨fun c ha => by
    have h := shift_shr k yk a (s : Int) (by omega) (by omega)
    rw [Int.toNat_natCast, hr] at h
    simp only [execOp, ha.ev hx, ha.ev hy]
    simp [go_sem, binOp, h]⟩
theorem PR_addK (hx : ev e x = some (.int k a)) (hy : ev e y = some (.int k b)) {r : Int} (hr : k.wrap (a + b) = r) : PR P n ⟨d, .binOp .add t x y u, ty, pos, af, g⟩ e w (.int k r) :=
  ⟨fun c ha => by simp only [execOp, ha.ev hx, ha.ev hy]; simp [go_sem, Op.intArith, hr]⟩
theorem PR_subK (hx : ev e x = some (.int k a)) (hy : ev e y = some (.int k b)) {r : Int} (hr : k.wrap (a - b) = r) : PR P n ⟨d, .binOp .sub t x y u, ty, pos, af, g⟩ e w (.int k r) :=
  ⟨fun c ha => by simp only [execOp, ha.ev hx, ha.ev hy]; simp [go_sem, Op.intArith, hr]⟩
theorem PR_mulK (hx : ev e x = some (.int k a)) (hy : ev e y = some (.int k b)) {r : Int} (hr : k.wrap (a * b) = r) : PR P n ⟨d, .binOp .mul t x y u, ty, pos, af, g⟩ e w (.int k r) :=
  ⟨fun c ha => by simp only [execOp, ha.ev hx, ha.ev hy]; simp [go_sem, Op.intArith, hr]⟩
theorem PR_remK (hx : ev e x = some (.int k a)) (hy : ev e y = some (.int k b)) (hb : b ≠ 0) {r : Int} (hr : a.tmod b = r) : PR P n ⟨d, .binOp .rem t x y u, ty, pos, af, g⟩ e w (.int k r) :=
  ⟨fun c ha => by simp only [execOp, ha.ev hx, ha.ev hy]; simp [go_sem, Op.intDiv, hb]; try rw [hr]⟩
theorem PR_quoK (hx : ev e x = some (.int k a)) (hy : ev e y = some (.int k b)) (hb : b ≠ 0) {r : Int} (hr : k.wrap (a.tdiv b) = r) : PR P n ⟨d, .binOp .quo t x y u, ty, pos, af, g⟩ e w (.int k r) :=
  ⟨fun c ha => by simp only [execOp, ha.ev hx, ha.ev hy]; simp [go_sem, Op.intDiv, hb]; try rw [hr]⟩
end
/-- bytes as the cells of a string -/
theorem strCells_enc (s : Str) : Lib.strCells ⟨s.toArray⟩ = s.flatMap Flat.enc := by
  show s.map _ = _
  induction s with
  | nil => rfl
  | cons b s ih => rw [List.map_cons, ih, List.flatMap_cons]; rfl

theorem append_blockT {t tu T base : Nat} {i : TypeInfo} (ht : P.underlying t = some (.slice T)) (hu : P.underlying tu = some .string) (hi : P.info? T = some i) (hz : i.zero = some (.int .u8 0))
    (hsize : i.size = 1) (hby : i.bytes = 1) {v : Value} {m : Nat} {xs : List Value} (hown : w.ownsRow base T 1 v m xs) (s : ByteArray) (hlen : m + s.size ≤ 140737488355328) {v' : Value} {w' : World}
    (hr : (Builtin.append_ #[t, tu] ty #[v, .string s]).run P w = .ok v' w') : ∀ b ∈ ob v', b ∈ ob v ∨ w.heap.size ≤ b := by
  have hxl : xs.length = m := by simpa using hown.1
  rcases hown.2 with ⟨rfl, rfl⟩ | ⟨g, cap, cur, rfl, hbg, hg, hnc, hcm, hcs, htake⟩
  · by_cases hm : s.size = 0
    · have hf := Lib.run_firstCells_string (P := P) w 1 s
      rw [hm] at hf
      have : (Builtin.append_ #[t, tu] ty #[.slice none 0 0, .string s]).run P w = .ok (.slice none 0 0) w := by
        simp [Builtin.append_, run_underlying ht, run_underlying hu, sizeOf, typeInfo, hi, hsize, Builtin.lenOf, hm, hf]
      rw [this] at hr
      cases hr
      simp [ob]
    · have h := run_append_nil_string (P := P) w t tu ty T i (.int .u8 0) ht hu hi hz s (by omega) (by omega) (by rw [hby]; omega)
      rw [h] at hr
      cases hr
      simp [ob]
  · by_cases hroom : m + s.size ≤ cap
    · have hcs' : cur.size = cap := by simpa using hcs
      have h := Lib.run_append_room_string (P := P) w t tu ty T i ht hu hi hsize g m cap cur hg s hroom (by omega)
      rw [h] at hr
      cases hr
      simp [ob]
    · have holds : ∀ j u, xs[j]? = some u → w.cell? ((⟨g, 0, none⟩ : Addr).add j) = some u := hown.cells (g := g) rfl
      have h := Lib.run_append_grow_string (P := P) w t tu ty T i (.int .u8 0) ht hu hi hz ⟨g, 0, none⟩ m cap xs (by rw [hsize]; simpa using hxl) holds s (by omega) (by omega) (by rw [hby]; exact growslice_fits (by omega) (by omega))
      rw [h] at hr
      cases hr
      simp [ob]
/-- append of a string to a row of bytes -/
theorem OE_appendT {t tu T base : Nat} {X : List Nat} {x y : Operand} {v : Value} {xs : List UInt8} {s : Str} [ht : Und P t (.slice T)] [hu : Und P tu .string] [hk : Siz P T 1] [hb : Byt P T 1] [hz : Zer P T (.int .u8 0)]
    (hx : ev e x = some v) (hy : ev e y = some (str s)) (hrow : Row X w base T v xs) (hlen : xs.length + s.length ≤ 140737488355328) (hbase : base ≤ w.heap.size) :
    OE P n ⟨d, .call { callee := .builtin .append, args := #[x, y], argTypes := #[t, tu] }, ty, pos, af, g⟩ e w (fun v' w' => Row X w' base T v' (xs ++ s) ∧ Stp (ob v) w w' ∧ ∀ b ∈ ob v', b ∈ ob v ∨ w.heap.size ≤ b) := by
  obtain ⟨i, hi, hi1, hi2, hi3⟩ : ∃ i, P.info? T = some i ∧ i.size = 1 ∧ i.bytes = 1 ∧ i.zero = some (.int .u8 0) := by
    have a1 := hk.h
    have a2 := hb.h
    have a3 := hz.h
    cases hi : P.info? T with
    | none => simp [hi] at a1
    | some i => exact ⟨i, rfl, by simpa [hi] using a1, by simpa [hi] using a2, by simpa [hi] using a3⟩
  obtain ⟨css, hl, hr, ho⟩ := hrow
  have hcss : css = xs.map Flat.enc := by
    apply List.ext_getElem (by simp [hl])
    intro i h1 h2
    have : css[i] = Flat.enc xs[i] := hr i (by omega) h1
    simpa using this
  subst hcss
  have hsz : (⟨s.toArray⟩ : ByteArray).size = s.length := str_size s
  obtain ⟨v', w', hrun, h1, h2, h3⟩ := Lib.run_append_own_string (P := P) w base t tu ty T i ht.h hu.h hi hi3 hi1 hi2 v xs.length _ ho ⟨s.toArray⟩ (by rw [hsz]; unfold maxLen; omega) (by rw [hsz]; omega) hbase
  rw [hsz, strCells_enc] at h1
  have hblk := append_blockT (P := P) ht.h hu.h hi hi3 hi1 hi2 ho ⟨s.toArray⟩ (by rw [hsz]; exact hlen) hrun
  have hS : Stp (ob v) w w' := by rw [← ob_own]; exact Stp.of_grown h2
  refine OE_value (v := v') (w' := w') (fun a ha => ?_) ⟨⟨(xs ++ s).map Flat.enc, by simp, fun i hi hi' => (List.getElem_map _ : ((xs ++ s).map Flat.enc)[i] = Flat.enc (xs ++ s)[i]), ?_⟩, hS, hblk⟩
  · simp [execOp, resolve, invoke, builtin, ha.ev hx, ha.ev hy, hrun]
  · have e1 : ((xs ++ s).map Flat.enc).flatten = (xs.map Flat.enc).flatten ++ s.flatMap Flat.enc := by rw [List.map_append, List.flatten_append, List.flatMap_def]
    rw [e1, List.length_append]
    exact h1

theorem PR_eqlNil {t u el : TypeId} {x y : Operand} {p : Option Addr} {l c : Nat} [hu : Und P t (.slice el)] (hx : ev e x = some (.slice p l c)) (hy : ev e y = some (.slice none 0 0)) :
    PR P n ⟨d, .binOp .eql t x y u, ty, pos, af, g⟩ e w (.bool p.isNone) :=
  ⟨fun a ha => by
    have h := run_equal_slice_nil (P := P) w t el p l c hu.h
    simp only [execOp, ha.ev hx, ha.ev hy]
    simp [go_sem, binOp, h]⟩
theorem PR_neqNil {t u el : TypeId} {x y : Operand} {p : Option Addr} {l c : Nat} [hu : Und P t (.slice el)] (hx : ev e x = some (.slice p l c)) (hy : ev e y = some (.slice none 0 0)) :
    PR P n ⟨d, .binOp .neq t x y u, ty, pos, af, g⟩ e w (.bool (!p.isNone)) :=
  ⟨fun a ha => by
    have h := run_equal_slice_nil (P := P) w t el p l c hu.h
    simp only [execOp, ha.ev hx, ha.ev hy]
    simp [go_sem, binOp, h]⟩
/-- a string of bytes -/
theorem PR_convB {src dst el : TypeId} {x : Operand} {v : Value} {X : List Nat} {xs : List UInt8} [hs : Und P src (.slice el)] [hd : Und P dst .string] [he : Und P el (.int .u8)] (hx : ev e x = some v) (hv : SlV X w v xs) :
    PR P n ⟨d, .convert src dst x, ty, pos, af, g⟩ e w (str xs) := by
  obtain ⟨p, c, rfl, hl, hm, hn, hc⟩ := hv
  refine ⟨fun a ha => ?_⟩
  have key : (convert src dst (.slice p xs.length c)).run P w = .ok (str xs) w := by
    cases p with
    | none =>
      have hx0 : xs = [] := by
        cases xs with
        | nil => rfl
        | cons b r =>
          obtain ⟨_, _, _, h, _⟩ := hc 0 (by simp)
          cases h
      subst hx0
      have := run_convert_bytes_nil (P := P) w src el hs.h he.h 0 c dst hd.h
      rw [List.length_nil, this]
      rfl
    | some a =>
      by_cases hx0 : xs = []
      · subst hx0
        have hl0 : (loadCells a 0).run P w = .ok ((([] : List Int).map (Value.int .u8)).toArray) w := by simp [loadCells, loadCellsFrom]
        have h2 := run_bytesToString (P := P) w a 0 c [] hl0
        rw [List.length_nil, run_convert_bytes_string w src dst el _ 0 c hs.h he.h hd.h, h2]
        rfl
      · have h0 : 0 < xs.length := List.length_pos_iff.2 hx0
        obtain ⟨b, o, cs, hp, _⟩ := hc 0 h0
        simp only [Option.some.injEq] at hp
        subst hp
        have h2 := run_convert_bytes_arg (P := P) w src el hs.h he.h b o xs.length c (xs.map fun x => (x.toNat : Int)) (by simp) (fun i hi => by
          obtain ⟨b', o', cs', hp', _, _, hr, hcell⟩ := hc i hi
          simp only [Option.some.injEq, Addr.mk.injEq, and_true] at hp'
          obtain ⟨rfl, rfl⟩ := hp'
          have hr' : cs' = Flat.enc xs[i] := hr
          subst hr'
          have := hcell 0 (.int .u8 (xs[i].toNat : Int)) rfl
          rw [show o + i * GoRep.k UInt8 + 0 = o + i by show o + i * 1 + 0 = o + i; omega] at this
          rw [this]
          simp [List.getD, List.getElem?_eq_getElem hi]) dst hd.h
        rw [h2]
        congr 2
        simp only [strOfNums, List.map_map]
        congr 2
        conv => rhs; rw [← List.map_id xs]
        apply List.map_congr_left
        intro x _
        simp
  simp [execOp, ha.ev hx, key]
end
end Go.Eng
/-
The bytes of an encoding: plain Lean.
-/
namespace Go.Eng
open Go
/-- the encoding of an unsigned number: seven bits to a byte -/
def uintB (n : Nat) : List UInt8 := if n < 128 then [UInt8.ofNat n] else UInt8.ofNat (128 + n % 128) :: uintB (n / 128)
termination_by n
decreasing_by omega
theorem uintB_lo {n : Nat} (h : n < 128) : uintB n = [UInt8.ofNat n] := by rw [uintB, if_pos h]
theorem uintB_hi {n : Nat} (h : 128 ≤ n) : uintB n = UInt8.ofNat (128 + n % 128) :: uintB (n / 128) := by rw [uintB, if_neg (by omega)]
theorem uintB_pos (n : Nat) : 1 ≤ (uintB n).length := by
  rw [uintB]
  split <;> simp
theorem uintB_len (k : Nat) : ∀ n, n < 128 ^ (k + 1) → (uintB n).length ≤ k + 1 := by
  induction k with
  | zero => intro n h; rw [uintB_lo (by simpa using h)]; simp
  | succ k ih =>
    intro n h
    by_cases hn : n < 128
    · rw [uintB_lo hn]; simp
    · rw [uintB_hi (by omega)]
      have := ih (n / 128) (by rw [Nat.pow_succ] at h; exact Nat.div_lt_of_lt_mul (by rw [Nat.mul_comm]; exact h))
      simp only [List.length_cons]
      omega
theorem uintB_len10 {n : Nat} (h : n < 18446744073709551616) : (uintB n).length ≤ 10 := uintB_len 9 n (by omega)
/-- the unsigned number of a number -/
def zigN (z : Int) : Nat := if z < 0 then 2 * (-(z + 1)).toNat + 1 else 2 * z.toNat
theorem zigN_lt {z : Int} (h : I64 z) : zigN z < 18446744073709551616 := by
  unfold I64 at h
  unfold zigN
  split <;> omega
def intB (z : Int) : List UInt8 := uintB (zigN z)
def textB (s : Str) : List UInt8 := uintB s.length ++ s
def intsB (l : List Int) : List UInt8 := uintB l.length ++ l.flatMap intB
theorem intB_len {z : Int} (h : I64 z) : (intB z).length ≤ 10 := uintB_len10 (zigN_lt h)
theorem flatMap_intB_len (l : List Int) (h : ∀ z ∈ l, I64 z) : (l.flatMap intB).length ≤ 10 * l.length := by
  induction l with
  | nil => simp
  | cons z l ih =>
    have h1 := intB_len (h z (by simp))
    have h2 := ih (fun z hz => h z (by simp [hz]))
    simp only [List.flatMap_cons, List.length_append, List.length_cons]
    omega
theorem or128 : ∀ c : Fin 256, (c.val ||| 128) = 128 + c.val % 128 := by decide +kernel
theorem or_u8 (n : Nat) : Go.bits .or .u8 ((n : Int) % 256) 128 = ((UInt8.ofNat (128 + n % 128)).toNat : Int) := by
  have h1 : ((n : Int) % 256) = ((n % 256 : Nat) : Int) := by omega
  rw [h1, show (128 : Int) = ((128 : Nat) : Int) from rfl, u8_or_nat _ _ (by omega) (by omega)]
  have h2 := or128 ⟨n % 256, by omega⟩
  simp only at h2
  rw [h2]
  simp only [UInt8.toNat_ofNat']
  omega
theorem byte_wrap (n : Nat) : IntKind.u8.wrap (n : Int) = (n : Int) % 256 := IntKind.wrap_u8' _
theorem wrap_u64_of {z : Int} (h0 : 0 ≤ z) (h : z < 18446744073709551616) : IntKind.u64.wrap z = z := by
  rw [IntKind.wrap_u64]
  omega
theorem byte_nat (n : Nat) (h : n < 256) : ((UInt8.ofNat n).toNat : Int) = (n : Int) := by
  rw [UInt8.toNat_ofNat']
  omega
theorem xor_ones (a : Nat) (ha : a < 18446744073709551616) : Go.bits .xor .u64 (a : Int) 18446744073709551615 = ((18446744073709551615 - a : Nat) : Int) := by
  have h1 : (BitVec.ofInt 64 (a : Int)).toNat = a := by
    rw [BitVec.ofInt_natCast, BitVec.toNat_ofNat]; exact Nat.mod_eq_of_lt (by omega)
  have h2 : BitVec.ofInt 64 (18446744073709551615 : Int) = BitVec.allOnes 64 := by decide
  show IntKind.u64.wrap ((BitVec.ofInt 64 (a : Int) ^^^ BitVec.ofInt 64 (18446744073709551615 : Int)).toNat : Int) = _
  rw [h2, BitVec.xor_allOnes, BitVec.toNat_not, h1, IntKind.wrap_u64]
  omega
/-- (n << 1) ^ (n >> 63) -/
theorem zig_bits {z : Int} (h : I64 z) : Go.bits .xor .u64 (IntKind.u64.wrap (IntKind.u64.wrap z * 2 ^ 1)) (IntKind.u64.wrap (z / 2 ^ 63)) = ((zigN z : Nat) : Int) := by
  unfold I64 at h
  simp only [IntKind.wrap_u64]
  by_cases hz : z < 0
  · have e1 : z % 18446744073709551616 = z + 18446744073709551616 := by omega
    have e2 : (z + 18446744073709551616) * 2 ^ 1 % 18446744073709551616 = ((2 * z + 18446744073709551616).toNat : Int) := by omega
    have e3 : z / 2 ^ 63 % 18446744073709551616 = 18446744073709551615 := by omega
    rw [e1, e2, e3, xor_ones _ (by omega)]
    unfold zigN
    rw [if_pos hz]
    omega
  · have e1 : z % 18446744073709551616 = z := by omega
    have e2 : z * 2 ^ 1 % 18446744073709551616 = ((2 * z.toNat : Nat) : Int) := by omega
    have e3 : z / 2 ^ 63 % 18446744073709551616 = ((0 : Nat) : Int) := by omega
    rw [e1, e2, e3, bits_xor_u64_nat _ _ (by omega) (by omega)]
    unfold zigN
    rw [if_neg hz]
    simp
end Go.Eng

namespace Go.Proofs.YtgpibcgebpgmiaaDoor
open Go Go.Eng Go.RowKit
set_option linter.unusedVariables false
/-- a writer: its block, its row of bytes -/
structure Wr (w : World) (bc base : Nat) (v : Value) (xs : List UInt8) : Prop where
  blk : Blk w bc 93 [v]
  row : Row [] w base 5 v xs
  apart : bc ∉ ob v
  low : bc < base
  top : base ≤ w.heap.size
/-- what a method of the writer leaves -/
def Wrs (w : World) (bc base : Nat) (v : Value) (ys : List UInt8) (w' : World) : Prop :=
  ∃ v', Wr w' bc base v' ys ∧ Stp (bc :: ob v) w w' ∧ ∀ b ∈ ob v', b ∈ ob v ∨ w.heap.size ≤ b
theorem Wr.up {w w' : World} {bc base : Nat} {v : Value} {xs : List UInt8} (h : Wr w bc base v xs) (hS : Stp [] w w') : Wr w' bc base v xs :=
  ⟨h.blk.up hS, h.row.up hS, h.apart, h.low, Nat.le_trans h.top hS.size⟩
theorem Wrs.pre {w0 w w' : World} {bc base : Nat} {v : Value} {ys : List UInt8} (hS : Stp [] w0 w) (h : Wrs w bc base v ys w') : Wrs w0 bc base v ys w' := by
  obtain ⟨v', h1, h2, h3⟩ := h
  exact ⟨v', h1, (hS.mono (by simp)).trans h2, fun b hb => (h3 b hb).imp id (fun h => Nat.le_trans hS.size h)⟩
theorem Wrs.post {w w1 w' : World} {bc base : Nat} {v : Value} {ys : List UInt8} (h : Wrs w bc base v ys w1) (hS : Stp [] w1 w') : Wrs w bc base v ys w' := by
  obtain ⟨v', h1, h2, h3⟩ := h
  exact ⟨v', h1.up hS, h2.trans (hS.mono (by simp)), h3⟩
/-- one after another -/
theorem Wrs.next {w w1 w2 : World} {bc base : Nat} {v v1 : Value} {zs : List UInt8} (hS : Stp (bc :: ob v) w w1) (hb : ∀ b ∈ ob v1, b ∈ ob v ∨ w.heap.size ≤ b) (h : Wrs w1 bc base v1 zs w2) : Wrs w bc base v zs w2 := by
  obtain ⟨v', h1, h2, h3⟩ := h
  refine ⟨v', h1, ?_, fun b hb' => ?_⟩
  · exact hS.own h2 (fun b hb' => by
      rcases List.mem_cons.1 hb' with rfl | h
      · exact .inl (by simp)
      · exact (hb b h).imp (fun h => List.mem_cons_of_mem _ h) id)
  · rcases h3 b hb' with h | h
    · exact hb b h
    · exact .inr (Nat.le_trans hS.size h)
theorem buildB1 (b : UInt8) (w : World) : (Instr.buildSlice 38 1 #[(0, .int .u8 (b.toNat : Int))]).run Tryd.prog w = .ok (.slice (some ⟨w.heap.size, 0, none⟩) 1 1) (w.alloc (.cells (Flat.enc b).toArray 5)) := by kernel_rfl
/-- the step of every method: the byte is appended, the row is stored -/
theorem Wr.stored {w w1 w2 : World} {bc base : Nat} {v v' : Value} {xs ys : List UInt8} (h : Wr w bc base v xs) (hrow : Row [] w1 base 5 v' ys) (hS : Stp (ob v) w w1) (hb : ∀ b ∈ ob v', b ∈ ob v ∨ w.heap.size ≤ b)
    (hS2 : Stp [bc] w1 w2) (hblk : Blk w2 bc 93 [v']) : Wrs w bc base v ys w2 := by
  have hap : bc ∉ ob v' := fun hx => by
    rcases hb bc hx with h1 | h1
    · exact h.apart h1
    · have := h.blk.lt; omega
  refine ⟨v', ⟨hblk, hrow.keep hS2 (by simpa using hap), hap, h.low, Nat.le_trans h.top (Nat.le_trans hS.size hS2.size)⟩, ?_, hb⟩
  exact (hS.mono (fun x hx => List.mem_cons_of_mem _ hx)).trans (hS2.mono (by simp))
theorem Uint_any (bc base : Nat) (v : Value) (xs : List UInt8) (n : Nat) (w : World) (hn : n < 18446744073709551616) (hc : Wr w bc base v xs) (hl : xs.length ≤ 70368744177664) :
    Calls Tryd.prog 91 #[.pointer (some ⟨bc, 0, none⟩), .int .u64 (n : Int)] w (Ret fun r w' => r = .tuple #[] ∧ Wrs w bc base v (xs ++ uintB n) w') := by
  have hub := uintB_len10 hn
  refine calls_of_WC2 (n := 35) Tryd.func91 rfl rfl rfl ?_
  refine W ?_
  refine WC_loop (σ := Nat × Value × List UInt8) (fun q => [(0, .pointer (some ⟨bc, 0, none⟩)), (1, .int .u64 (q.1 : Int))]) (fun q w' => q.1 < 18446744073709551616 ∧ q.2.2 ++ uintB q.1 = xs ++ uintB n ∧ Wr w' bc base q.2.1 q.2.2 ∧ Stp (bc :: ob v) w w' ∧ ∀ b ∈ ob q.2.1, b ∈ ob v ∨ w.heap.size ≤ b) (fun q => q.1) (n, v, xs) ⟨rfl, rfl, trivial⟩ ⟨hn, rfl, hc, Stp.refl _ _, fun b hb => .inl hb⟩ ?_
  rintro ⟨m, u, ys⟩ w2 ⟨hm, heq, hW, hS, hob⟩
  dsimp only at hm heq hW hS hob ⊢
  have hlen := congrArg List.length heq
  simp only [List.length_append] at hlen
  have hup := uintB_pos m
  have hblk := hW.blk
  by_cases hlt : 128 ≤ m
  · repeat' (first | refine W1 ?_ | (exfalso; omega) | refine WL_split rfl rfl (fun hg => ?_) (fun hg => ?_) | refine WL_splitB rfl rfl (fun hg => ?_) (fun hg => ?_) | refine WC_cond rfl (fun hc => ?_) (fun hc => ?_) | refine WC_condB rfl (fun hc => ?_) (fun hc => ?_))
    refine WL_pure (PR_conv rfl) rfl ?_
    rw [byte_wrap m]
    refine WL_pure (PR_or rfl rfl (or_u8 m)) rfl ?_
    refine WL_eff (OE_buildSlice (vs := [(0, .int .u8 ((UInt8.ofNat (128 + m % 128)).toNat : Int))]) rfl (buildB1 _)) rfl ?_
    rintro bv w3 hN
    have hbv : SlV (ob u ++ []) w3 bv [(UInt8.ofNat (128 + m % 128))] := hN.slv (fun b hb => (hW.row.ob_le b (by simpa using hb)).2) rfl rfl (by simp [maxLen])
    have hT := NewSl.stp hN
    clear hN
    have hW3 := hW.up hT
    have hblk3 := hW3.blk
    refine WL_eff (OE_append (X := []) (base := base) rfl (by decide) rfl rfl hW3.row hbv (by simp only [List.length_cons, List.length_nil]; omega) (by simp only [List.length_cons, List.length_nil, maxLen]; omega) hW3.top) rfl ?_
    rintro u' w4 ⟨hrow4, hT4, hob4⟩
    have hblk4 := hblk3.ext hT4 hW3.apart
    refine W ?_
    refine WL_eff0 (OE_store1 (u := u') rfl rfl hrow4.slv0.cells hrow4.slv0.one hblk4 (by simp)) ?_
    rintro _ w5 ⟨hT5, hblk5⟩
    have hst := (hW3.stored hrow4 hT4 hob4 hT5 hblk5).pre hT
    clear hblk4 hblk3 hblk
    refine W ?_
    refine WL_pure (PR_shr (s := 7) (r := ((m / 128 : Nat) : Int)) rfl rfl (by decide) (by omega)) rfl ?_
    refine W ?_
    obtain ⟨v', k1, k2, k3⟩ := hst.next hS hob
    exact WQ_loop (m / 128, v', ys ++ [UInt8.ofNat (128 + m % 128)]) ⟨rfl, rfl, trivial⟩ ⟨by dsimp only; omega, by dsimp only; rw [← heq, uintB_hi hlt, List.append_assoc]; rfl, k1, k2, k3⟩ (by dsimp only; omega)
  · repeat' (first | refine W1 ?_ | (exfalso; omega) | refine WL_split rfl rfl (fun hg => ?_) (fun hg => ?_) | refine WL_splitB rfl rfl (fun hg => ?_) (fun hg => ?_) | refine WC_cond rfl (fun hc => ?_) (fun hc => ?_) | refine WC_condB rfl (fun hc => ?_) (fun hc => ?_))
    refine WL_pure (PR_convTo (b := ((UInt8.ofNat m).toNat : Int)) rfl (by rw [byte_wrap m, byte_nat m (by omega)]; omega)) rfl ?_
    refine WL_eff (OE_buildSlice (vs := [(0, .int .u8 ((UInt8.ofNat m).toNat : Int))]) rfl (buildB1 _)) rfl ?_
    rintro bv w3 hN
    have hbv : SlV (ob u ++ []) w3 bv [(UInt8.ofNat m)] := hN.slv (fun b hb => (hW.row.ob_le b (by simpa using hb)).2) rfl rfl (by simp [maxLen])
    have hT := NewSl.stp hN
    clear hN
    have hW3 := hW.up hT
    have hblk3 := hW3.blk
    refine WL_eff (OE_append (X := []) (base := base) rfl (by decide) rfl rfl hW3.row hbv (by simp only [List.length_cons, List.length_nil]; omega) (by simp only [List.length_cons, List.length_nil, maxLen]; omega) hW3.top) rfl ?_
    rintro u' w4 ⟨hrow4, hT4, hob4⟩
    have hblk4 := hblk3.ext hT4 hW3.apart
    refine W ?_
    refine WL_eff0 (OE_store1 (u := u') rfl rfl hrow4.slv0.cells hrow4.slv0.one hblk4 (by simp)) ?_
    rintro _ w5 ⟨hT5, hblk5⟩
    have hst := (hW3.stored hrow4 hT4 hob4 hT5 hblk5).pre hT
    clear hblk4 hblk3 hblk
    refine W ?_
    first | refine WQ_ret1 rfl rfl ?_ | refine WQ_ret2 rfl rfl rfl ?_ | refine WQ_ret3 rfl rfl rfl rfl ?_ | refine WQ_ret0 rfl ?_ | refine WQ_end0 rfl ?_
    refine .mk ⟨rfl, ?_⟩
    have h := hst.next hS hob
    rwa [← uintB_lo (by omega), heq] at h
end Go.Proofs.YtgpibcgebpgmiaaDoor

namespace Go.Proofs.YtgpibcgebpgmiaaDoor
open Go Go.Eng Go.RowKit
set_option linter.unusedVariables false
theorem Int_any (bc base : Nat) (v : Value) (xs : List UInt8) (z : Int) (w : World) (hz : I64 z) (hc : Wr w bc base v xs) (hl : xs.length ≤ 70368744177664) :
    Calls Tryd.prog 56 #[.pointer (some ⟨bc, 0, none⟩), .int .i64 z] w (Ret fun r w' => r = .tuple #[] ∧ Wrs w bc base v (xs ++ intB z) w') := by
  refine calls_of_WC2 (n := 13) Tryd.func56 rfl rfl rfl ?_
  refine W ?_
  refine WL_pure (PR_conv rfl) rfl ?_
  refine WL_pure (PR_shl (s := 1) rfl rfl (by decide) rfl) rfl ?_
  refine W ?_
  refine WL_pure (PR_shr (s := 63) rfl rfl (by decide) rfl) rfl ?_
  refine WL_pure (PR_conv rfl) rfl ?_
  refine WL_pure (PR_xor rfl rfl (zig_bits hz)) rfl ?_
  refine WL_eff (OE_call rfl (evs2 rfl rfl) (Uint_any bc base v xs (zigN z) w (zigN_lt hz) hc hl)) rfl ?_
  rintro _ w1 ⟨rfl, h⟩
  refine W ?_
  first | refine WQ_ret1 rfl rfl ?_ | refine WQ_ret2 rfl rfl rfl ?_ | refine WQ_ret3 rfl rfl rfl rfl ?_ | refine WQ_ret0 rfl ?_ | refine WQ_end0 rfl ?_
  exact .mk ⟨rfl, h⟩
theorem Text_any (bc base : Nat) (v : Value) (xs : List UInt8) (s : Str) (w : World) (hs : s.length ≤ 70368744177664) (hc : Wr w bc base v xs) (hl : xs.length ≤ 35184372088832) :
    Calls Tryd.prog 55 #[.pointer (some ⟨bc, 0, none⟩), str s] w (Ret fun r w' => r = .tuple #[] ∧ Wrs w bc base v (xs ++ textB s) w') := by
  have hub := uintB_len10 (n := s.length) (by omega)
  refine calls_of_WC2 (n := 20) Tryd.func55 rfl rfl rfl ?_
  refine W ?_
  refine WL_pure (PR_convTo (b := ((s.length : Nat) : Int)) rfl (wrap_u64_of (by omega) (by omega))) rfl ?_
  refine WL_eff (OE_call rfl (evs2 rfl rfl) (Uint_any bc base v xs s.length w (by omega) hc (by omega))) rfl ?_
  rintro _ w1 ⟨rfl, u, hW, hS, hob⟩
  have hblk := hW.blk
  refine W ?_
  refine WL_eff (OE_appendT (X := []) (base := base) rfl rfl hW.row (by simp only [List.length_append]; omega) hW.top) rfl ?_
  rintro u' w4 ⟨hrow4, hT4, hob4⟩
  have hblk4 := hblk.ext hT4 hW.apart
  refine W ?_
  refine WL_eff0 (OE_store1 (u := u') rfl rfl hrow4.slv0.cells hrow4.slv0.one hblk4 (by simp)) ?_
  rintro _ w5 ⟨hT5, hblk5⟩
  have hst := hW.stored hrow4 hT4 hob4 hT5 hblk5
  clear hblk4 hblk
  refine W ?_
  first | refine WQ_ret1 rfl rfl ?_ | refine WQ_ret2 rfl rfl rfl ?_ | refine WQ_ret3 rfl rfl rfl rfl ?_ | refine WQ_ret0 rfl ?_ | refine WQ_end0 rfl ?_
  have h := hst.next hS hob
  rw [List.append_assoc] at h
  exact .mk ⟨rfl, h⟩
theorem Ints_any (bc base : Nat) (v vl : Value) (xs : List UInt8) (l : List Int) (w : World) (hI : ∀ z ∈ l, I64 z) (hll : l.length ≤ 1000000) (hv : SlV (bc :: ob v) w vl l) (hc : Wr w bc base v xs) (hl : xs.length ≤ 35184372088832) :
    Calls Tryd.prog 57 #[.pointer (some ⟨bc, 0, none⟩), vl] w (Ret fun r w' => r = .tuple #[] ∧ Wrs w bc base v (xs ++ intsB l) w') := by
  have hub := uintB_len10 (n := l.length) (by omega)
  refine calls_of_WC2 (n := 21) Tryd.func57 rfl rfl rfl ?_
  refine W ?_
  refine WL_pure (PR_convTo (b := ((l.length : Nat) : Int)) rfl (wrap_u64_of (by omega) (by omega))) rfl ?_
  refine WL_eff (OE_call rfl (evs2 rfl rfl) (Uint_any bc base v xs l.length w (by omega) hc (by omega))) rfl ?_
  rintro _ w1 ⟨rfl, u, hW, hS, hob⟩
  replace hv : SlV (bc :: ob u) w1 vl l := hv.ext hS (fun _ h => h) (fun b hb => by
    rcases List.mem_cons.1 hb with rfl | h
    · exact .inl (by simp)
    · exact (hob b h).imp (fun h => List.mem_cons_of_mem _ h) id)
  refine W ?_
  refine WC_loop (σ := Nat × Value) (fun q => [(0, .pointer (some ⟨bc, 0, none⟩)), (11, vl), (12, .int .i64 (l.length : Int)), (13, .int .i64 (q.1 : Int))]) (fun q w' => q.1 ≤ l.length ∧ SlV (bc :: ob q.2) w' vl l ∧ Wr w' bc base q.2 (xs ++ uintB l.length ++ (l.take q.1).flatMap intB) ∧ Stp (bc :: ob v) w w' ∧ ∀ b ∈ ob q.2, b ∈ ob v ∨ w.heap.size ≤ b) (fun q => l.length - q.1) (0, u) ⟨rfl, rfl, rfl, rfl, trivial⟩ ⟨Nat.zero_le _, hv, by simpa using hW, hS, hob⟩ ?_
  clear hv hW hS hob
  rintro ⟨j, u2⟩ w2 ⟨hj, hv, hW, hS, hob⟩
  dsimp only at hj hv hW hS hob ⊢
  by_cases hlt : j < l.length
  · repeat' (first | refine W1 ?_ | (exfalso; omega) | refine WL_split rfl rfl (fun hg => ?_) (fun hg => ?_) | refine WL_splitB rfl rfl (fun hg => ?_) (fun hg => ?_) | refine WC_cond rfl (fun hc => ?_) (fun hc => ?_) | refine WC_condB rfl (fun hc => ?_) (fun hc => ?_))
    have hfl := flatMap_intB_len (l.take j) (fun z hz => hI z (List.mem_of_mem_take hz))
    rw [List.length_take] at hfl
    refine WL_eff (OE_call rfl (evs2 rfl rfl) (Int_any bc base u2 _ l[j] w2 (hI _ (List.getElem_mem hlt)) hW (by simp only [List.length_append]; omega))) rfl ?_
    rintro _ w3 ⟨rfl, u3, hW3, hS3, hob3⟩
    have hv3 : SlV (bc :: ob u3) w3 vl l := hv.ext hS3 (fun _ h => h) (fun b hb => by
      rcases List.mem_cons.1 hb with rfl | h
      · exact .inl (by simp)
      · exact (hob3 b h).imp (fun h => List.mem_cons_of_mem _ h) id)
    obtain ⟨u4, k1, k2, k3⟩ := (show Wrs w2 bc base u2 _ w3 from ⟨u3, hW3, hS3, hob3⟩).next hS hob
    refine W ?_
    refine WQ_loop (j + 1, u3) ⟨rfl, rfl, rfl, rfl, trivial⟩ ⟨hlt, hv3, ?_, ?_, ?_⟩ (by dsimp only; omega)
    · dsimp only
      rw [List.take_succ_eq_append_getElem hlt, List.flatMap_append]
      simpa using hW3
    · exact hS.own hS3 (fun b hb => by
        rcases List.mem_cons.1 hb with rfl | h
        · exact .inl (by simp)
        · exact (hob b h).imp (fun h => List.mem_cons_of_mem _ h) id)
    · intro b hb
      rcases hob3 b hb with h | h
      · exact hob b h
      · exact .inr (Nat.le_trans hS.size h)
  · have hje : j = l.length := by omega
    subst hje
    repeat' (first | refine W1 ?_ | (exfalso; omega) | refine WL_split rfl rfl (fun hg => ?_) (fun hg => ?_) | refine WL_splitB rfl rfl (fun hg => ?_) (fun hg => ?_) | refine WC_cond rfl (fun hc => ?_) (fun hc => ?_) | refine WC_condB rfl (fun hc => ?_) (fun hc => ?_))
    first | refine WQ_ret1 rfl rfl ?_ | refine WQ_ret2 rfl rfl rfl ?_ | refine WQ_ret3 rfl rfl rfl rfl ?_ | refine WQ_ret0 rfl ?_ | refine WQ_end0 rfl ?_
    rw [List.take_length, List.append_assoc] at hW
    exact .mk ⟨rfl, u2, hW, hS, hob⟩
end Go.Proofs.YtgpibcgebpgmiaaDoor

namespace Go.Proofs.YtgpibcgebpgmiaaDoor
open Go Go.Eng Go.RowKit
set_option linter.unusedVariables false
theorem buildB0 (w : World) : (Instr.buildSlice 38 0 #[]).run Tryd.prog w = .ok (.slice (some ⟨w.heap.size, 0, none⟩) 0 0) (w.alloc (.cells #[] 5)) := by kernel_rfl
theorem Clone_any (v : Value) (xs : List UInt8) (w : World) (hs : SlV [] w v xs) (hl : xs.length ≤ 140737488355328) :
    Calls Tryd.prog 81 #[v] w (Ret fun r w' => Row [] w' w.heap.size 5 r xs ∧ Stp [] w w') := by
  have hs0 := hs
  obtain ⟨p, c, rfl, hlc, hm, hn, hc⟩ := hs
  refine calls_of_WC1 (n := 8) Tryd.func81 rfl rfl rfl ?_
  refine W ?_
  refine WL_pure (PR_eqlNil rfl rfl) rfl ?_
  cases p with
  | none =>
    have hx0 : xs = [] := by
      have := hn rfl
      exact List.eq_nil_of_length_eq_zero (by omega)
    subst hx0
    repeat' (first | refine W1 ?_ | (exfalso; omega) | refine WL_split rfl rfl (fun hg => ?_) (fun hg => ?_) | refine WL_splitB rfl rfl (fun hg => ?_) (fun hg => ?_) | refine WC_cond rfl (fun hc => ?_) (fun hc => ?_) | refine WC_condB rfl (fun hc => ?_) (fun hc => ?_))
    first | refine WQ_ret1 rfl rfl ?_ | refine WQ_ret2 rfl rfl rfl ?_ | refine WQ_ret3 rfl rfl rfl rfl ?_ | refine WQ_ret0 rfl ?_ | refine WQ_end0 rfl ?_
    exact .mk ⟨Row.nil, Stp.refl _ _⟩
  | some a =>
    repeat' (first | refine W1 ?_ | (exfalso; omega) | refine WL_split rfl rfl (fun hg => ?_) (fun hg => ?_) | refine WL_splitB rfl rfl (fun hg => ?_) (fun hg => ?_) | refine WC_cond rfl (fun hc => ?_) (fun hc => ?_) | refine WC_condB rfl (fun hc => ?_) (fun hc => ?_))
    refine WL_eff (OE_buildSlice (vs := []) rfl (buildB0)) rfl ?_
    rintro bv w1 hN
    have hrow : Row [] w1 w.heap.size 5 bv ([] : List UInt8) := hN.row (Nat.le_refl _) rfl rfl (by simp)
    have hT := NewSl.stp hN
    have hv : SlV (ob bv ++ []) w1 (.slice (some a) xs.length c) xs := hs0.ext hT (by simp) (fun b hb => .inr (hrow.ob_le b (by simpa using hb)).1)
    clear hN
    refine W ?_
    refine WL_eff (OE_append (X := []) (base := w.heap.size) rfl (by decide) rfl rfl hrow hv (by simp only [List.length_nil]; omega) (by simp only [List.length_nil, maxLen]; omega) hT.size) rfl ?_
    rintro r w2 ⟨hrow2, hT2, _⟩
    refine W ?_
    first | refine WQ_ret1 rfl rfl ?_ | refine WQ_ret2 rfl rfl rfl ?_ | refine WQ_ret3 rfl rfl rfl rfl ?_ | refine WQ_ret0 rfl ?_ | refine WQ_end0 rfl ?_
    exact .mk ⟨hrow2, hT.own hT2 (fun b hb => .inr (hrow.ob_le b hb).1)⟩
theorem Done_any (bc base : Nat) (v : Value) (xs : List UInt8) (w : World) (hc : Wr w bc base v xs) (hl : xs.length ≤ 140737488355328) :
    Calls Tryd.prog 59 #[.pointer (some ⟨bc, 0, none⟩)] w (Ret fun r w' => Row [] w' w.heap.size 5 r xs ∧ Stp [] w w') := by
  have hblk := hc.blk
  have hs := hc.row.slv0
  refine calls_of_WC1 (n := 8) Tryd.func59 rfl rfl rfl ?_
  refine W ?_
  refine WL_eff (OE_call rfl (evs1 rfl) (Clone_any v xs w hs hl)) rfl ?_
  rintro r w1 h
  refine W ?_
  first | refine WQ_ret1 rfl rfl ?_ | refine WQ_ret2 rfl rfl rfl ?_ | refine WQ_ret3 rfl rfl rfl rfl ?_ | refine WQ_ret0 rfl ?_ | refine WQ_end0 rfl ?_
  exact .mk h
/-! ### the reference -/
theorem SameBytes_any (v u : Value) (xs ys : List UInt8) (w : World) (hv : SlV [] w v xs) (hu : SlV [] w u ys) :
    Calls Tryd.prog 19 #[v, u] w (Ret fun r w' => r = .bool (decide (xs = ys)) ∧ w' = w) := by
  refine calls_of_WC2 (n := 10) Tryd.func19 rfl rfl rfl ?_
  refine W ?_
  refine WL_pure (PR_convB rfl hv) rfl ?_
  refine W ?_
  refine WL_pure (PR_convB rfl hu) rfl ?_
  refine W ?_
  first | refine WQ_ret1 rfl rfl ?_ | refine WQ_ret2 rfl rfl rfl ?_ | refine WQ_ret3 rfl rfl rfl rfl ?_ | refine WQ_ret0 rfl ?_ | refine WQ_end0 rfl ?_
  exact .mk ⟨rfl, rfl⟩
end Go.Proofs.YtgpibcgebpgmiaaDoor

namespace Go.Proofs.YtgpibcgebpgmiaaDoor
open Go Go.Eng Go.RowKit
set_option linter.unusedVariables false
set_option linter.unusedSimpArgs false
/-- the encoding of a compiled rule -/
def encC (q : Cr) : List UInt8 := textB q.name ++ intB q.frm ++ textB q.on ++ intsB (flatF q.cnd) ++ intsB (flatF q.due) ++ textB q.unl ++ textB q.els
/-- what the encoders ask: numbers are numbers of 64 bits, no part is immense -/
structure CrOk (q : Cr) : Prop where
  frm : I64 q.frm
  cnd : ∀ x ∈ q.cnd, I64 x.op ∧ I64 x.n
  due : ∀ x ∈ q.due, I64 x.op ∧ I64 x.n
  lcnd : q.cnd.length ≤ 100000
  ldue : q.due.length ≤ 100000
  lname : q.name.length ≤ 1048576
  lon : q.on.length ≤ 1048576
  lunl : q.unl.length ≤ 1048576
  lels : q.els.length ≤ 1048576
theorem flatF_I64 {l : List Ins} (h : ∀ x ∈ l, I64 x.op ∧ I64 x.n) : ∀ z ∈ flatF l, I64 z := by
  intro z hz
  simp only [flatF, List.mem_flatMap, List.mem_cons, List.not_mem_nil, or_false] at hz
  obtain ⟨x, hx, rfl | rfl⟩ := hz
  · exact (h x hx).1
  · exact (h x hx).2
theorem textB_len {s : Str} (h : s.length ≤ 1048576) : (textB s).length ≤ 1048586 := by
  have := uintB_len10 (n := s.length) (by omega)
  simp only [textB, List.length_append]
  omega
theorem intsB_len {l : List Ins} (h : ∀ x ∈ l, I64 x.op ∧ I64 x.n) (hl : l.length ≤ 100000) : (intsB (flatF l)).length ≤ 2000010 := by
  have h1 := flatF_len l
  have h2 := uintB_len10 (n := (flatF l).length) (by omega)
  have h3 := flatMap_intB_len _ (flatF_I64 h)
  simp only [intsB, List.length_append]
  omega
/-- a method of a writer that was made by the call itself -/
theorem Wrs.flat {w w1 w2 : World} {bc base : Nat} {v : Value} {xs ys : List UInt8} (hS : Stp [] w w1) (hW : Wr w1 bc base v xs) (hbc : w.heap.size ≤ bc) (h : Wrs w1 bc base v ys w2) : ∃ v', Wr w2 bc base v' ys ∧ Stp [] w w2 := by
  obtain ⟨v', h1, h2, _⟩ := h
  refine ⟨v', h1, hS.own h2 (fun b hb => ?_)⟩
  rcases List.mem_cons.1 hb with rfl | hb
  · exact .inr hbc
  · exact .inr (Nat.le_trans hbc (Nat.le_trans (Nat.le_of_lt hW.low) (hW.row.ob_le b hb).1))
theorem Encode_any (v : Value) (q : Cr) (w : World) (hq : CrOk q) (hv : CrV [] w v q) :
    Calls Tryd.prog 20 #[v] w (Ret fun r w' => Row [] w' w.heap.size 5 r (encC q) ∧ Stp [] w w') := by
  obtain ⟨kc, kd, rfl, hc1, hd1⟩ := hv
  have l1 := textB_len hq.lname
  have l2 := intB_len hq.frm
  have l3 := textB_len hq.lon
  have l4 := intsB_len hq.cnd hq.lcnd
  have l5 := intsB_len hq.due hq.ldue
  have l6 := textB_len hq.lunl
  have l7 := textB_len hq.lels
  have f1 := flatF_len q.cnd
  have f2 := flatF_len q.due
  have g1 := hq.lcnd
  have g2 := hq.ldue
  have g3 := hq.lname
  have g4 := hq.lon
  have g5 := hq.lunl
  have g6 := hq.lels
  refine calls_of_WC1 (n := 29) Tryd.func20 rfl rfl rfl ?_
  refine W ?_
  refine WL_eff (OE_box rfl) rfl ?_
  rintro _ wb ⟨b, rfl, hb, e0, hSb⟩
  replace e0 : Blk wb b 42 (crC q kc kd) := e0
  replace hc1 := hc1.up hSb
  replace hd1 := hd1.up hSb
  refine W ?_
  refine WL_eff OE_alloc rfl ?_
  rintro _ w1 ⟨bc, rfl, hbc, eW, hS⟩
  have hW : Wr w1 bc (bc + 1) (.slice none 0 0) [] := ⟨eW, Row.nil, by simp [ob], by omega, eW.lt⟩
  clear eW
  have e1 := e0.up hS
  refine W ?_
  refine WL_eff (OE_call rfl (evs2 rfl rfl) (Text_any bc (bc + 1) _ _ q.name _ (by omega) hW (by simp only [List.length_append, List.length_nil]; omega))) rfl ?_
  rintro _ w2 ⟨rfl, h⟩
  obtain ⟨u, hW2, hS2⟩ := h.flat hS hW hbc
  clear h hW hS e1
  have hW := hW2
  have hS := hS2
  clear hW2 hS2
  have e1 := e0.up hS
  refine W ?_
  refine WL_eff (OE_call rfl (evs2 rfl rfl) (Int_any bc (bc + 1) _ _ q.frm _ hq.frm hW (by simp only [List.length_append, List.length_nil]; omega))) rfl ?_
  rintro _ w2 ⟨rfl, h⟩
  obtain ⟨u, hW2, hS2⟩ := h.flat hS hW hbc
  clear h hW hS e1
  have hW := hW2
  have hS := hS2
  clear hW2 hS2
  have e1 := e0.up hS
  refine W ?_
  refine WL_eff (OE_call rfl (evs2 rfl rfl) (Text_any bc (bc + 1) _ _ q.on _ (by omega) hW (by simp only [List.length_append, List.length_nil]; omega))) rfl ?_
  rintro _ w2 ⟨rfl, h⟩
  obtain ⟨u, hW2, hS2⟩ := h.flat hS hW hbc
  clear h hW hS e1
  have hW := hW2
  have hS := hS2
  clear hW2 hS2
  have e1 := e0.up hS
  refine W ?_
  refine WL_eff (OE_call rfl (evs1 rfl) (Flat_any _ q.cnd _ (by omega) (hc1.up hS))) rfl ?_
  rintro vf w2 ⟨hrf, hT⟩
  have hle := hW.blk.lt
  have hvf : SlV (bc :: ob u) w2 vf (flatF q.cnd) := hrf.slv (X := bc :: ob u) (fun x hx => by
    rcases List.mem_cons.1 hx with rfl | hx
    · exact hle
    · exact (hW.row.ob_le x hx).2)
  replace hW := hW.up hT
  replace hS := hS.trans hT
  refine WL_eff (OE_call rfl (evs2 rfl rfl) (Ints_any bc (bc + 1) _ _ _ (flatF q.cnd) _ (flatF_I64 hq.cnd) (by omega) hvf hW (by simp only [List.length_append, List.length_nil]; omega))) rfl ?_
  rintro _ w3 ⟨rfl, h⟩
  obtain ⟨u, hW2, hS2⟩ := h.flat hS hW hbc
  clear h hW hS e1 hrf hvf hT
  have hW := hW2
  have hS := hS2
  clear hW2 hS2
  have e1 := e0.up hS
  refine W ?_
  refine WL_eff (OE_call rfl (evs1 rfl) (Flat_any _ q.due _ (by omega) (hd1.up hS))) rfl ?_
  rintro vf w2 ⟨hrf, hT⟩
  have hle := hW.blk.lt
  have hvf : SlV (bc :: ob u) w2 vf (flatF q.due) := hrf.slv (X := bc :: ob u) (fun x hx => by
    rcases List.mem_cons.1 hx with rfl | hx
    · exact hle
    · exact (hW.row.ob_le x hx).2)
  replace hW := hW.up hT
  replace hS := hS.trans hT
  refine WL_eff (OE_call rfl (evs2 rfl rfl) (Ints_any bc (bc + 1) _ _ _ (flatF q.due) _ (flatF_I64 hq.due) (by omega) hvf hW (by simp only [List.length_append, List.length_nil]; omega))) rfl ?_
  rintro _ w3 ⟨rfl, h⟩
  obtain ⟨u, hW2, hS2⟩ := h.flat hS hW hbc
  clear h hW hS e1 hrf hvf hT
  have hW := hW2
  have hS := hS2
  clear hW2 hS2
  have e1 := e0.up hS
  refine W ?_
  refine WL_eff (OE_call rfl (evs2 rfl rfl) (Text_any bc (bc + 1) _ _ q.unl _ (by omega) hW (by simp only [List.length_append, List.length_nil]; omega))) rfl ?_
  rintro _ w2 ⟨rfl, h⟩
  obtain ⟨u, hW2, hS2⟩ := h.flat hS hW hbc
  clear h hW hS e1
  have hW := hW2
  have hS := hS2
  clear hW2 hS2
  have e1 := e0.up hS
  refine W ?_
  refine WL_eff (OE_call rfl (evs2 rfl rfl) (Text_any bc (bc + 1) _ _ q.els _ (by omega) hW (by simp only [List.length_append, List.length_nil]; omega))) rfl ?_
  rintro _ w2 ⟨rfl, h⟩
  obtain ⟨u, hW2, hS2⟩ := h.flat hS hW hbc
  clear h hW hS e1
  have hW := hW2
  have hS := hS2
  clear hW2 hS2
  have e1 := e0.up hS
  refine W ?_
  refine WL_eff (OE_call rfl (evs1 rfl) (Done_any bc (bc + 1) _ _ _ hW (by simp only [List.length_append, List.length_nil]; omega))) rfl ?_
  rintro r w2 ⟨hr, hT⟩
  refine W ?_
  first | refine WQ_ret1 rfl rfl ?_ | refine WQ_ret2 rfl rfl rfl ?_ | refine WQ_ret3 rfl rfl rfl rfl ?_ | refine WQ_ret0 rfl ?_ | refine WQ_end0 rfl ?_
  have hSS := (hSb.trans hS).trans hT
  exact .mk ⟨by simpa [encC, List.append_assoc] using hr.lower (Nat.le_trans hSb.size hS.size), hSS⟩
end Go.Proofs.YtgpibcgebpgmiaaDoor
/-
The walk engine, part 19: a drawn region in which some operations 'alloc' hang free beside a chain of others: they may come at any time before the operations that join them.
-/
namespace Go.Eng
open Go Go.RowKit Go.Proofs
set_option linter.unusedVariables false

/-- an 'alloc' that hangs free: its number, its slot, its type, the zero value -/
structure Fl where
  i : Nat
  d : Nat
  T : Nat
  z : Value
structure FlOk (P : Program) (n : Nat) (ops : Array Oper) (F : List Fl) : Prop where
  op : ∀ f ∈ F, ∃ ty pos af, ops[f.i]? = some ⟨some f.d, .alloc f.T, ty, pos, af, none⟩
  zero : ∀ f ∈ F, Zer P f.T f.z
  small : ∀ f ∈ F, Nat.blt f.d n = true
  idx : (F.map Fl.i).Nodup
  dst : ∀ f ∈ F, ∀ g ∈ F, f.d = g.d → f = g

def checkP (ops : Array Oper) (Lt : List Nat) (is : List Nat) : List (Nat × Nat) → List (Nat × Nat) → Array Bool → Bool
  | [], join, listed => (subs is).all (fun rem => rem.isEmpty || Region.ready .any ops (lst listed is rem) == rem) && checkD ops Lt join (lst listed is [])
  | (i, 0) :: r, join, listed => (subs is).all (fun rem => (Region.ready .any ops (lst listed is rem)).contains i && Region.free .any ops (lst listed is rem) i) && !is.contains i && checkP ops Lt is r join (listed.setIfInBounds i true)
  | (i, 1) :: r, join, listed => (subs is).all (fun rem => (Region.ready .any ops (lst listed is rem)).contains i && Region.free .any ops (lst listed is rem) i) && bound ops Lt i && !is.contains i && checkP ops Lt is r join (listed.setIfInBounds i true)
  | (i, 2) :: r, join, listed => (subs is).all (fun rem => (Region.ready .any ops (lst listed is rem)).contains i && (Region.ready .any ops (lst listed is rem)).all (fun j => j == i || rem.contains j)) && !is.contains i && checkP ops Lt is r join (listed.setIfInBounds i true)
  | _ :: _, _, _ => false

theorem lst_set {listed : Array Bool} {is rem : List Nat} {i : Nat} (hi : is.contains i = false) : (lst listed is rem).setIfInBounds i true = lst (listed.setIfInBounds i true) is rem := by
  apply Array.ext
  · simp [lst]
  · intro m h1 h2
    have hm : m < listed.size := by simpa [lst] using h2
    rw [Array.getElem_setIfInBounds]
    · simp only [lst, Array.getElem_ofFn]
      by_cases e : i = m
      · subst e
        simp
      · rw [if_neg e]
        have : (listed.setIfInBounds i true)[m]'(by simpa using hm) = listed[m] := by rw [Array.getElem_setIfInBounds hm]; simp [e]
        simp [this]
    · simpa [lst] using hm
theorem Has.cons {n : Nat} {e : Env} {a : Act} {d : Nat} {v : Value} (h : Has n e a) (hv : a.tmps.getD d undef = v) : Has n ((d, v) :: e) a := by
  refine ⟨h.defers, h.size, fun t x hx => ?_⟩
  rw [look_cons] at hx
  by_cases hd : d = t
  · subst hd; simp at hx; subst hx; exact hv
  · rw [if_neg hd] at hx; exact h.vals _ _ hx
theorem put_other {a : Act} {d t : Nat} {v : Value} (h : d ≠ t) : (a.put (some d) v).tmps.getD t undef = a.tmps.getD t undef := by
  simp [Act.put, Array.getElem?_setIfInBounds_ne h]
theorem put_same {n : Nat} {e : Env} {a : Act} {d : Nat} {v : Value} (h : Has n e a) (hd : Nat.blt d n = true) : (a.put (some d) v).tmps.getD d undef = v := by
  have hlt : d < a.tmps.size := by rw [h.size]; exact Nat.le_of_ble_eq_true hd
  simp [Act.put, hlt]
theorem Has.beside {n : Nat} {e : Env} {a : Act} {d : Nat} {v : Value} (h : Has n e a) (hd : look e d = none) : Has n e (a.put (some d) v) := by
  refine ⟨h.defers, by simp [Act.put, h.size], fun t u hu => ?_⟩
  by_cases hdt : d = t
  · subst hdt; rw [hd] at hu; cases hu
  · rw [put_other hdt]; exact h.vals t u hu

/-- what stands while the operations F hang free: those of 'done' have their blocks, which lie in D -/
structure FlAt (F : List Fl) (rem : List Nat) (done : List (Fl × Nat)) (w : World) (D : List Nat) (a : Act) : Prop where
  all : ∀ f ∈ F, f.i ∈ rem ∨ ∃ b, (f, b) ∈ done
  blk : ∀ p ∈ done, Blk w p.2 p.1.T p.1.z.cells.toList
  mem : ∀ p ∈ done, p.1 ∈ F ∧ p.2 ∈ D
  val : ∀ p ∈ done, a.tmps.getD p.1.d undef = .pointer (some ⟨p.2, 0, none⟩)
  inj : ∀ p ∈ done, ∀ q ∈ done, p.2 = q.2 → p = q
  old : ∀ p ∈ done, ¬ p.1.i ∈ rem

structure WP (P : Program) (n : Nat) (ops : Array Oper) (Lt : List Nat) (Q : Exit → Act → World → Prop) (F : List Fl) (main join : List (Nat × Nat)) (e : Env) (J : World → List Nat → Prop) : Prop where
  h : ∀ listed : Array Bool, Region.noSelect ops = true → checkP ops Lt (F.map Fl.i) main join listed = true → (∀ f ∈ F, look e f.d = none) → ∀ rem : List Nat, rem.Sublist (F.map Fl.i) → ∀ done w D a, FlAt F rem done w D a → J w D → Has n e a →
    wpAnyE P .any ops [] (fun j => Lt.contains j) (fun a w => Q .normal a w) (wt main + rem.length + wt join) (lst listed (F.map Fl.i) rem) a w
/-- J stands in every later world that leaves the old blocks -/
def Keeps (J : World → List Nat → Prop) : Prop := ∀ w w' D D', J w D → Stp [] w w' → (∀ b ∈ D', b ∈ D ∨ (w.heap.size ≤ b ∧ b < w'.heap.size)) → J w' D'

section rules
variable {P : Program} {n : Nat} {ops : Array Oper} {Lt : List Nat} {Q : Exit → Act → World → Prop} {F : List Fl} {rest join : List (Nat × Nat)} {e : Env} {J : World → List Nat → Prop}
variable {i d : Nat} {op : Op} {ty : TypeId} {pos : String} {af : Array Edge} {gd : Option (Nat × Bool)} {v : Value}

theorem FlAt.put {rem : List Nat} {done : List (Fl × Nat)} {w : World} {D : List Nat} {a : Act} (h : FlAt F rem done w D a) (hd : F.all (fun f => f.d != d) = true) : FlAt F rem done w D (a.put (some d) v) :=
  ⟨h.all, h.blk, h.mem, fun p hp => by
    have := List.all_eq_true.1 hd p.1 (h.mem p hp).1
    rw [put_other (by simp at this; exact fun h => this h.symm)]
    exact h.val p hp, h.inj, h.old⟩
theorem FlAt.world {rem : List Nat} {done : List (Fl × Nat)} {w w' : World} {D D' : List Nat} {a : Act} (h : FlAt F rem done w D a) (hS : Stp [] w w') (hD : ∀ b ∈ D, b ∈ D') : FlAt F rem done w' D' a :=
  ⟨h.all, fun p hp => (h.blk p hp).up hS, fun p hp => ⟨(h.mem p hp).1, hD _ (h.mem p hp).2⟩, h.val, h.inj, h.old⟩
/-- one of the free ones comes -/
theorem FlAt.next (hF : FlOk P n ops F) {rem : List Nat} {done : List (Fl × Nat)} {w w' : World} {D : List Nat} {a : Act} (h : FlAt F rem done w D a) {f : Fl} (hf : f ∈ F) (hr : f.i ∈ rem) (hnd : rem.Nodup) {b : Nat} (hb : w.heap.size ≤ b) (hB : Blk w' b f.T f.z.cells.toList) (hS : Stp [] w w') (ha : Has n e a) :
    FlAt F (rem.erase f.i) ((f, b) :: done) w' (b :: D) (a.put (some f.d) (.pointer (some ⟨b, 0, none⟩))) := by
  have hone : ∀ g ∈ F, g.i = f.i → g = f := by
    intro g hg hi
    have := hF.idx
    obtain ⟨x, hx, rfl⟩ := List.getElem_of_mem hf
    obtain ⟨y, hy, rfl⟩ := List.getElem_of_mem hg
    have h1 : (F.map Fl.i)[y]'(by simpa using hy) = (F.map Fl.i)[x]'(by simpa using hx) := by simpa using hi
    have h2 := (List.getElem_inj this).1 h1
    subst h2
    rfl
  have hne : ∀ p ∈ done, p.1 ≠ f := fun p hp hpf => h.old p hp (hpf ▸ hr)
  refine ⟨fun g hg => ?_, fun p hp => ?_, fun p hp => ?_, fun p hp => ?_, fun p hp q hq hpq => ?_, fun p hp => ?_⟩
  · by_cases hi : g.i = f.i
    · obtain rfl := hone g hg hi
      exact .inr ⟨b, by simp⟩
    · rcases h.all g hg with h1 | ⟨b', h1⟩
      · exact .inl ((List.mem_erase_of_ne hi).2 h1)
      · exact .inr ⟨b', by simp [h1]⟩
  · rcases List.mem_cons.1 hp with rfl | hp
    · exact hB
    · exact (h.blk p hp).up hS
  · rcases List.mem_cons.1 hp with rfl | hp
    · exact ⟨hf, by simp⟩
    · exact ⟨(h.mem p hp).1, by simp [(h.mem p hp).2]⟩
  · rcases List.mem_cons.1 hp with rfl | hp
    · exact put_same ha (hF.small _ hf)
    · rw [put_other (fun hd => hne p hp (hF.dst f hf p.1 (h.mem p hp).1 hd).symm)]
      exact h.val p hp
  · rcases List.mem_cons.1 hp with rfl | hp <;> rcases List.mem_cons.1 hq with rfl | hq
    · rfl
    · have := (h.blk q hq).lt; simp only at hpq; omega
    · have := (h.blk p hp).lt; simp only at hpq; omega
    · exact h.inj p hp q hq hpq
  · rcases List.mem_cons.1 hp with rfl | hp
    · exact hnd.not_mem_erase
    · exact fun hm => h.old p hp (List.mem_of_mem_erase hm)

theorem look_fresh (hd : F.all (fun f => f.d != d) = true) (hE : ∀ f ∈ F, look e f.d = none) : ∀ f ∈ F, look ((d, v) :: e) f.d = none := by
  intro f hf
  rw [look_cons]
  have := List.all_eq_true.1 hd f hf
  rw [if_neg (by simp at this; exact fun h => this h.symm)]
  exact hE f hf

theorem WP_step0 {o : Oper} (hi : ops[i]? = some o) (hd : o.dst = some d) (hY : ∀ w D a, J w D → Has n e a → YE P ops (fun _ _ => True) o v a w) (hdn : Nat.blt d n = true) (hdF : F.all (fun f => f.d != d) = true)
    (k : WP P n ops Lt Q F rest join ((d, v) :: e) J) : WP P n ops Lt Q F ((i, 0) :: rest) join e J := by
  refine ⟨fun listed hs hB hE rem hrem done w D a hat hJ ha => ?_⟩
  simp only [checkP, Bool.and_eq_true] at hB
  obtain ⟨⟨h1, hni⟩, h3⟩ := hB
  have hni' : (F.map Fl.i).contains i = false := by simpa using hni
  have h2 := List.all_eq_true.1 h1 rem (subs_mem hrem)
  simp only [Bool.and_eq_true] at h2
  have hk := k.h _ hs h3 (look_fresh hdF hE) rem hrem done w D _ (hat.put hdF) hJ (ha.put (v := v) hdn)
  rw [← lst_set hni', ← hd] at hk
  rw [wt_small (by decide), show wt rest + 1 + rem.length + wt join = (wt rest + rem.length + wt join) + 1 by omega]
  exact first_E (R := fun _ _ => True) (fun _ => trivial) (fun _ _ _ _ _ => trivial) hi (fun _ _ _ _ _ _ _ _ => trivial) (Region.noSelect_spec hs) _ _ _ _ (Region.free_spec hi h2.2) (fun _ => trivial) (by simpa using h2.1) (hY w D a hJ ha) hk
theorem WP_step1 {o : Oper} (hi : ops[i]? = some o) (hd : o.dst = some d) (hY : ∀ w D a, J w D → Has n e a → YE P ops (Stp []) o v a w) (hdn : Nat.blt d n = true) (hdF : F.all (fun f => f.d != d) = true)
    (k : WP P n ops Lt Q F rest join ((d, v) :: e) J) : WP P n ops Lt Q F ((i, 1) :: rest) join e J := by
  refine ⟨fun listed hs hB hE rem hrem done w D a hat hJ ha => ?_⟩
  simp only [checkP, Bool.and_eq_true] at hB
  obtain ⟨⟨⟨h1, hb⟩, hni⟩, h3⟩ := hB
  have hni' : (F.map Fl.i).contains i = false := by simpa using hni
  have h2 := List.all_eq_true.1 h1 rem (subs_mem hrem)
  simp only [Bool.and_eq_true] at h2
  have hk := k.h _ hs h3 (look_fresh hdF hE) rem hrem done w D _ (hat.put hdF) hJ (ha.put (v := v) hdn)
  rw [← lst_set hni', ← hd] at hk
  rw [wt_small (by decide), show wt rest + 1 + rem.length + wt join = (wt rest + rem.length + wt join) + 1 by omega]
  refine first_E (R := Stp []) (fun w => Stp.refl _ w) (fun _ _ _ h k => h.trans k) hi (fun j oj hj hn hji w w' hs => ?_) (Region.noSelect_spec hs) _ _ _ _ (Region.free_spec hi h2.2) (fun _ => trivial) (by simpa using h2.1) (hY w D a hJ ha) hk
  rcases hs with hs | hs
  · exact hs
  · rw [bound_spec hb hj hn hji] at hs; cases hs
/-- an operation that looks at no memory -/
theorem WP_free (hi : ops[i]? = some ⟨some d, op, ty, pos, af, gd⟩) (hg : gdOk ops e gd) (hp : ∀ w', PR P n ⟨some d, op, ty, pos, af, gd⟩ e w' v) (hdn : Nat.blt d n = true) (hdF : F.all (fun f => f.d != d) = true)
    (k : WP P n ops Lt Q F rest join ((d, v) :: e) J) : WP P n ops Lt Q F ((i, 0) :: rest) join e J :=
  WP_step0 hi rfl (fun w D a hJ ha => .inl ⟨wanted_ok ha hg, fun w' _ => (hp w').h a ha⟩) hdn hdF k
/-- one that reads old memory -/
theorem WP_read (hK : Keeps J) (hi : ops[i]? = some ⟨some d, op, ty, pos, af, gd⟩) (hg : gdOk ops e gd) (hp : ∀ w D, J w D → PR P n ⟨some d, op, ty, pos, af, gd⟩ e w v) (hdn : Nat.blt d n = true) (hdF : F.all (fun f => f.d != d) = true)
    (k : WP P n ops Lt Q F rest join ((d, v) :: e) J) : WP P n ops Lt Q F ((i, 1) :: rest) join e J :=
  WP_step1 hi rfl (fun w D a hJ ha => .inl ⟨wanted_ok ha hg, fun w' hw => (hp w' D (hK w w' D D hJ hw (fun b hb => .inl hb))).h a ha⟩) hdn hdF k

/-- what one of the free ones does -/
theorem alloc_free (hF : FlOk P n ops F) {f : Fl} (hf : f ∈ F) {w : World} {a : Act} {K : Act → World → Prop}
    (hk : ∀ b w', w.heap.size ≤ b → Blk w' b f.T f.z.cells.toList → Stp [] w w' → K (a.put (some f.d) (.pointer (some ⟨b, 0, none⟩))) w') (ha : Has n e a) : wpOp P ops (fun _ _ _ => False) f.i K a w := by
  obtain ⟨ty, pos, af, hop⟩ := hF.op f hf
  have := hF.zero f hf
  have hoe : OE P n ⟨some f.d, .alloc f.T, ty, pos, af, none⟩ e w (NewBlk w f.T f.z.cells.toList) := OE_alloc
  unfold wpOp
  simp only [hop]
  rw [if_pos (by simp [Region.wanted])]
  refine .inl (Oper.wp_mono ?_ (hoe.h a ha _))
  rintro a' w' ⟨_, rfl, b, rfl, hb, hB, hS⟩
  exact hk b w' hb hB hS
theorem mem_idx {f : Nat} (h : f ∈ F.map Fl.i) : ∃ g ∈ F, g.i = f := by simpa using h

/-- an effect: the only one that is ready but for those that hang free -/
theorem WP_eff (hF : FlOk P n ops F) (hK : Keeps J) {J' : Value → World → List Nat → Prop} (hi : ops[i]? = some ⟨some d, op, ty, pos, af, gd⟩) (hg : gdOk ops e gd) (hp : ∀ w D, J w D → OE P n ⟨some d, op, ty, pos, af, gd⟩ e w (fun v w' => Stp [] w w' ∧ J' v w' D)) (hdn : Nat.blt d n = true) (hdF : F.all (fun f => f.d != d) = true)
    (k : ∀ v, WP P n ops Lt Q F rest join ((d, v) :: e) (J' v)) : WP P n ops Lt Q F ((i, 2) :: rest) join e J := by
  refine ⟨fun listed hs hB hE => ?_⟩
  simp only [checkP, Bool.and_eq_true] at hB
  obtain ⟨⟨h1, hni⟩, h3⟩ := hB
  have hni' : (F.map Fl.i).contains i = false := by simpa using hni
  have key : ∀ (m : Nat) (rem : List Nat), rem.length = m → rem.Sublist (F.map Fl.i) → ∀ done w D a, FlAt F rem done w D a → J w D → Has n e a →
      wpAnyE P .any ops [] (fun j => Lt.contains j) (fun a w => Q .normal a w) (wt ((i, 2) :: rest) + rem.length + wt join) (lst listed (F.map Fl.i) rem) a w := by
    intro m
    induction m with
    | zero =>
      intro rem hl hrem done w D a hat hJ ha
      have h2 := List.all_eq_true.1 h1 rem (subs_mem hrem)
      simp only [Bool.and_eq_true] at h2
      rw [wt_small (by decide), show wt rest + 1 + rem.length + wt join = (wt rest + rem.length + wt join) + 1 by omega]
      refine ⟨fun h0 => by rw [h0] at h2; simp at h2, fun j hj => ?_⟩
      have hj2 := List.all_eq_true.1 h2.2 j hj
      obtain rfl := List.length_eq_zero_iff.1 hl
      obtain rfl : j = i := by simpa using hj2
      unfold wpOp
      simp only [hi]
      rw [if_pos (wanted_ok ha hg)]
      refine .inl (Oper.wp_mono ?_ ((hp w D hJ).h a ha _))
      rintro a' w' ⟨v, rfl, hS, hJ'⟩
      refine ⟨.inl hS, ?_⟩
      rw [lst_set hni']
      exact (k v).h _ hs h3 (look_fresh hdF hE) [] hrem done w' D _ ((hat.put hdF).world hS (fun b hb => hb)) hJ' (ha.put (v := v) hdn)
    | succ m ih =>
      intro rem hl hrem done w D a hat hJ ha
      have h2 := List.all_eq_true.1 h1 rem (subs_mem hrem)
      simp only [Bool.and_eq_true] at h2
      rw [wt_small (by decide), show wt rest + 1 + rem.length + wt join = (wt rest + rem.length + wt join) + 1 by omega]
      refine ⟨fun h0 => by rw [h0] at h2; simp at h2, fun j hj => ?_⟩
      have hj2 := List.all_eq_true.1 h2.2 j hj
      by_cases hji : j = i
      · subst hji
        unfold wpOp
        simp only [hi]
        rw [if_pos (wanted_ok ha hg)]
        refine .inl (Oper.wp_mono ?_ ((hp w D hJ).h a ha _))
        rintro a' w' ⟨v, rfl, hS, hJ'⟩
        refine ⟨.inl hS, ?_⟩
        rw [lst_set hni']
        exact (k v).h _ hs h3 (look_fresh hdF hE) rem hrem done w' D _ ((hat.put hdF).world hS (fun b hb => hb)) hJ' (ha.put (v := v) hdn)
      · have hjr : j ∈ rem := by simpa [hji] using hj2
        obtain ⟨f, hf, rfl⟩ := mem_idx (hrem.subset hjr)
        refine alloc_free hF hf (fun b w' hb hB hS => ?_) ha
        refine ⟨.inl hS, ?_⟩
        rw [lst_step (hrem.nodup hF.idx) hrem hjr]
        have hlen : (rem.erase f.i).length = m := by rw [List.length_erase_of_mem hjr]; omega
        have := ih (rem.erase f.i) hlen (List.erase_sublist.trans hrem) _ w' (b :: D) _ (hat.next hF hf hjr (hrem.nodup hF.idx) hb hB hS ha) (hK w w' D (b :: D) hJ hS (fun c hc => by
          rcases List.mem_cons.1 hc with rfl | hc
          · exact .inr ⟨hb, hB.lt⟩
          · exact .inl hc)) (ha.beside (hE f hf))
        rw [wt_small (by decide)] at this
        rw [show wt rest + rem.length + wt join = wt rest + 1 + (rem.erase f.i).length + wt join by omega]
        exact this
  intro rem hrem done w D a hat hJ ha
  exact key rem.length rem rfl hrem done w D a hat hJ ha

theorem WP_ex {σ : Type} {main : List (Nat × Nat)} {J : σ → World → List Nat → Prop} (h : ∀ s, WP P n ops Lt Q F main join e (J s)) : WP P n ops Lt Q F main join e (fun w D => ∃ s, J s w D) :=
  ⟨fun listed hs hB hE rem hrem done w D a hat ⟨s, hJ⟩ ha => (h s).h listed hs hB hE rem hrem done w D a hat hJ ha⟩
theorem WP_and {main : List (Nat × Nat)} {p : Prop} (h : p → WP P n ops Lt Q F main join e J) : WP P n ops Lt Q F main join e (fun w D => p ∧ J w D) :=
  ⟨fun listed hs hB hE rem hrem done w D a hat ⟨hp, hJ⟩ ha => (h hp).h listed hs hB hE rem hrem done w D a hat hJ ha⟩
theorem WP_mono {main : List (Nat × Nat)} {J' : World → List Nat → Prop} (hJ : ∀ w D, J w D → J' w D) (h : WP P n ops Lt Q F main join e J') : WP P n ops Lt Q F main join e J :=
  ⟨fun listed hs hB hE rem hrem done w D a hat hJ' ha => h.h listed hs hB hE rem hrem done w D a hat (hJ _ _ hJ') ha⟩
/-- all have come -/
theorem WP_join (hF : FlOk P n ops F) (hK : Keeps J)
    (fin : ∀ w D done a, FlAt F [] done w D a → J w D → Has n e a → ∃ e', Has n e' a ∧ WD P n ops [] Lt Q join e' w) : WP P n ops Lt Q F [] join e J := by
  refine ⟨fun listed hs hB hE => ?_⟩
  simp only [checkP, Bool.and_eq_true] at hB
  obtain ⟨h1, h3⟩ := hB
  have key : ∀ (m : Nat) (rem : List Nat), rem.length = m → rem.Sublist (F.map Fl.i) → ∀ done w D a, FlAt F rem done w D a → J w D → Has n e a →
      wpAnyE P .any ops [] (fun j => Lt.contains j) (fun a w => Q .normal a w) (wt [] + rem.length + wt join) (lst listed (F.map Fl.i) rem) a w := by
    intro m
    induction m with
    | zero =>
      intro rem hl hrem done w D a hat hJ ha
      obtain rfl := List.length_eq_zero_iff.1 hl
      obtain ⟨e', he', hk⟩ := fin w D done a hat hJ ha
      have := hk.h _ hs h3 a he'
      simpa [wt] using this
    | succ m ih =>
      intro rem hl hrem done w D a hat hJ ha
      have h2 := List.all_eq_true.1 h1 rem (subs_mem hrem)
      have hne : rem ≠ [] := fun h => by subst h; simp at hl
      have h2' : Region.ready .any ops (lst listed (F.map Fl.i) rem) = rem := by
        cases rem with
        | nil => exact absurd rfl hne
        | cons x r => simpa using h2
      rw [show wt [] + rem.length + wt join = (m + wt join) + 1 by simp [wt]; omega]
      refine ⟨fun h0 => absurd (h2'.symm.trans h0) hne, fun j hj => ?_⟩
      rw [h2'] at hj
      obtain ⟨f, hf, rfl⟩ := mem_idx (hrem.subset hj)
      refine alloc_free hF hf (fun b w' hb hB hS => ?_) ha
      refine ⟨.inl hS, ?_⟩
      rw [lst_step (hrem.nodup hF.idx) hrem hj]
      have hlen : (rem.erase f.i).length = m := by rw [List.length_erase_of_mem hj]; omega
      have := ih (rem.erase f.i) hlen (List.erase_sublist.trans hrem) _ w' (b :: D) _ (hat.next hF hf hj (hrem.nodup hF.idx) hb hB hS ha) (hK w w' D (b :: D) hJ hS (fun c hc => by
        rcases List.mem_cons.1 hc with rfl | hc
        · exact .inr ⟨hb, hB.lt⟩
        · exact .inl hc)) (ha.beside (hE f hf))
      rw [show m + wt join = wt [] + (rem.erase f.i).length + wt join by simp [wt]; omega]
      exact this
  intro rem hrem done w D a hat hJ ha
  exact key rem.length rem rfl hrem done w D a hat hJ ha
/-- two have come -/
theorem WP_join2 {f g : Fl} (hF : FlOk P n ops [f, g]) (hK : Keeps J) (hfg : f.i ≠ g.i)
    (fin : ∀ w D b c, J w D → b ∈ D → c ∈ D → b ≠ c → Blk w b f.T f.z.cells.toList → Blk w c g.T g.z.cells.toList → WD P n ops [] Lt Q join ((f.d, .pointer (some ⟨b, 0, none⟩)) :: (g.d, .pointer (some ⟨c, 0, none⟩)) :: e) w) : WP P n ops Lt Q [f, g] [] join e J := by
  refine WP_join hF hK (fun w D done a hat hJ ha => ?_)
  obtain ⟨b, hb⟩ : ∃ b, (f, b) ∈ done := by simpa using hat.all f (by simp)
  obtain ⟨c, hc⟩ : ∃ c, (g, c) ∈ done := by simpa using hat.all g (by simp)
  have hbc : b ≠ c := fun h => hfg (by
    have := hat.inj _ hb _ hc h
    exact congrArg (fun p => p.1.i) this)
  exact ⟨_, (ha.cons (hat.val _ hc)).cons (hat.val _ hb), fin w D b c hJ (hat.mem _ hb).2 (hat.mem _ hc).2 hbc (hat.blk _ hb) (hat.blk _ hc)⟩
theorem WP_join1 {f : Fl} (hF : FlOk P n ops [f]) (hK : Keeps J)
    (fin : ∀ w D b, J w D → b ∈ D → Blk w b f.T f.z.cells.toList → WD P n ops [] Lt Q join ((f.d, .pointer (some ⟨b, 0, none⟩)) :: e) w) : WP P n ops Lt Q [f] [] join e J := by
  refine WP_join hF hK (fun w D done a hat hJ ha => ?_)
  obtain ⟨b, hb⟩ : ∃ b, (f, b) ∈ done := by simpa using hat.all f (by simp)
  exact ⟨_, ha.cons (hat.val _ hb), fin w D b hJ (hat.mem _ hb).2 (hat.blk _ hb)⟩
theorem WP_with {main : List (Nat × Nat)} (hF : FlOk P n ops F) (h : FlOk P n ops F → WP P n ops Lt Q F main join e J) : WP P n ops Lt Q F main join e J := h hF
/-- such a region -/
theorem WC_drawnP {id : Nat} {l : List Oper} (m : Nat) (F : List Fl) (Lt : List Nat) (main join : List (Nat × Nat)) {w : World} (J : World → List Nat → Prop) (hlm : l.length = m) (hm : P.follows .mixedOrders = true) (hs : Region.noSelect l.toArray = true)
    (hl : Nat.beq (wt main + F.length + wt join) l.length = true) (hB : checkP l.toArray Lt (F.map Fl.i) main join (Array.replicate m false) = true) (hE : ∀ f ∈ F, look e f.d = none)
    (h0 : ∀ w', Stp [] w w' → J w' []) (h : WP P n l.toArray Lt Q F main join e J) : WC P n (.region id l.toArray true) Q e w := by
  subst hlm
  refine ⟨fun a ha => wp_region_any hm ?_⟩
  have hall : lst (Array.replicate l.length false) (F.map Fl.i) (F.map Fl.i) = Array.replicate l.length false := lst_all _ _
  have h1 := h.h _ hs hB hE (F.map Fl.i) (List.Sublist.refl _) [] { w with drawn := w.drawn + 1 } [] a ⟨fun f hf => .inl (List.mem_map.2 ⟨f, hf, rfl⟩), by simp, by simp, by simp, by simp, by simp⟩ (h0 _ (Stp.drew [] w)) ha
  rw [hall, List.length_map] at h1
  have h2 := wpAny_of_E (Q := Q) (fun a w hz => hz) _ _ _ _ h1
  rw [Nat.eq_of_beq_eq_true hl] at h2
  simpa using h2
end rules
end Go.Eng

namespace Go.Eng
open Go Go.RowKit Go.Proofs
set_option linter.unusedVariables false
section post
variable {P : Program} {n : Nat} {fn : Func} {R : Ending → World → Prop} {e : Env} {w : World} {Q : Exit → Act → World → Prop}
/-- two results that are structs -/
theorem WQ_retcc {t u b c T U T' U' m k : Nat} {D E : TypeDesc} {cs ds : List Value} (hr : fn.results = #[.cell t T', .cell u U']) [hu : Und P T' D] [hu2 : Und P U' E] (hA : aggB D = true) (hA2 : aggB E = true) [hs : Siz P T' m] [hs2 : Siz P U' k] (ht : look e t = some (.pointer (some ⟨b, 0, none⟩))) (hb : Blk w b T cs) (hl : cs.length = m)
    (ht2 : look e u = some (.pointer (some ⟨c, 0, none⟩))) (hb2 : Blk w c U ds) (hl2 : ds.length = k) (h : R (.returned (.tuple #[.agg cs.toArray, .agg ds.toArray])) w) : WQ n (bodyPost P fn R) .ret e w :=
  ⟨fun a ha => ⟨ha.defers, .tuple #[.agg cs.toArray, .agg ds.toArray], by
    have h1 := ha.vals _ _ ht
    have h2 := ha.vals _ _ ht2
    rw [Array.getD_eq_getD_getElem?] at h1 h2
    simp [results, hr, h1, h2, asAddr, loadVar_blk hA hb hl, loadVar_blk hA2 hb2 hl2], h⟩⟩
end post
end Go.Eng
namespace Go.Proofs.YtgpibcgebpgmiaaDoor
open Go Go.Eng Go.RowKit
set_option linter.unusedVariables false
theorem Size_any (x : Nd) : ∀ (X : List Nat) (v : Value) (w : World), sizeN x ≤ 1000000000 → NdV X w v x →
    Calls Tryd.prog 10 #[v] w (Ret fun r w' => r = .int .i64 (sizeN x : Int) ∧ Stp [] w w') := by
  induction x using Nd.ind with
  | h k n s l ih =>
  intro X v w hb hx
  generalize hxe : Nd.mk k n s l = x at *
  have ih' : ∀ y ∈ x.kids, ∀ (X : List Nat) (v : Value) (w : World), sizeN y ≤ 1000000000 → NdV X w v y → Calls Tryd.prog 10 #[v] w (Ret fun r w' => r = .int .i64 (sizeN y : Int) ∧ Stp [] w w') := by
    subst hxe; exact ih
  clear ih hxe k n s l
  obtain ⟨kv, rfl, hs⟩ := hx
  have hmax := hs.max
  have hall := sizeN_eq x
  refine calls_of_WC1 (n := 21) Tryd.func10 rfl rfl rfl ?_
  refine W ?_
  refine WL_eff (OE_box rfl) rfl ?_
  rintro _ w1 ⟨b, rfl, hbb, hblk, hS⟩
  replace hblk : Blk w1 b _ (ndC x kv) := hblk
  replace hs := hs.up hS
  refine W ?_
  have hs0 := hs
  have hblk0 := hblk
  refine WC_loop (σ := Nat) (fun k => [(1, .pointer (some ⟨b, 0, none⟩)), (3, .int .i64 ((1 + ((x.kids.take k).map sizeN).sum : Nat) : Int)), (4, .int .i64 k)]) (fun k w' => k ≤ x.kids.length ∧ Stp [] w1 w') (fun k => x.kids.length - k) 0 ⟨rfl, rfl, rfl, trivial⟩ ⟨Nat.zero_le _, Stp.refl _ _⟩ ?_
  clear hs hblk
  rintro k w2 ⟨hk, hS2⟩
  have hs := hs0.up hS2
  have hblk := hblk0.up hS2
  by_cases hlt : k < x.kids.length
  · obtain ⟨kv2, hs2, hc2⟩ := hs.nd hlt
    have hkid := size_kid (List.getElem_mem hlt)
    have hpre : ((x.kids.take (k + 1)).map sizeN).sum ≤ (x.kids.map sizeN).sum := by
      conv => rhs; rw [← List.take_append_drop (k + 1) x.kids]
      rw [List.map_append, List.sum_append]
      omega
    have hstep : ((x.kids.take (k + 1)).map sizeN).sum = ((x.kids.take k).map sizeN).sum + sizeN x.kids[k] := by
      rw [List.take_succ_eq_append_getElem hlt, List.map_append, List.sum_append]
      simp
    repeat' (first | refine W1 ?_ | (exfalso; omega) | refine WL_split rfl rfl (fun hg => ?_) (fun hg => ?_) | refine WL_splitB rfl rfl (fun hg => ?_) (fun hg => ?_) | refine WC_cond rfl (fun hc => ?_) (fun hc => ?_) | refine WC_condB rfl (fun hc => ?_) (fun hc => ?_))
    apply WL_pure (PR_loadNd rfl rfl hs hlt hc2) rfl
    refine WL_eff (OE_call rfl (evs1 rfl) (ih' x.kids[k] (List.getElem_mem hlt) X _ _ (by omega) ⟨kv2, rfl, hs2⟩)) rfl ?_
    rintro _ w3 ⟨rfl, hS3⟩
    refine W ?_
    refine WQ_loop (k + 1) ⟨rfl, ?_, rfl, trivial⟩ ⟨hlt, hS2.trans hS3⟩ (by omega)
    rw [hstep]
    show some _ = some _
    congr 2
    omega
  · have hke : k = x.kids.length := by omega
    subst hke
    rw [List.take_length]
    repeat' (first | refine W1 ?_ | (exfalso; omega) | refine WL_split rfl rfl (fun hg => ?_) (fun hg => ?_) | refine WL_splitB rfl rfl (fun hg => ?_) (fun hg => ?_) | refine WC_cond rfl (fun hc => ?_) (fun hc => ?_) | refine WC_condB rfl (fun hc => ?_) (fun hc => ?_))
    first | refine WQ_ret1 rfl rfl ?_ | refine WQ_ret2 rfl rfl rfl ?_ | refine WQ_ret3 rfl rfl rfl rfl ?_ | refine WQ_ret0 rfl ?_ | refine WQ_end0 rfl ?_
    refine .mk ⟨?_, hS.trans hS2⟩
    rw [hall]
/-- a part of a tree, and the tree in which it is replaced by m -/
inductive PartR (m : Nd) : Nd → Nd → Nd → Prop
  | here (n : Nd) : PartR m n n m
  | kid (n : Nd) (i : Nat) (hi : i < n.kids.length) (a b : Nd) (h : PartR m n.kids[i] a b) : PartR m n a (.mk n.kind n.num n.word (n.kids.set i b))
theorem sum_set (l : List Nat) (i : Nat) (h : i < l.length) (a : Nat) : (l.set i a).sum + l[i] = l.sum + a := by
  induction l generalizing i with
  | nil => simp at h
  | cons x l ih =>
    cases i with
    | zero => simp; omega
    | succ i =>
      have := ih i (by simpa using h)
      simp only [List.set_cons_succ, List.sum_cons, List.getElem_cons_succ]
      omega
theorem PartR.size {m n a b : Nd} (h : PartR m n a b) : sizeN a ≤ sizeN n ∧ sizeN b ≤ sizeN n + sizeN m := by
  induction h with
  | here n => exact ⟨Nat.le_refl _, by omega⟩
  | kid n i hi a b h ih =>
    have hk := size_kid (List.getElem_mem hi)
    refine ⟨by omega, ?_⟩
    rw [sizeN_eq (.mk _ _ _ _), sizeN_eq n]
    show 1 + ((n.kids.set i b).map sizeN).sum ≤ _
    rw [List.map_set]
    have := sum_set (n.kids.map sizeN) i (by simpa using hi) (sizeN b)
    simp only [List.getElem_map] at this
    omega
end Go.Proofs.YtgpibcgebpgmiaaDoor

namespace Go.Proofs.YtgpibcgebpgmiaaDoor
open Go Go.Eng Go.RowKit
set_option linter.unusedVariables false
/-- the sum of the sizes of the first kids -/
abbrev pre (l : List Nd) (j : Nat) : Nat := ((l.take j).map sizeN).sum
theorem pre_succ {l : List Nd} {j : Nat} (h : j < l.length) : pre l (j + 1) = pre l j + sizeN l[j] := by
  unfold pre
  rw [List.take_succ_eq_append_getElem h, List.map_append, List.sum_append]
  simp
theorem pre_le (l : List Nd) (j : Nat) : pre l j ≤ (l.map sizeN).sum := by
  unfold pre
  conv => rhs; rw [← List.take_append_drop j l]
  rw [List.map_append, List.sum_append]
  omega
theorem pre_all (l : List Nd) : pre l l.length = (l.map sizeN).sum := by unfold pre; rw [List.take_length]
/-- what the loop has found -/
def Fnd (m x : Nd) (at0 : Nat) (j : Nat) (p : Nd) (ks : List Nd) : Prop :=
  (pre x.kids j < at0 ∧ p = x ∧ ks = x.kids.take j) ∨ (at0 ≤ pre x.kids j ∧ ∃ i b, ∃ hi : i < x.kids.length, i < j ∧ PartR m x.kids[i] p b ∧ ks = (x.kids.set i b).take j)
theorem Fnd.len {m x p : Nd} {at0 j : Nat} {ks : List Nd} (h : Fnd m x at0 j p ks) (hj : j ≤ x.kids.length) : ks.length = j := by
  rcases h with ⟨_, _, rfl⟩ | ⟨_, i, b, hi, _, _, rfl⟩ <;> simp <;> omega
theorem Fnd.skip {m x p : Nd} {at0 j : Nat} {ks : List Nd} (h : Fnd m x at0 j p ks) (hj : j < x.kids.length) (hn : pre x.kids (j + 1) < at0 ∨ at0 ≤ pre x.kids j) : Fnd m x at0 (j + 1) p (ks ++ [x.kids[j]]) := by
  have hs := pre_succ hj
  have hp := size_pos x.kids[j]
  rcases h with ⟨h1, rfl, rfl⟩ | ⟨h1, i, b, hi, hij, hr, rfl⟩
  · left
    refine ⟨by omega, rfl, ?_⟩
    rw [List.take_succ_eq_append_getElem hj]
  · right
    refine ⟨by omega, i, b, hi, by omega, hr, ?_⟩
    rw [List.take_succ_eq_append_getElem (by simpa using hj), List.getElem_set_ne (by omega)]
theorem Fnd.hit {m x p a b : Nd} {at0 j : Nat} {ks : List Nd} (h : Fnd m x at0 j p ks) (hj : j < x.kids.length) (h1 : pre x.kids j < at0) (h2 : at0 ≤ pre x.kids (j + 1)) (hr : PartR m x.kids[j] a b) : Fnd m x at0 (j + 1) a (ks ++ [b]) := by
  rcases h with ⟨_, rfl, rfl⟩ | ⟨h1', _⟩
  · right
    refine ⟨h2, j, b, hj, by omega, hr, ?_⟩
    rw [List.take_succ_eq_append_getElem (by simpa using hj), List.getElem_set_self, List.take_set_of_le (by omega)]
  · omega
theorem Fnd.fin {m x p : Nd} {at0 : Nat} {ks : List Nd} (h : Fnd m x at0 x.kids.length p ks) (h1 : at0 < sizeN x) : PartR m x p (.mk x.kind x.num x.word ks) := by
  rw [sizeN_eq] at h1
  rcases h with ⟨h2, _⟩ | ⟨_, i, b, hi, _, hr, rfl⟩
  · rw [pre_all] at h2; omega
  · rw [List.take_of_length_le (by simp)]
    exact .kid x i hi _ _ hr
theorem NdV.parts {X : List Nat} {w : World} {v : Value} {x : Nd} (h : NdV X w v x) : ∃ p c, v = .agg #[.int .i64 x.kind, .int .i64 x.num, str x.word, .slice p x.kids.length c] ∧ SlV X w (.slice p x.kids.length c) x.kids := by
  obtain ⟨kv, rfl, hs⟩ := h
  obtain ⟨p, c, rfl, -⟩ := id hs
  exact ⟨p, c, rfl, hs⟩
theorem slv1 {X : List Nat} {w w' : World} {y : Nd} {p : Option Addr} {c : Nat} {bv : Value} (hN : NewSl w 25 1 [.int .i64 y.kind, .int .i64 y.num, str y.word, .slice p y.kids.length c] bv w') (hX : ∀ b ∈ X, b < w.heap.size) (hy : SlV X w (.slice p y.kids.length c) y.kids) : SlV X w' bv [y] :=
  hN.slvG (css := [ndC y _]) hX rfl rfl rfl (fun i hi hi' => by
    have : i = 0 := by simp at hi; exact hi
    subst this
    show NRep _ _ y _
    rw [y.eta]
    exact slv_nrep hy) (by simp [maxLen])
set_option maxHeartbeats 1600000 in
theorem Part_any (x : Nd) : ∀ (m : Nd) (X : List Nat) (v u : Value) (w : World) (a0 : Nat), a0 < sizeN x → sizeN x ≤ 1000000 → (∀ b ∈ X, b < w.heap.size) → NdV X w v x → NdV X w u m →
    Calls Tryd.prog 8 #[v, .int .i64 (a0 : Int), u] w (Ret fun r w' => ∃ va vb a b, r = .tuple #[va, vb] ∧ PartR m x a b ∧ NdV X w' va a ∧ NdV X w' vb b ∧ Stp [] w w') := by
  induction x using Nd.ind with
  | h k n s l ih =>
  intro m X v u w a0 ha0 hbig hX hx hu
  generalize hxe : Nd.mk k n s l = x at *
  have ih' : ∀ i (h : i < x.kids.length), ∀ (X : List Nat) (v u : Value) (w : World) (z : Int) (a0 : Nat), z = (a0 : Int) → a0 < sizeN x.kids[i] → sizeN x.kids[i] ≤ 1000000 → (∀ b ∈ X, b < w.heap.size) → NdV X w v x.kids[i] → NdV X w u m →
      Calls Tryd.prog 8 #[v, .int .i64 z, u] w (Ret fun r w' => ∃ va vb a b, r = .tuple #[va, vb] ∧ PartR m x.kids[i] a b ∧ NdV X w' va a ∧ NdV X w' vb b ∧ Stp [] w w') := by
    subst hxe
    rintro i h X v u w z a0 rfl
    exact ih _ (List.getElem_mem h) m X v u w a0
  clear ih hxe k n s l
  obtain ⟨kv, rfl, hs⟩ := hx
  obtain ⟨mv, rfl, hm⟩ := hu
  have hmax := hs.max
  have hall := sizeN_eq x
  have hlen := len_le_sum x.kids
  refine calls_of_WC3 (n := 81) Tryd.func8 rfl rfl rfl ?_
  refine W ?_
  refine WL_eff (OE_box rfl) rfl ?_
  rintro _ w1 ⟨b3, rfl, hb3, hblk3, hS⟩
  replace hblk3 : Blk w1 b3 25 (ndC x kv) := hblk3
  refine WL_eff (OE_box rfl) rfl ?_
  rintro _ w2 ⟨b5, rfl, hb5, hblk5, hT⟩
  replace hblk5 : Blk w2 b5 25 (ndC m mv) := hblk5
  have l3 := hblk3.lt
  replace hblk3 := hblk3.up hT
  have hsz := hS.size
  replace hS := hS.trans hT
  clear hT
  refine WL_eff OE_alloc rfl ?_
  rintro _ w3 ⟨b6, rfl, hb6, hblk6, hT⟩
  have l5 := hblk5.lt
  replace hblk3 := hblk3.up hT
  replace hblk5 := hblk5.up hT
  replace hS := hS.trans hT
  clear hT
  refine WL_eff OE_alloc rfl ?_
  rintro _ w4 ⟨b7, rfl, hb7, hblk7, hT⟩
  have l6 := hblk6.lt
  have l7 := hblk7.lt
  replace hblk3 := hblk3.up hT
  replace hblk5 := hblk5.up hT
  replace hblk6 := hblk6.up hT
  replace hS := hS.trans hT
  clear hT
  replace hs : SlV (b6 :: b7 :: X) w4 kv x.kids := hs.ext hS (by simp) (fun b hb => by
    simp only [List.mem_cons] at hb
    rcases hb with rfl | rfl | hb
    · exact .inr (by omega)
    · exact .inr (by omega)
    · exact .inl hb)
  replace hm : SlV (b6 :: b7 :: X) w4 mv m.kids := hm.ext hS (by simp) (fun b hb => by
    simp only [List.mem_cons] at hb
    rcases hb with rfl | rfl | hb
    · exact .inr (by omega)
    · exact .inr (by omega)
    · exact .inl hb)
  have hXl : ∀ c ∈ b6 :: b7 :: X, c < w4.heap.size := fun c hc => by
    simp only [List.mem_cons] at hc
    rcases hc with rfl | rfl | hc
    · omega
    · exact l7
    · have := hX c hc; have := hS.size; omega
  by_cases hz : a0 = 0
  · subst hz
    repeat' (first | refine W1 ?_ | (exfalso; omega) | refine WL_split rfl rfl (fun hg => ?_) (fun hg => ?_) | refine WL_splitB rfl rfl (fun hg => ?_) (fun hg => ?_) | refine WC_cond rfl (fun hc => ?_) (fun hc => ?_) | refine WC_condB rfl (fun hc => ?_) (fun hc => ?_))
    · refine WC_drawn 4 ([b6, b7]) [] [(0, 1), (1, 1), (2, 2), (3, 2)] rfl mixed (by kernel_rfl) (by kernel_rfl) (by kernel_rfl) (fun w1 hS1 => ?_)
      replace hblk3 := hblk3.up (hS1.mono (by simp))
      replace hblk5 := hblk5.up (hS1.mono (by simp))
      replace hblk6 := hblk6.up (hS1.mono (by simp))
      replace hblk7 := hblk7.up (hS1.mono (by simp))
      replace hs := hs.up hS1
      replace hm := hm.up hS1
      replace hS := hS.trans hS1
      clear hS1
      refine D ?_
      refine WD_eff0 rfl trivial (OE_storeA (us := ndC x kv) rfl rfl rfl rfl (ndC_one hs) hblk6 rfl) (fun _ _ h => h.1.mono (by simp)) ?_
      rintro _ w6 ⟨hT, hblk6'⟩
      replace hblk7 := hblk7.ext hT (by simp; omega)
      replace hs := hs.ext (X' := b6 :: b7 :: X) hT (fun c hc => by simp at hc; simp [hc]) (fun c hc => .inl hc)
      replace hm := hm.ext (X' := b6 :: b7 :: X) hT (fun c hc => by simp at hc; simp [hc]) (fun c hc => .inl hc)
      replace hS := hS.own hT (fun c hc => .inr (by simp at hc; omega))
      clear hT
      refine D ?_
      refine WD_eff0 rfl trivial (OE_storeA (us := ndC m mv) rfl rfl rfl rfl (ndC_one hm) hblk7 rfl) (fun _ _ h => h.1.mono (by simp)) ?_
      rintro _ w7 ⟨hT, hblk7'⟩
      have hblk6'' := hblk6'.ext hT (by simp; omega)
      replace hs := hs.ext (X' := b6 :: b7 :: X) hT (fun c hc => by simp at hc; simp [hc]) (fun c hc => .inl hc)
      replace hm := hm.ext (X' := b6 :: b7 :: X) hT (fun c hc => by simp at hc; simp [hc]) (fun c hc => .inl hc)
      replace hS := hS.own hT (fun c hc => .inr (by simp at hc; omega))
      refine D ?_
      refine W ?_
      refine WQ_retcc rfl rfl rfl rfl hblk6'' rfl rfl hblk7' rfl ?_
      exact .mk ⟨_, _, x, m, rfl, .here x, ⟨kv, rfl, hs.wk (fun c hc => by simp [hc])⟩, ⟨mv, rfl, hm.wk (fun c hc => by simp [hc])⟩, hS⟩
  · repeat' (first | refine W1 ?_ | (exfalso; omega) | refine WL_split rfl rfl (fun hg => ?_) (fun hg => ?_) | refine WL_splitB rfl rfl (fun hg => ?_) (fun hg => ?_) | refine WC_cond rfl (fun hc => ?_) (fun hc => ?_) | refine WC_condB rfl (fun hc => ?_) (fun hc => ?_))
    apply WL_build (vs := [(0, .int .i64 x.kind), (1, .int .i64 x.num), (2, str x.word)]) rfl (buildN3 _ _ _) rfl
    refine WL_eff OE_alloc rfl ?_
    rintro _ w5 ⟨b8, rfl, hb8, hblk8, hT⟩
    refine WL_eff0 (OE_storeA (us := [.int .i64 x.kind, .int .i64 x.num, str x.word, .slice none 0 0]) rfl rfl rfl rfl (by simp; refine ⟨rfl, rfl, rfl, rfl⟩) hblk8 rfl) ?_
    rintro _ w6 ⟨hT2, hblk8⟩
    have l8 := hblk8.lt
    replace hT := hT.own hT2 (fun c hc => .inr (by simp at hc; omega))
    clear hT2
    replace hblk3 := hblk3.up hT
    replace hblk5 := hblk5.up hT
    replace hblk6 := hblk6.up hT
    replace hblk7 := hblk7.up hT
    replace hS := hS.trans hT
    replace hs : SlV (b8 :: b6 :: b7 :: X) w6 kv x.kids := hs.ext hT (by simp) (fun b hb => by
      rcases List.mem_cons.1 hb with rfl | hb
      · exact .inr hb8
      · exact .inl hb)
    replace hm : SlV (b8 :: b6 :: b7 :: X) w6 mv m.kids := hm.ext hT (by simp) (fun b hb => by
      rcases List.mem_cons.1 hb with rfl | hb
      · exact .inr hb8
      · exact .inl hb)
    replace hXl : ∀ c ∈ b8 :: b6 :: b7 :: X, c < w6.heap.size := fun c hc => by
      rcases List.mem_cons.1 hc with rfl | hc
      · exact l8
      · have := hXl c hc; have := hT.size; omega
    clear hT
    have hb68 : b6 < b8 := by omega
    refine W ?_
    refine WL_eff OE_alloc rfl ?_
    rintro _ w7 ⟨b9, rfl, hb9, hblk9, hT⟩
    refine WL_eff0 (OE_storeA (us := ndC x kv) rfl rfl rfl rfl (ndC_one hs) hblk9 rfl) ?_
    rintro _ w8 ⟨hT2, hblk9⟩
    have l9 := hblk9.lt
    replace hT := hT.own hT2 (fun c hc => .inr (by simp at hc; omega))
    clear hT2
    replace hblk3 := hblk3.up hT
    replace hblk5 := hblk5.up hT
    replace hblk6 := hblk6.up hT
    replace hblk7 := hblk7.up hT
    replace hblk8 := hblk8.up hT
    replace hS := hS.trans hT
    replace hs : SlV (b9 :: b8 :: b6 :: b7 :: X) w8 kv x.kids := hs.ext hT (by simp) (fun b hb => by
      rcases List.mem_cons.1 hb with rfl | hb
      · exact .inr hb9
      · exact .inl hb)
    replace hm : SlV (b9 :: b8 :: b6 :: b7 :: X) w8 mv m.kids := hm.ext hT (by simp) (fun b hb => by
      rcases List.mem_cons.1 hb with rfl | hb
      · exact .inr hb9
      · exact .inl hb)
    replace hXl : ∀ c ∈ b9 :: b8 :: b6 :: b7 :: X, c < w8.heap.size := fun c hc => by
      rcases List.mem_cons.1 hc with rfl | hc
      · exact l9
      · have := hXl c hc; have := hT.size; omega
    clear hT
    refine W ?_
    have hs0 := hs
    have hm0 := hm
    refine WC_loop (σ := Nat × Value × List Nd × Nd × Value) (fun q => [(1, .int .i64 ((a0 : Int) - 1 - (pre x.kids q.1 : Int))), (3, .pointer (some ⟨b3, 0, none⟩)), (5, .pointer (some ⟨b5, 0, none⟩)), (6, .pointer (some ⟨b6, 0, none⟩)), (7, .pointer (some ⟨b7, 0, none⟩)), (8, .pointer (some ⟨b8, 0, none⟩)), (9, .pointer (some ⟨b9, 0, none⟩)), (10, .int .i64 (q.1 : Int))])
      (fun q w' => q.1 ≤ x.kids.length ∧ Fnd m x a0 q.1 q.2.2.2.1 q.2.2.1 ∧ Row (b9 :: b8 :: b6 :: b7 :: X) w' w8.heap.size 25 q.2.1 q.2.2.1 ∧ Blk w' b8 25 [.int .i64 x.kind, .int .i64 x.num, str x.word, q.2.1] ∧ Blk w' b9 25 (ndC q.2.2.2.1 q.2.2.2.2) ∧ SlV (ob q.2.1 ++ b9 :: b8 :: b6 :: b7 :: X) w' q.2.2.2.2 q.2.2.2.1.kids ∧ Stp [b8, b9] w8 w') (fun q => x.kids.length - q.1) (0, .slice none 0 0, [], x, kv)
      ⟨by show some _ = some _; simp [pre], rfl, rfl, rfl, rfl, rfl, rfl, rfl, trivial⟩ ⟨Nat.zero_le _, .inl ⟨by simp [pre]; omega, rfl, by simp⟩, Row.nil, hblk8, hblk9, hs, Stp.refl _ _⟩ ?_
    clear hblk8 hblk9 hs hm
    rintro ⟨j, u, ks, p, pv⟩ w9 ⟨hj, hfn, hrow, hblk8, hblk9, hp, hT⟩
    dsimp only at hj hfn hrow hblk8 hblk9 hp hT ⊢
    have n98 : b9 ≠ b8 := by omega
    have hblk3' := hblk3.ext hT (by simp; omega)
    have hblk5' := hblk5.ext hT (by simp; omega)
    have hfresh : ∀ c ∈ ob u ++ b9 :: b8 :: b6 :: b7 :: X, c ∈ b9 :: b8 :: b6 :: b7 :: X ∨ w8.heap.size ≤ c := fun c hc => by
      rcases List.mem_append.1 hc with h | h
      · exact .inr (hrow.ob_le c h).1
      · exact .inl h
    have hXu : ∀ c ∈ ob u ++ b9 :: b8 :: b6 :: b7 :: X, c < w9.heap.size := fun c hc => by
      rcases List.mem_append.1 hc with h | h
      · exact (hrow.ob_le c h).2
      · exact Nat.lt_of_lt_of_le (hXl c h) hT.size
    have hs : SlV (ob u ++ b9 :: b8 :: b6 :: b7 :: X) w9 kv x.kids := hs0.ext hT (fun c hc => by simp at hc; rcases hc with rfl | rfl <;> simp) hfresh
    have hm : SlV (ob u ++ b9 :: b8 :: b6 :: b7 :: X) w9 mv m.kids := hm0.ext hT (fun c hc => by simp at hc; rcases hc with rfl | rfl <;> simp) hfresh
    have n3u : b3 ∉ ob u := fun h => by have := (hrow.ob_le b3 h).1; omega
    have n8u : b8 ∉ ob u := fun h => by have := (hrow.ob_le b8 h).1; have := hXl b8 (by simp); omega
    have n9u : b9 ∉ ob u := fun h => by have := (hrow.ob_le b9 h).1; have := hXl b9 (by simp); omega
    have hpre := pre_le x.kids j
    have hkl := hfn.len hj
    by_cases hlt : j < x.kids.length
    · obtain ⟨kv2, hk2, hc2⟩ := hs.nd hlt
      have hpre1 := pre_le x.kids (j + 1)
      have hps := pre_succ hlt
      have hkp := size_pos x.kids[j]
      repeat' (first | refine W1 ?_ | (exfalso; omega) | refine WL_split rfl rfl (fun hg => ?_) (fun hg => ?_) | refine WL_splitB rfl rfl (fun hg => ?_) (fun hg => ?_) | refine WC_cond rfl (fun hc => ?_) (fun hc => ?_) | refine WC_condB rfl (fun hc => ?_) (fun hc => ?_))
      apply WL_pure (PR_loadNd rfl rfl hs hlt hc2) rfl
      refine WL_eff (OE_call rfl (evs1 rfl) (Size_any x.kids[j] _ _ _ (by omega) ⟨kv2, rfl, hk2⟩)) rfl ?_
      rintro _ w10 ⟨rfl, hT1⟩
      replace hc2 := fun (j : Nat) (u : Value) h => cell_on hs hlt (hT1.mono (by simp)) (hc2 j u h)
      replace hblk3' := hblk3'.up hT1
      replace hblk5' := hblk5'.up hT1
      replace hblk8 := hblk8.up hT1
      replace hblk9 := hblk9.up hT1
      replace hrow := hrow.up hT1
      replace hs := hs.up hT1
      replace hm := hm.up hT1
      replace hp := hp.up hT1
      replace hk2 := hk2.up hT1
      replace hT := hT.trans (hT1.mono (by simp))
      replace hXu : ∀ c ∈ ob u ++ b9 :: b8 :: b6 :: b7 :: X, c < w10.heap.size := fun c hc => Nat.lt_of_lt_of_le (hXu c hc) hT1.size
      clear hT1
      by_cases hin : pre x.kids j < a0 ∧ a0 ≤ pre x.kids (j + 1)
      · obtain ⟨hin1, hin2⟩ := hin
        repeat' (first | refine W1 ?_ | (exfalso; omega) | refine WL_split rfl rfl (fun hg => ?_) (fun hg => ?_) | refine WL_splitB rfl rfl (fun hg => ?_) (fun hg => ?_) | refine WC_cond rfl (fun hc => ?_) (fun hc => ?_) | refine WC_condB rfl (fun hc => ?_) (fun hc => ?_))
        have hK : Keeps (fun w' D => Stp [] w10 w' ∧ ∀ c ∈ D, c < w'.heap.size ∧ w10.heap.size ≤ c) := fun w w' D D' hJ hS hD => ⟨hJ.1.trans hS, fun c hc => by
          rcases hD c hc with h | h
          · have := hJ.2 c h; have := hS.size; omega
          · have := hJ.1.size; omega⟩
        refine WC_drawnP 15 [⟨11, 12, 25, (.agg #[.int .i64 0, .int .i64 0, .string ByteArray.empty, .slice none 0 0])⟩, ⟨12, 13, 25, (.agg #[.int .i64 0, .int .i64 0, .string ByteArray.empty, .slice none 0 0])⟩] [13, 14] [(0,0),(1,1),(2,0),(3,0),(4,1),(5,0),(6,1),(7,2),(8,0),(9,0),(10,0)] [(13,2),(14,2)] (fun w' D => Stp [] w10 w' ∧ ∀ c ∈ D, c < w'.heap.size ∧ w10.heap.size ≤ c) rfl mixed (by kernel_rfl) (by kernel_rfl) (by kernel_rfl) (by intro f hf; simp at hf; rcases hf with rfl | rfl <;> rfl) (fun w' hS' => ⟨hS', by simp⟩) ?_
        refine WP_with (F := [⟨11, 12, 25, (.agg #[.int .i64 0, .int .i64 0, .string ByteArray.empty, .slice none 0 0])⟩, ⟨12, 13, 25, (.agg #[.int .i64 0, .int .i64 0, .string ByteArray.empty, .slice none 0 0])⟩]) ⟨by intro f hf; simp at hf; rcases hf with rfl | rfl <;> exact ⟨_, _, _, rfl⟩, by intro f hf; simp at hf; rcases hf with rfl | rfl <;> exact inferInstance, by intro f hf; simp at hf; rcases hf with rfl | rfl <;> rfl, by show [11, 12].Nodup; decide, by intro f hf g hg h; simp at hf hg; rcases hf with rfl | rfl <;> rcases hg with rfl | rfl <;> first | rfl | cases h⟩ (fun hF => ?_)
        refine WP_free rfl trivial (fun w' => PR_fieldAddr rfl) rfl rfl ?_
        refine WP_read hK rfl trivial (fun w D hJ => PR_load_blk rfl rfl (hblk3'.up hJ.1) rfl) rfl rfl ?_
        refine WP_free rfl trivial (fun w' => PR_move rfl) rfl rfl ?_
        refine WP_free rfl trivial (fun w' => PR_idx rfl hs rfl rfl hlt) rfl rfl ?_
        refine WP_read hK rfl trivial (fun w D hJ => PR_loadNd rfl rfl (hs.up hJ.1) hlt (fun j u hj => cell_on hs hlt (hJ.1.mono (by simp)) (hc2 j u hj))) rfl rfl ?_
        refine WP_free rfl trivial (fun w' => PR_move rfl) rfl rfl ?_
        refine WP_read hK rfl trivial (fun w D hJ => PR_load_blkA rfl rfl (hblk5'.up hJ.1) rfl) rfl rfl ?_
        refine WP_eff hF hK (J' := fun v w' D => ∃ va vb a b, v = .tuple #[va, vb] ∧ PartR m x.kids[j] a b ∧ (Stp [] w10 w' ∧ (∀ c ∈ D, c < w'.heap.size ∧ w10.heap.size ≤ c) ∧ NdV (D ++ (ob u ++ b9 :: b8 :: b6 :: b7 :: X)) w' va a ∧ NdV (D ++ (ob u ++ b9 :: b8 :: b6 :: b7 :: X)) w' vb b)) rfl trivial
          (fun w D hJ => (OE_call rfl (evs3 rfl rfl rfl) (ih' j hlt (D ++ (ob u ++ b9 :: b8 :: b6 :: b7 :: X)) _ _ w _ (a0 - 1 - pre x.kids j) (by omega) (by omega) (by omega) (fun c hc => by
            rcases List.mem_append.1 hc with h | h
            · exact (hJ.2 c h).1
            · exact Nat.lt_of_lt_of_le (hXu c h) hJ.1.size) ⟨kv2, rfl, hk2.ext hJ.1 (by simp) (fun c hc => by
            rcases List.mem_append.1 hc with h | h
            · exact .inr (hJ.2 c h).2
            · exact .inl h)⟩ ⟨mv, rfl, hm.ext hJ.1 (by simp) (fun c hc => by
            rcases List.mem_append.1 hc with h | h
            · exact .inr (hJ.2 c h).2
            · exact .inl h)⟩)).mono (fun v w' ⟨va, vb, a, b, h1, h2, h3, h4, h5⟩ => ⟨h5, va, vb, a, b, h1, h2, hJ.1.trans h5, fun c hc => ⟨Nat.lt_of_lt_of_le (hJ.2 c hc).1 h5.size, (hJ.2 c hc).2⟩, h3, h4⟩)) rfl rfl ?_
        intro vt
        refine WP_ex fun va => WP_ex fun vb => WP_ex fun pa => WP_ex fun pb => WP_and ?_
        rintro rfl
        refine WP_and fun hpr => ?_
        have hK2 : Keeps (fun w' D => Stp [] w10 w' ∧ (∀ c ∈ D, c < w'.heap.size ∧ w10.heap.size ≤ c) ∧ NdV (D ++ (ob u ++ b9 :: b8 :: b6 :: b7 :: X)) w' va pa ∧ NdV (D ++ (ob u ++ b9 :: b8 :: b6 :: b7 :: X)) w' vb pb) := fun w w' D D' hJ hS hD => by
          have hsub : ∀ c ∈ D' ++ (ob u ++ b9 :: b8 :: b6 :: b7 :: X), c ∈ D ++ (ob u ++ b9 :: b8 :: b6 :: b7 :: X) ∨ w.heap.size ≤ c := fun c hc => by
            rcases List.mem_append.1 hc with h | h
            · exact (hD c h).imp (fun h => List.mem_append_left _ h) (fun h => h.1)
            · exact .inl (List.mem_append_right _ h)
          exact ⟨hJ.1.trans hS, fun c hc => by
            rcases hD c hc with h | h
            · have := hJ.2.1 c h; have := hS.size; omega
            · have := hJ.1.size; omega, hJ.2.2.1.ext hS (by simp) hsub, hJ.2.2.2.ext hS (by simp) hsub⟩
        refine WP_free rfl trivial (fun w' => PR_move rfl) rfl rfl ?_
        refine WP_free rfl trivial (fun w' => PR_extract rfl rfl) rfl rfl ?_
        refine WP_free rfl trivial (fun w' => PR_extract rfl rfl) rfl rfl ?_
        refine WP_join2 hF hK2 (by decide) ?_
        rintro w11 DD b12 b13 ⟨hT1, hD, ⟨ka, rfl, hka⟩, ⟨kb, rfl, hkb⟩⟩ d12 d13 n12 hblk12 hblk13
        have hD12 := hD b12 d12
        have hD13 := hD b13 d13
        refine WD_late0 rfl trivial (OE_storeA (us := ndC pa ka) rfl rfl rfl rfl (ndC_one hka) hblk12 rfl) rfl ?_
        rintro _ w12 ⟨hT2, hq12⟩
        have hq13 := hblk13.ext hT2 (by simp; exact fun h => n12 h.symm)
        replace hka := hka.ext (X' := DD ++ (ob u ++ b9 :: b8 :: b6 :: b7 :: X)) hT2 (fun c hc => by simp at hc; subst hc; exact List.mem_append_left _ d12) (fun c hc => .inl hc)
        replace hkb := hkb.ext (X' := DD ++ (ob u ++ b9 :: b8 :: b6 :: b7 :: X)) hT2 (fun c hc => by simp at hc; subst hc; exact List.mem_append_left _ d12) (fun c hc => .inl hc)
        replace hT1 := hT1.own hT2 (fun c hc => by simp at hc; subst hc; exact .inr hD12.2)
        clear hT2 hblk12 hblk13
        refine WD_late0 rfl trivial (OE_storeA (us := ndC pb kb) rfl rfl rfl rfl (ndC_one hkb) hq13 rfl) rfl ?_
        rintro _ w13 ⟨hT2, hq13'⟩
        replace hq12 := hq12.ext hT2 (by simp; exact n12)
        replace hka := hka.ext (X' := ob u ++ b9 :: b8 :: b6 :: b7 :: X) hT2 (fun c hc => by simp at hc; subst hc; exact List.mem_append_left _ d13) (fun c hc => .inl (List.mem_append_right _ hc))
        replace hkb := hkb.ext (X' := ob u ++ b9 :: b8 :: b6 :: b7 :: X) hT2 (fun c hc => by simp at hc; subst hc; exact List.mem_append_left _ d13) (fun c hc => .inl (List.mem_append_right _ hc))
        replace hT1 := hT1.own hT2 (fun c hc => by simp at hc; subst hc; exact .inr hD13.2)
        clear hT2 hq13
        replace hblk8 := hblk8.up hT1
        replace hblk9 := hblk9.up hT1
        replace hrow := hrow.up hT1
        replace hT := hT.trans (hT1.mono (by simp))
        have n12u : b12 ∉ ob u := fun h => by have := hXu b12 (List.mem_append_left _ h); omega
        have n13u : b13 ∉ ob u := fun h => by have := hXu b13 (List.mem_append_left _ h); omega
        have n129 : b12 ≠ b9 := fun h => by have := hXu b9 (by simp); omega
        have n139 : b13 ≠ b9 := fun h => by have := hXu b9 (by simp); omega
        have hsz10 := hT1.size
        clear hT1 hblk3' hblk5' hs hm hk2 hc2 hp hK hK2 hF ih'
        obtain ⟨py, cy, rfl, -⟩ := id hkb
        refine D ?_
        refine W ?_
        refine WL_eff0 (OE_storeA (us := ndC pa ka) rfl rfl rfl rfl (ndC_one hka) hblk9 rfl) ?_
        rintro _ w14 ⟨hT2, hblk9⟩
        replace hblk8 := hblk8.ext hT2 (by simp; omega)
        replace hq13' := hq13'.ext hT2 (by simp; exact n139)
        replace hka := hka.ext (X' := ob u ++ b9 :: b8 :: b6 :: b7 :: X) hT2 (fun c hc => by simp at hc; simp [hc]) (fun c hc => .inl hc)
        replace hkb := hkb.ext (X' := ob u ++ b9 :: b8 :: b6 :: b7 :: X) hT2 (fun c hc => by simp at hc; simp [hc]) (fun c hc => .inl hc)
        replace hrow := hrow.ext (X' := b9 :: b8 :: b6 :: b7 :: X) hT2 (fun c hc => by simp at hc; subst hc; exact ⟨by simp, n9u⟩) (fun c hc => .inl hc)
        replace hT := hT.trans (hT2.mono (by simp))
        replace hXu : ∀ c ∈ ob u ++ b9 :: b8 :: b6 :: b7 :: X, c < w14.heap.size := fun c hc => Nat.lt_of_lt_of_le (Nat.lt_of_lt_of_le (hXu c hc) hsz10) hT2.size
        clear hT2 hq12
        refine W ?_
        refine WL_eff (OE_buildSlice (vs := [(0, .agg #[.int .i64 pb.kind, .int .i64 pb.num, str pb.word, .slice py pb.kids.length cy])]) rfl (buildSN1 _ _ _ _ _ _)) rfl ?_
        rintro bv w15 hN
        have hbv := slv1 hN hXu hkb
        have hT2 := NewSl.stp hN
        clear hN hkb hq13'
        replace hblk8 := hblk8.up hT2
        replace hblk9 := hblk9.up hT2
        replace hrow := hrow.up hT2
        replace hka := hka.up hT2
        replace hT := hT.trans (hT2.mono (by simp))
        clear hT2
        refine WL_eff (OE_append (X := b9 :: b8 :: b6 :: b7 :: X) (base := w8.heap.size) rfl (by decide) rfl rfl hrow hbv (by simp only [List.length_cons, List.length_nil]; omega) (by simp only [List.length_cons, List.length_nil, maxLen]; omega) hT.size) rfl ?_
        rintro u' w16 ⟨hrow', hT2, hob⟩
        replace hblk8 := hblk8.ext hT2 n8u
        replace hblk9 := hblk9.ext hT2 n9u
        have n8u' : b8 ∉ ob u' := fun h => by have := (hrow'.ob_le b8 h).1; have := hXl b8 (by simp); omega
        have n9u' : b9 ∉ ob u' := fun h => by have := (hrow'.ob_le b9 h).1; have := hXl b9 (by simp); omega
        replace hka := hka.ext (X' := ob u' ++ b9 :: b8 :: b6 :: b7 :: X) hT2 (fun c hc => List.mem_append_left _ hc) (fun c hc => by
          rcases List.mem_append.1 hc with h | h
          · exact (hob c h).imp (fun h => List.mem_append_left _ h) id
          · exact .inl (List.mem_append_right _ h))
        replace hT := hT.own hT2 (fun c hc => .inr (hrow.ob_le c hc).1)
        clear hT2 hob hrow hbv hXu
        have hsl' := hrow'.slv hXl
        refine W ?_
        refine WL_eff0 (OE_store1 (u := u') rfl rfl hsl'.cells hsl'.one hblk8 (by simp)) ?_
        rintro _ w17 ⟨hT2, hblk8'⟩
        replace hblk9 := hblk9.ext hT2 (by simp; omega)
        replace hrow' := hrow'.ext (X' := b9 :: b8 :: b6 :: b7 :: X) hT2 (fun c hc => by simp at hc; subst hc; exact ⟨by simp, n8u'⟩) (fun c hc => .inl hc)
        replace hka := hka.ext (X' := ob u' ++ b9 :: b8 :: b6 :: b7 :: X) hT2 (fun c hc => by simp at hc; simp [hc]) (fun c hc => .inl hc)
        replace hT := hT.trans (hT2.mono (by simp))
        clear hsl' hT2
        refine W ?_
        refine WQ_loop (j + 1, u', ks ++ [pb], pa, ka) ⟨?_, rfl, rfl, rfl, rfl, rfl, rfl, rfl, trivial⟩ ⟨hlt, hfn.hit hlt hin1 hin2 hpr, hrow', hblk8', hblk9, hka, hT⟩ (by dsimp only; omega)
        exact congrArg (fun z : Int => some (Value.int .i64 z)) (by dsimp only; omega)
      · skip
        have hout : pre x.kids (j + 1) < a0 ∨ a0 ≤ pre x.kids j := by omega
        clear ih'
        obtain ⟨py, cy, rfl, -⟩ := id hk2
        repeat' (first | refine W1 ?_ | (exfalso; omega) | refine WL_split rfl rfl (fun hg => ?_) (fun hg => ?_) | refine WL_splitB rfl rfl (fun hg => ?_) (fun hg => ?_) | refine WC_cond rfl (fun hc => ?_) (fun hc => ?_) | refine WC_condB rfl (fun hc => ?_) (fun hc => ?_))
        all_goals
          refine WC_drawn 11 (ob u) [10] [(0, 0), (1, 1), (2, 0), (3, 1), (4, 0), (5, 0), (6, 1), (7, 2), (8, 2), (9, 0), (10, 2)] rfl mixed (by kernel_rfl) (by kernel_rfl) (by kernel_rfl) (fun w1 hS1 => ?_)
          replace hblk3' := hblk3'.up hS1
          replace hblk8 := hblk8.up hS1
          replace hblk9 := hblk9.up hS1
          replace hrow := hrow.up hS1
          have hc3 := fun (j : Nat) (u : Value) h => cell_on hs hlt (hS1.mono (by simp)) (hc2 j u h)
          have hsu : SlV (ob u) w1 kv x.kids := (hs.up hS1).wk (fun c hc => List.mem_append_left _ hc)
          replace hp := hp.up hS1
          replace hk2 := hk2.up hS1
          replace hT := hT.trans (hS1.mono (by simp))
          replace hXu : ∀ c ∈ ob u ++ b9 :: b8 :: b6 :: b7 :: X, c < w1.heap.size := fun c hc => Nat.lt_of_lt_of_le (hXu c hc) hS1.size
          clear hS1 hc2 hs hm hblk5'
          refine D ?_
          refine WD_read rfl trivial (fun w' hS' => PR_loadNd rfl rfl (hsu.on hS' (fun _ h => h)) hlt (fun j u hj => cell_on hsu hlt hS' (hc3 j u hj))) rfl ?_
          refine D ?_
          refine WD_eff rfl trivial (OE_buildSlice (vs := [(0, .agg #[.int .i64 x.kids[j].kind, .int .i64 x.kids[j].num, str x.kids[j].word, .slice py x.kids[j].kids.length cy])]) rfl (buildSN1 _ _ _ _ _ _)) (fun _ _ h => (NewSl.stp h).mono (by simp)) rfl ?_
          rintro bv w15 hN
          have hbv := slv1 hN hXu hk2
          have hT2 := NewSl.stp hN
          clear hN
          replace hblk8 := hblk8.up hT2
          replace hblk9 := hblk9.up hT2
          replace hrow := hrow.up hT2
          replace hp := hp.up hT2
          replace hT := hT.trans (hT2.mono (by simp))
          clear hT2 hsu hk2 hc3
          refine D ?_
          refine WD_eff rfl trivial (OE_append (X := b9 :: b8 :: b6 :: b7 :: X) (base := w8.heap.size) rfl (by decide) rfl rfl hrow hbv (by simp only [List.length_cons, List.length_nil]; omega) (by simp only [List.length_cons, List.length_nil, maxLen]; omega) hT.size) (fun _ _ h => h.2.1) rfl ?_
          rintro u' w16 ⟨hrow', hT2, hob⟩
          replace hblk8 := hblk8.ext hT2 n8u
          replace hblk9 := hblk9.ext hT2 n9u
          have n8u' : b8 ∉ ob u' := fun h => by have := (hrow'.ob_le b8 h).1; have := hXl b8 (by simp); omega
          replace hp := hp.ext (X' := ob u' ++ b9 :: b8 :: b6 :: b7 :: X) hT2 (fun c hc => List.mem_append_left _ hc) (fun c hc => by
            rcases List.mem_append.1 hc with h | h
            · exact (hob c h).imp (fun h => List.mem_append_left _ h) id
            · exact .inl (List.mem_append_right _ h))
          replace hT := hT.own hT2 (fun c hc => .inr (hrow.ob_le c hc).1)
          clear hT2 hob hrow hbv hXu
          have hsl' := hrow'.slv hXl
          refine D ?_
          refine WD_late0 rfl trivial (OE_store1 (u := u') rfl rfl hsl'.cells hsl'.one hblk8 (by simp)) rfl ?_
          rintro _ w17 ⟨hT2, hblk8'⟩
          replace hblk9 := hblk9.ext hT2 (by simp; omega)
          replace hrow' := hrow'.ext (X' := b9 :: b8 :: b6 :: b7 :: X) hT2 (fun c hc => by simp at hc; subst hc; exact ⟨by simp, n8u'⟩) (fun c hc => .inl hc)
          replace hp := hp.ext (X' := ob u' ++ b9 :: b8 :: b6 :: b7 :: X) hT2 (fun c hc => by simp at hc; simp [hc]) (fun c hc => .inl hc)
          replace hT := hT.trans (hT2.mono (by simp))
          clear hsl' hT2
          refine D ?_
          refine W ?_
          refine WQ_loop (j + 1, u', ks ++ [x.kids[j]], p, pv) ⟨?_, rfl, rfl, rfl, rfl, rfl, rfl, rfl, trivial⟩ ⟨hlt, hfn.skip hlt hout, hrow', hblk8', hblk9, hp, hT⟩ (by dsimp only; omega)
          exact congrArg (fun z : Int => some (Value.int .i64 z)) (by dsimp only; omega)
    · have hje : j = x.kids.length := by omega
      subst hje
      repeat' (first | refine W1 ?_ | (exfalso; omega) | refine WL_split rfl rfl (fun hg => ?_) (fun hg => ?_) | refine WL_splitB rfl rfl (fun hg => ?_) (fun hg => ?_) | refine WC_cond rfl (fun hc => ?_) (fun hc => ?_) | refine WC_condB rfl (fun hc => ?_) (fun hc => ?_))
      have hblk6' := hblk6.ext hT (by simp; omega)
      have hblk7' := hblk7.ext hT (by simp; omega)
      replace hp : SlV (b9 :: b8 :: b6 :: b7 :: X) w9 pv p.kids := hp.wk (fun c hc => List.mem_append_right _ hc)
      have hsl : SlV (b9 :: b8 :: b6 :: b7 :: X) w9 u (Nd.mk x.kind x.num x.word ks).kids := hrow.slv hXl
      replace hblk8 : Blk w9 b8 25 (ndC (Nd.mk x.kind x.num x.word ks) u) := hblk8
      have hfin := hfn.fin ha0
      replace hS := hS.own hT (fun c hc => .inr (by simp at hc; omega))
      clear hs hm hrow hfn hT hblk6 hblk7 hblk3 hblk5 hblk3' hblk5'
      generalize (Nd.mk x.kind x.num x.word ks) = y at *
      refine WC_drawn 4 ([b6, b7]) [] [(0, 1), (1, 1), (2, 2), (3, 2)] rfl mixed (by kernel_rfl) (by kernel_rfl) (by kernel_rfl) (fun w1 hS1 => ?_)
      replace hblk6' := hblk6'.up (hS1.mono (by simp))
      replace hblk7' := hblk7'.up (hS1.mono (by simp))
      replace hblk8 := hblk8.up (hS1.mono (by simp))
      replace hblk9 := hblk9.up (hS1.mono (by simp))
      replace hp := hp.up hS1
      replace hsl := hsl.up hS1
      replace hS := hS.trans hS1
      clear hS1
      refine D ?_
      refine WD_eff0 rfl trivial (OE_storeA (us := ndC p pv) rfl rfl rfl rfl (ndC_one hp) hblk6' rfl) (fun _ _ h => h.1.mono (by simp)) ?_
      rintro _ w11 ⟨hT, hq6⟩
      replace hblk7' := hblk7'.ext hT (by simp; omega)
      replace hp := hp.ext (X' := b9 :: b8 :: b6 :: b7 :: X) hT (fun c hc => by simp at hc; simp [hc]) (fun c hc => .inl hc)
      replace hsl := hsl.ext (X' := b9 :: b8 :: b6 :: b7 :: X) hT (fun c hc => by simp at hc; simp [hc]) (fun c hc => .inl hc)
      replace hS := hS.own hT (fun c hc => .inr (by simp at hc; omega))
      clear hT
      refine D ?_
      refine WD_eff0 rfl trivial (OE_storeA (us := ndC y u) rfl rfl rfl rfl (ndC_one hsl) hblk7' rfl) (fun _ _ h => h.1.mono (by simp)) ?_
      rintro _ w12 ⟨hT, hq7⟩
      replace hq6 := hq6.ext hT (by simp; omega)
      replace hp := hp.ext (X' := b9 :: b8 :: b6 :: b7 :: X) hT (fun c hc => by simp at hc; simp [hc]) (fun c hc => .inl hc)
      replace hsl := hsl.ext (X' := b9 :: b8 :: b6 :: b7 :: X) hT (fun c hc => by simp at hc; simp [hc]) (fun c hc => .inl hc)
      replace hS := hS.own hT (fun c hc => .inr (by simp at hc; omega))
      refine D ?_
      refine W ?_
      refine WQ_retcc rfl rfl rfl rfl hq6 rfl rfl hq7 rfl ?_
      exact .mk ⟨_, _, p, y, rfl, hfin, ⟨pv, rfl, hp.wk (fun c hc => by simp [hc])⟩, ⟨u, rfl, hsl.wk (fun c hc => by simp [hc])⟩, hS⟩
end Go.Proofs.YtgpibcgebpgmiaaDoor

namespace Go.Proofs.YtgpibcgebpgmiaaDoor
open Go Go.Eng Go.RowKit
set_option linter.unusedVariables false
theorem typeT_kid {x y : Nd} (h : typeT x ≠ 0) (hy : y ∈ x.kids) : typeT y ≠ 0 := by
  intro h0
  apply h
  rw [typeT_eq]
  unfold combT
  split
  · rfl
  · rw [if_pos (by rw [← h0]; exact List.mem_map_of_mem hy)]
theorem nest_kid_le {x y : Nd} (hy : y ∈ x.kids) : nestN y ≤ nestN x := by
  have := nest_kid hy
  omega
end Go.Proofs.YtgpibcgebpgmiaaDoor

namespace Go.Proofs.YtgpibcgebpgmiaaDoor
open Go Go.Eng Go.RowKit Go.Proofs Go.ChangeShapes Go.WideShapes Go.Deep
set_option linter.unusedVariables false
section
variable {P : Program} {H : Type} {enc : TypeId × Value → H} {w : World} {base : Nat} {spare : Nat → Bool} {held : Bool}
theorem trodAll_five {t t1 t2 t3 t4 : TypeId} {args : Array Value} {ds : List (DataW H)} {ps : List MemPlace} (h : DataW.TrodAll enc P w base spare held [t, t1, t2, t3, t4] args.toList ds ps) :
    ∃ v v1 v2 v3 v4 d d1 d2 d3 d4 p p1 p2 p3 p4, args = #[v, v1, v2, v3, v4] ∧ ds = [d, d1, d2, d3, d4] ∧ ps = p ++ p1 ++ p2 ++ p3 ++ p4 ∧ DataW.Trod enc P w base spare held t v d p ∧ DataW.Trod enc P w base spare held t1 v1 d1 p1 ∧ DataW.Trod enc P w base spare held t2 v2 d2 p2 ∧ DataW.Trod enc P w base spare held t3 v3 d3 p3 ∧ DataW.Trod enc P w base spare held t4 v4 d4 p4 := by
  obtain ⟨v, vs, d, ds0, p, q, hargs, rfl, rfl, hd, hrest⟩ := trodAll_cons h
  obtain ⟨v1, vs1, d1, ds1, p1, q1, rfl, rfl, rfl, hd1, hrest1⟩ := trodAll_cons hrest
  obtain ⟨v2, vs2, d2, ds2, p2, q2, rfl, rfl, rfl, hd2, hrest2⟩ := trodAll_cons hrest1
  obtain ⟨v3, vs3, d3, ds3, p3, q3, rfl, rfl, rfl, hd3, hrest3⟩ := trodAll_cons hrest2
  obtain ⟨v4, vs4, d4, ds4, p4, q4, rfl, rfl, rfl, hd4, hrest4⟩ := trodAll_cons hrest3
  obtain ⟨rfl, rfl, rfl⟩ := trodAll_nil hrest4
  exact ⟨v, v1, v2, v3, v4, d, d1, d2, d3, d4, p, p1, p2, p3, p4, by cases args; simp_all, rfl, by simp, hd, hd1, hd2, hd3, hd4⟩
end
end Go.Proofs.YtgpibcgebpgmiaaDoor
/-
Reading the bytes of an encoding: plain Lean.
-/
namespace Go.Eng
open Go
abbrev Bs := List UInt8
/-- an unsigned number: its byte number i comes next; an error, or the number and what is left -/
def rdU : Nat → Bs → Sum Int (Nat × Bs)
  | i, [] => if i = 10 then .inl 7 else .inl 6
  | i, c :: r => if i = 10 then .inl 7 else if c.toNat < 128 then (if (i = 9 ∧ 1 < c.toNat) ∨ (0 < i ∧ c.toNat = 0) then .inl 7 else .inr (c.toNat, r))
    else match rdU (i + 1) r with
      | .inl e => .inl e
      | .inr (v, r') => .inr (c.toNat % 128 + 128 * v, r')
theorem pow_split (i : Nat) (h : i ≤ 8) : 2 ^ (64 - 7 * i) = 128 * 2 ^ (64 - 7 * (i + 1)) := by
  rw [show (128 : Nat) = 2 ^ 7 from rfl, ← Nat.pow_add]
  congr 1
  omega
theorem rdU_enc (n : Nat) : ∀ (i : Nat) (r : Bs), i ≤ 9 → n < 2 ^ (64 - 7 * i) → (0 < i → 0 < n) → rdU i (uintB n ++ r) = .inr (n, r) := by
  induction n using Nat.strongRecOn with
  | _ n ih =>
  intro i r hi hn h0
  by_cases h : n < 128
  · rw [uintB_lo h]
    show rdU i (UInt8.ofNat n :: r) = _
    have hb : (UInt8.ofNat n).toNat = n := by rw [UInt8.toNat_ofNat']; omega
    have h9 : ¬ ((i = 9 ∧ 1 < n) ∨ (0 < i ∧ n = 0)) := by
      rintro (⟨rfl, h1⟩ | ⟨h1, h2⟩)
      · simp at hn; omega
      · have := h0 h1; omega
    rw [rdU, if_neg (by omega), hb, if_pos h, if_neg h9]
  · have hi8 : i ≤ 8 := by
      rcases Nat.lt_or_ge i 9 with h1 | h1
      · omega
      · have : i = 9 := by omega
        subst this
        simp at hn
        omega
    rw [uintB_hi (by omega)]
    show rdU i (UInt8.ofNat (128 + n % 128) :: (uintB (n / 128) ++ r)) = _
    have hb : (UInt8.ofNat (128 + n % 128)).toNat = 128 + n % 128 := by rw [UInt8.toNat_ofNat']; omega
    have hp := pow_split i hi8
    rw [rdU, if_neg (by omega), hb, if_neg (by omega), ih (n / 128) (by omega) (i + 1) r (by omega) (by omega) (by omega)]
    simp only [Sum.inr.injEq, Prod.mk.injEq, and_true]
    omega
theorem rdU_dec (bs : Bs) : ∀ (i v : Nat) (r : Bs), i ≤ 9 → rdU i bs = .inr (v, r) → bs = uintB v ++ r ∧ v < 2 ^ (64 - 7 * i) ∧ (0 < i → 0 < v) := by
  induction bs with
  | nil => intro i v r hi h; rw [rdU, if_neg (by omega)] at h; cases h
  | cons c bs ih =>
    intro i v r hi h
    rw [rdU, if_neg (by omega)] at h
    split at h
    · rename_i hc
      split at h
      · cases h
      · rename_i hn
        simp only [Sum.inr.injEq, Prod.mk.injEq] at h
        obtain ⟨rfl, rfl⟩ := h
        refine ⟨?_, ?_, fun h0 => ?_⟩
        · rw [uintB_lo hc]
          simp
        · rcases Nat.lt_or_ge i 9 with h1 | h1
          · have : 2 ^ 7 ≤ 2 ^ (64 - 7 * i) := Nat.pow_le_pow_right (by decide) (by omega)
            omega
          · have : i = 9 := by omega
            subst this
            simp only [show 64 - 7 * 9 = 1 from rfl]
            omega
        · omega
    · rename_i hc
      rcases Nat.lt_or_ge i 9 with h1 | h1
      · cases hr : rdU (i + 1) bs with
        | inl e => rw [hr] at h; cases h
        | inr p =>
          obtain ⟨v', r'⟩ := p
          rw [hr] at h
          simp only [Sum.inr.injEq, Prod.mk.injEq] at h
          obtain ⟨rfl, rfl⟩ := h
          obtain ⟨e1, e2, e3⟩ := ih (i + 1) v' r' (by omega) hr
          have hp := pow_split i (by omega)
          have hc2 : c.toNat < 256 := c.toNat_lt
          have hv0 := e3 (by omega)
          refine ⟨?_, by omega, by omega⟩
          rw [uintB_hi (by omega), e1, show (c.toNat % 128 + 128 * v') / 128 = v' by omega]
          have : UInt8.ofNat (128 + (c.toNat % 128 + 128 * v') % 128) = c := by
            apply UInt8.toNat_inj.1
            rw [UInt8.toNat_ofNat']
            omega
          rw [this]
          rfl
      · have hi9 : i = 9 := by omega
        subst hi9
        cases bs with
        | nil => rw [rdU, if_pos rfl] at h; cases h
        | cons d bs => rw [rdU, if_pos rfl] at h; cases h
theorem rdU_short (n : Nat) : ∀ (i m : Nat), i ≤ 9 → n < 2 ^ (64 - 7 * i) → m < (uintB n).length → rdU i ((uintB n).take m) = .inl 6 := by
  induction n using Nat.strongRecOn with
  | _ n ih =>
  intro i m hi hn hm
  by_cases h : n < 128
  · rw [uintB_lo h] at hm ⊢
    have : m = 0 := by simp at hm; exact hm
    subst this
    rw [List.take_zero, rdU, if_neg (by omega)]
  · have hi8 : i ≤ 8 := by
      rcases Nat.lt_or_ge i 9 with h1 | h1
      · omega
      · have : i = 9 := by omega
        subst this
        simp at hn
        omega
    rw [uintB_hi (by omega)] at hm ⊢
    cases m with
    | zero => rw [List.take_zero, rdU, if_neg (by omega)]
    | succ m =>
      have hb : (UInt8.ofNat (128 + n % 128)).toNat = 128 + n % 128 := by rw [UInt8.toNat_ofNat']; omega
      have hp := pow_split i hi8
      rw [List.take_succ_cons, rdU, if_neg (by omega), hb, if_neg (by omega), ih (n / 128) (by omega) (i + 1) m (by omega) (by omega) (by simpa using hm)]

/-! ### a reader: what is left, the error -/
structure Rs where
  bs : Bs
  e : Int
def uintS (s : Rs) : Rs × Nat :=
  if s.e = 0 then (match rdU 0 s.bs with
    | .inl e => (⟨s.bs, e⟩, 0)
    | .inr (v, r) => (⟨r, 0⟩, v)) else (s, 0)
/-- the number of an unsigned number -/
def zagI (u : Nat) : Int := if u % 2 = 1 then -((u / 2 : Nat) : Int) - 1 else ((u / 2 : Nat) : Int)
theorem zag_zig {z : Int} : zagI (zigN z) = z := by
  unfold zagI zigN
  split <;> split <;> omega
theorem zig_zag (u : Nat) : zigN (zagI u) = u := by
  unfold zagI zigN
  split <;> split <;> omega
theorem zag_I64 {u : Nat} (h : u < 18446744073709551616) : I64 (zagI u) := by
  unfold zagI I64
  split <;> omega
def intS (s : Rs) : Rs × Int := ((uintS s).1, zagI (uintS s).2)
def lengthS (most : Nat) (s : Rs) : Rs × Nat :=
  if (uintS s).1.e = 0 then (if most < (uintS s).2 then (⟨(uintS s).1.bs, 2⟩, 0) else uintS s) else ((uintS s).1, 0)
def textS (most : Nat) (s : Rs) : Rs × Str :=
  if (lengthS most s).1.e = 0 then (if (lengthS most s).1.bs.length < (lengthS most s).2 then (⟨(lengthS most s).1.bs, 6⟩, [])
    else (⟨(lengthS most s).1.bs.drop (lengthS most s).2, 0⟩, (lengthS most s).1.bs.take (lengthS most s).2)) else ((lengthS most s).1, [])
def intsLp : Nat → Rs → List Int → Rs × List Int
  | 0, s, out => (s, out)
  | n + 1, s, out => if s.e = 0 then intsLp n (intS s).1 (out ++ [(intS s).2]) else (s, out)
def intsS (most : Nat) (s : Rs) : Rs × List Int :=
  if (intsLp (lengthS most s).2 (lengthS most s).1 []).1.e = 0 then intsLp (lengthS most s).2 (lengthS most s).1 [] else ((intsLp (lengthS most s).2 (lengthS most s).1 []).1, [])
def endS (s : Rs) : Int := if s.e = 0 ∧ 0 < s.bs.length then 7 else s.e

theorem uintS_enc {n : Nat} (h : n < 18446744073709551616) (r : Bs) : uintS ⟨uintB n ++ r, 0⟩ = (⟨r, 0⟩, n) := by
  unfold uintS
  rw [if_pos rfl, rdU_enc n 0 r (by omega) (by simpa using h) (by omega)]
theorem rdU_err (bs : Bs) : ∀ (i : Nat) (e : Int), rdU i bs = .inl e → e = 6 ∨ e = 7 := by
  induction bs with
  | nil =>
    intro i e h
    rw [rdU] at h
    split at h <;> cases h <;> simp
  | cons c bs ih =>
    intro i e h
    rw [rdU] at h
    split at h
    · cases h; simp
    · split at h
      · split at h <;> cases h; simp
      · cases hr : rdU (i + 1) bs with
        | inl e' => rw [hr] at h; cases h; exact ih _ _ hr
        | inr p => rw [hr] at h; cases h
theorem uintS_dec {s : Rs} (h : (uintS s).1.e = 0) : s.e = 0 ∧ s.bs = uintB (uintS s).2 ++ (uintS s).1.bs ∧ (uintS s).2 < 18446744073709551616 := by
  unfold uintS at h ⊢
  split
  · rename_i h0
    rw [if_pos h0] at h
    cases hr : rdU 0 s.bs with
    | inl e =>
      rw [hr] at h
      have := rdU_err _ _ _ hr
      simp only at h
      omega
    | inr p =>
      obtain ⟨v, r⟩ := p
      obtain ⟨e1, e2, _⟩ := rdU_dec s.bs 0 v r (by omega) hr
      exact ⟨h0, e1, by simpa using e2⟩
  · rename_i h0
    rw [if_neg h0] at h
    exact absurd h h0
theorem uintS_short {n : Nat} (h : n < 18446744073709551616) {m : Nat} (hm : m < (uintB n).length) : (uintS ⟨(uintB n).take m, 0⟩).1.e = 6 := by
  unfold uintS
  rw [if_pos rfl, rdU_short n 0 m (by omega) (by simpa using h) hm]
theorem uintS_bad {s : Rs} (h : s.e ≠ 0) : uintS s = (s, 0) := by unfold uintS; rw [if_neg h]
theorem intS_enc {z : Int} (h : I64 z) (r : Bs) : intS ⟨intB z ++ r, 0⟩ = (⟨r, 0⟩, z) := by
  unfold intS intB
  rw [uintS_enc (zigN_lt h)]
  simp [zag_zig]
theorem intS_dec {s : Rs} (h : (intS s).1.e = 0) : s.e = 0 ∧ s.bs = intB (intS s).2 ++ (intS s).1.bs ∧ I64 (intS s).2 := by
  obtain ⟨h1, h2, h3⟩ := uintS_dec (s := s) h
  exact ⟨h1, by unfold intB intS; rw [zig_zag]; exact h2, zag_I64 h3⟩
theorem intS_short {z : Int} (h : I64 z) {m : Nat} (hm : m < (intB z).length) : (intS ⟨(intB z).take m, 0⟩).1.e = 6 := uintS_short (zigN_lt h) hm
theorem intS_bad {s : Rs} (h : s.e ≠ 0) : (intS s).1 = s := by unfold intS; rw [uintS_bad h]
theorem intS_bad0 {s : Rs} (h : s.e ≠ 0) : intS s = (s, 0) := by unfold intS; rw [uintS_bad h]; simp [zagI]
theorem lengthS_enc {n most : Nat} (h : n ≤ most) (hm : most < 18446744073709551616) (r : Bs) : lengthS most ⟨uintB n ++ r, 0⟩ = (⟨r, 0⟩, n) := by
  unfold lengthS
  rw [uintS_enc (by omega)]
  rw [if_pos rfl, if_neg (by simp only; omega)]
theorem lengthS_dec {s : Rs} {most : Nat} (h : (lengthS most s).1.e = 0) : s.e = 0 ∧ s.bs = uintB (lengthS most s).2 ++ (lengthS most s).1.bs ∧ (lengthS most s).2 ≤ most := by
  unfold lengthS at h ⊢
  split
  · rename_i h0
    rw [if_pos h0] at h
    split
    · rename_i h1; rw [if_pos h1] at h; simp at h
    · rename_i h1
      obtain ⟨e1, e2, _⟩ := uintS_dec h0
      exact ⟨e1, e2, by omega⟩
  · rename_i h0
    rw [if_neg h0] at h
    exact absurd h h0
theorem lengthS_bad {s : Rs} {most : Nat} (h : s.e ≠ 0) : lengthS most s = (s, 0) := by
  unfold lengthS
  rw [uintS_bad h, if_neg h]
theorem lengthS_short {n most : Nat} (h : n < 18446744073709551616) {m : Nat} (hm : m < (uintB n).length) : (lengthS most ⟨(uintB n).take m, 0⟩).1.e = 6 := by
  have h1 := uintS_short h hm
  unfold lengthS
  rw [if_neg (by rw [h1]; decide)]
  exact h1
theorem textS_enc {t : Str} {most : Nat} (h : t.length ≤ most) (hm : most < 18446744073709551616) (r : Bs) : textS most ⟨textB t ++ r, 0⟩ = (⟨r, 0⟩, t) := by
  unfold textS textB
  rw [List.append_assoc, lengthS_enc h hm]
  rw [if_pos rfl, if_neg (by simp)]
  simp
theorem textS_dec {s : Rs} {most : Nat} (h : (textS most s).1.e = 0) : s.e = 0 ∧ s.bs = textB (textS most s).2 ++ (textS most s).1.bs ∧ (textS most s).2.length ≤ most := by
  unfold textS at h ⊢
  split
  · rename_i h0
    rw [if_pos h0] at h
    split
    · rename_i h1; rw [if_pos h1] at h; simp at h
    · rename_i h1
      obtain ⟨e1, e2, e3⟩ := lengthS_dec h0
      have hl : ((lengthS most s).1.bs.take (lengthS most s).2).length = (lengthS most s).2 := by rw [List.length_take]; omega
      refine ⟨e1, ?_, by simp only; omega⟩
      unfold textB
      simp only
      rw [hl, List.append_assoc, List.take_append_drop]
      exact e2
  · rename_i h0
    rw [if_neg h0] at h
    exact absurd h h0
theorem textS_bad {s : Rs} {most : Nat} (h : s.e ≠ 0) : textS most s = (s, []) := by
  unfold textS
  rw [lengthS_bad h, if_neg h]
theorem textS_short {t : Str} {most : Nat} (h : t.length ≤ most) (hm : most < 18446744073709551616) {m : Nat} (hlt : m < (textB t).length) : (textS most ⟨(textB t).take m, 0⟩).1.e = 6 := by
  unfold textB at hlt ⊢
  by_cases h1 : m < (uintB t.length).length
  · rw [List.take_append_of_le_length (by omega)]
    have h2 := lengthS_short (most := most) (n := t.length) (by omega) h1
    unfold textS
    rw [if_neg (by rw [h2]; decide)]
    exact h2
  · rw [List.take_append, List.take_of_length_le (by omega)]
    unfold textS
    rw [lengthS_enc h hm]
    rw [if_pos rfl, if_pos (by simp only [List.length_take]; simp only [List.length_append] at hlt; omega)]
theorem intsLp_bad {s : Rs} (h : s.e ≠ 0) : ∀ (n : Nat) (out : List Int), intsLp n s out = (s, out)
  | 0, _ => rfl
  | n + 1, out => by unfold intsLp; rw [if_neg h]
theorem intsLp_enc (l : List Int) (h : ∀ z ∈ l, I64 z) : ∀ (r : Bs) (out : List Int), intsLp l.length ⟨l.flatMap intB ++ r, 0⟩ out = (⟨r, 0⟩, out ++ l) := by
  induction l with
  | nil => intro r out; simp [intsLp]
  | cons z l ih =>
    intro r out
    rw [List.length_cons, intsLp, if_pos rfl, List.flatMap_cons, List.append_assoc, intS_enc (h z (by simp))]
    rw [ih (fun z hz => h z (by simp [hz]))]
    simp
theorem intsLp_dec : ∀ (n : Nat) (s : Rs) (out : List Int), (intsLp n s out).1.e = 0 → s.e = 0 ∧ ∃ l, l.length = n ∧ (intsLp n s out).2 = out ++ l ∧ s.bs = l.flatMap intB ++ (intsLp n s out).1.bs ∧ ∀ z ∈ l, I64 z
  | 0, s, out, h => ⟨h, [], rfl, by simp [intsLp], by simp [intsLp], by simp⟩
  | n + 1, s, out, h => by
    by_cases h0 : s.e = 0
    · unfold intsLp at h ⊢
      rw [if_pos h0] at h ⊢
      obtain ⟨h1, l, h2, h3, h4, h5⟩ := intsLp_dec n _ _ h
      obtain ⟨e1, e2, e3⟩ := intS_dec h1
      refine ⟨h0, (intS s).2 :: l, by simp [h2], by rw [h3]; simp, ?_, ?_⟩
      · rw [e2, h4, List.flatMap_cons, List.append_assoc]
      · intro z hz
        rcases List.mem_cons.1 hz with rfl | hz
        · exact e3
        · exact h5 z hz
    · rw [intsLp_bad h0] at h
      exact absurd h h0
theorem intsLp_short (l : List Int) (h : ∀ z ∈ l, I64 z) : ∀ (m : Nat) (out : List Int), m < (l.flatMap intB).length → (intsLp l.length ⟨(l.flatMap intB).take m, 0⟩ out).1.e = 6 := by
  induction l with
  | nil => intro m out hm; simp at hm
  | cons z l ih =>
    intro m out hm
    rw [List.flatMap_cons] at hm ⊢
    rw [List.length_cons, intsLp, if_pos rfl]
    by_cases h1 : m < (intB z).length
    · rw [List.take_append_of_le_length (by omega)]
      have h2 := intS_short (h z (by simp)) h1
      rw [intsLp_bad (by rw [h2]; decide)]
      exact h2
    · rw [List.take_append, List.take_of_length_le (by omega), intS_enc (h z (by simp))]
      exact ih (fun z hz => h z (by simp [hz])) _ _ (by simp only [List.length_append] at hm; omega)
theorem intsS_enc {l : List Int} {most : Nat} (hl : ∀ z ∈ l, I64 z) (h : l.length ≤ most) (hm : most < 18446744073709551616) (r : Bs) : intsS most ⟨intsB l ++ r, 0⟩ = (⟨r, 0⟩, l) := by
  unfold intsS intsB
  rw [List.append_assoc, lengthS_enc h hm]
  simp only
  rw [intsLp_enc l hl]
  rw [if_pos rfl]
  rfl
theorem intsS_dec {s : Rs} {most : Nat} (h : (intsS most s).1.e = 0) : s.e = 0 ∧ s.bs = intsB (intsS most s).2 ++ (intsS most s).1.bs ∧ (intsS most s).2.length ≤ most ∧ ∀ z ∈ (intsS most s).2, I64 z := by
  unfold intsS at h ⊢
  split
  · rename_i h0
    obtain ⟨h1, l, h2, h3, h4, h5⟩ := intsLp_dec _ _ _ h0
    obtain ⟨e1, e2, e3⟩ := lengthS_dec h1
    rw [List.nil_append] at h3
    refine ⟨e1, ?_, by rw [h3]; omega, by rw [h3]; exact h5⟩
    rw [h3]
    unfold intsB
    rw [h2, List.append_assoc, ← h4]
    exact e2
  · rename_i h0
    rw [if_neg h0] at h
    exact absurd h h0
theorem intsS_bad {s : Rs} {most : Nat} (h : s.e ≠ 0) : intsS most s = (s, []) := by
  unfold intsS
  rw [lengthS_bad h]
  show (if s.e = 0 then (s, []) else (s, [])) = (s, [])
  split <;> rfl
theorem intsS_short {l : List Int} {most : Nat} (hl : ∀ z ∈ l, I64 z) (h : l.length ≤ most) (hm : most < 18446744073709551616) {m : Nat} (hlt : m < (intsB l).length) : (intsS most ⟨(intsB l).take m, 0⟩).1.e = 6 := by
  have key : (intsLp (lengthS most ⟨(intsB l).take m, 0⟩).2 (lengthS most ⟨(intsB l).take m, 0⟩).1 []).1.e = 6 := by
    unfold intsB at hlt ⊢
    by_cases h1 : m < (uintB l.length).length
    · rw [List.take_append_of_le_length (by omega)]
      have h2 := lengthS_short (most := most) (n := l.length) (by omega) h1
      rw [intsLp_bad (by rw [h2]; decide)]
      exact h2
    · rw [List.take_append, List.take_of_length_le (by omega), lengthS_enc h hm]
      exact intsLp_short l hl _ _ (by simp only [List.length_append] at hlt; omega)
  unfold intsS
  rw [if_neg (by rw [key]; decide)]
  exact key
end Go.Eng

namespace Go.Proofs.YtgpibcgebpgmiaaDoor
open Go Go.Eng Go.RowKit
set_option linter.unusedVariables false
/-- instructions from their numbers -/
def pairF : List Int → List Ins
  | a :: b :: r => ⟨a, b⟩ :: pairF r
  | _ => []
theorem pairF_flatF (l : List Ins) : pairF (flatF l) = l := by
  induction l with
  | nil => rfl
  | cons x l ih =>
    show pairF (x.op :: x.n :: flatF l) = _
    rw [pairF, ih]
theorem flatF_pairF : ∀ l : List Int, l.length % 2 = 0 → flatF (pairF l) = l
  | [], _ => rfl
  | [_], h => by simp at h
  | a :: b :: r, h => by
    rw [pairF]
    show a :: b :: flatF (pairF r) = _
    rw [flatF_pairF r (by simp only [List.length_cons] at h; omega)]
theorem pairF_len : ∀ l : List Int, (pairF l).length = l.length / 2
  | [] => rfl
  | [_] => by simp [pairF]
  | a :: b :: r => by rw [pairF, List.length_cons, pairF_len r]; simp only [List.length_cons]; omega
theorem pairF_I64 : ∀ (l : List Int), (∀ z ∈ l, I64 z) → ∀ x ∈ pairF l, I64 x.op ∧ I64 x.n
  | [], _, x, hx => by cases hx
  | [_], _, x, hx => by cases hx
  | a :: b :: r, h, x, hx => by
    rw [pairF] at hx
    rcases List.mem_cons.1 hx with rfl | hx
    · exact ⟨h a (by simp), h b (by simp)⟩
    · exact pairF_I64 r (fun z hz => h z (by simp [hz])) x hx
/-- the steps of the decoder -/
def dS1 (bs : Bs) := textS 12 ⟨bs, 0⟩
def dS2 (bs : Bs) := intS (dS1 bs).1
def dS3 (bs : Bs) := textS 12 (dS2 bs).1
def dS4 (bs : Bs) := intsS 400 (dS3 bs).1
def dS5 (bs : Bs) := intsS 400 (dS4 bs).1
def dS6 (bs : Bs) := textS 12 (dS5 bs).1
def dS7 (bs : Bs) := textS 12 (dS6 bs).1
def decQ (bs : Bs) : Cr := ⟨(dS1 bs).2, (dS2 bs).2, (dS3 bs).2, pairF (dS4 bs).2, pairF (dS5 bs).2, (dS6 bs).2, (dS7 bs).2⟩
def decE (bs : Bs) : Int :=
  if endS (dS7 bs).1 = 0 then (if (dS4 bs).2.length % 2 = 1 ∨ (dS5 bs).2.length % 2 = 1 then 7 else if chkC (decQ bs) = 0 then 0 else 22) else endS (dS7 bs).1
/-- the compiled rule of an encoding -/
def decF (bs : Bs) : Cr := if decE bs = 0 then decQ bs else crZ
theorem endS_ok {s : Rs} (h : endS s = 0) : s.e = 0 ∧ s.bs = [] := by
  unfold endS at h
  split at h
  · cases h
  · rename_i h1
    refine ⟨h, ?_⟩
    cases hb : s.bs with
    | nil => rfl
    | cons b r => exact absurd ⟨h, by rw [hb]; simp⟩ h1
/-- what a decoded rule is like -/
theorem dec_parts {bs : Bs} (h : endS (dS7 bs).1 = 0) : bs = textB (dS1 bs).2 ++ intB (dS2 bs).2 ++ textB (dS3 bs).2 ++ intsB (dS4 bs).2 ++ intsB (dS5 bs).2 ++ textB (dS6 bs).2 ++ textB (dS7 bs).2 ∧
    (dS1 bs).2.length ≤ 12 ∧ I64 (dS2 bs).2 ∧ (dS3 bs).2.length ≤ 12 ∧ ((dS4 bs).2.length ≤ 400 ∧ ∀ z ∈ (dS4 bs).2, I64 z) ∧ ((dS5 bs).2.length ≤ 400 ∧ ∀ z ∈ (dS5 bs).2, I64 z) ∧ (dS6 bs).2.length ≤ 12 ∧ (dS7 bs).2.length ≤ 12 := by
  obtain ⟨h7, hb⟩ := endS_ok h
  obtain ⟨h6, e7, l7⟩ := textS_dec (s := (dS6 bs).1) (most := 12) h7
  obtain ⟨h5, e6, l6⟩ := textS_dec (s := (dS5 bs).1) (most := 12) h6
  obtain ⟨h4, e5, l5⟩ := intsS_dec (s := (dS4 bs).1) (most := 400) h5
  obtain ⟨h3, e4, l4⟩ := intsS_dec (s := (dS3 bs).1) (most := 400) h4
  obtain ⟨h2, e3, l3⟩ := textS_dec (s := (dS2 bs).1) (most := 12) h3
  obtain ⟨h1, e2, l2⟩ := intS_dec (s := (dS1 bs).1) h2
  obtain ⟨_, e1, l1⟩ := textS_dec (s := ⟨bs, 0⟩) (most := 12) h1
  refine ⟨?_, l1, l2, l3, l4, l5, l6, l7⟩
  have e7' : (dS6 bs).1.bs = textB (dS7 bs).2 := by
    have : (dS6 bs).1.bs = textB (dS7 bs).2 ++ (dS7 bs).1.bs := e7
    rw [this, hb, List.append_nil]
  have a1 : bs = textB (dS1 bs).2 ++ (dS1 bs).1.bs := e1
  have a2 : (dS1 bs).1.bs = intB (dS2 bs).2 ++ (dS2 bs).1.bs := e2
  have a3 : (dS2 bs).1.bs = textB (dS3 bs).2 ++ (dS3 bs).1.bs := e3
  have a4 : (dS3 bs).1.bs = intsB (dS4 bs).2 ++ (dS4 bs).1.bs := e4
  have a5 : (dS4 bs).1.bs = intsB (dS5 bs).2 ++ (dS5 bs).1.bs := e5
  have a6 : (dS5 bs).1.bs = textB (dS6 bs).2 ++ (dS6 bs).1.bs := e6
  simp only [List.append_assoc]
  rw [← e7', ← a6, ← a5, ← a4, ← a3, ← a2, ← a1]
/-- what is accepted has these bytes as its encoding -/
theorem enc_dec {bs : Bs} (h : decE bs = 0) : encC (decQ bs) = bs ∧ CrOk (decQ bs) := by
  unfold decE at h
  split at h
  · rename_i h0
    obtain ⟨e1, l1, l2, l3, l4, l5, l6, l7⟩ := dec_parts h0
    split at h
    · cases h
    · rename_i hp
      constructor
      · unfold encC decQ
        simp only
        rw [flatF_pairF _ (by omega), flatF_pairF _ (by omega)]
        exact e1.symm
      · have p4 := pairF_len (dS4 bs).2
        have p5 := pairF_len (dS5 bs).2
        exact ⟨l2, pairF_I64 _ l4.2, pairF_I64 _ l5.2, by show (pairF _).length ≤ _; omega, by show (pairF _).length ≤ _; omega, Nat.le_trans l1 (by decide), Nat.le_trans l3 (by decide), Nat.le_trans l6 (by decide), Nat.le_trans l7 (by decide)⟩
  · rename_i h0
    exact absurd h h0
/-- what a rule must be like to be decoded -/
structure CrFit (q : Cr) : Prop where
  frm : I64 q.frm
  cnd : ∀ x ∈ q.cnd, I64 x.op ∧ I64 x.n
  due : ∀ x ∈ q.due, I64 x.op ∧ I64 x.n
  lcnd : q.cnd.length ≤ 200
  ldue : q.due.length ≤ 200
  lname : q.name.length ≤ 12
  lon : q.on.length ≤ 12
  lunl : q.unl.length ≤ 12
  lels : q.els.length ≤ 12
theorem CrFit.ok {q : Cr} (h : CrFit q) : CrOk q := ⟨h.frm, h.cnd, h.due, Nat.le_trans h.lcnd (by decide), Nat.le_trans h.ldue (by decide), Nat.le_trans h.lname (by decide), Nat.le_trans h.lon (by decide), Nat.le_trans h.lunl (by decide), Nat.le_trans h.lels (by decide)⟩
theorem dec_steps {q : Cr} (h : CrFit q) (r : Bs) :
    dS1 (encC q ++ r) = (⟨intB q.frm ++ (textB q.on ++ (intsB (flatF q.cnd) ++ (intsB (flatF q.due) ++ (textB q.unl ++ (textB q.els ++ r))))), 0⟩, q.name) ∧
    dS2 (encC q ++ r) = (⟨textB q.on ++ (intsB (flatF q.cnd) ++ (intsB (flatF q.due) ++ (textB q.unl ++ (textB q.els ++ r)))), 0⟩, q.frm) ∧
    dS3 (encC q ++ r) = (⟨intsB (flatF q.cnd) ++ (intsB (flatF q.due) ++ (textB q.unl ++ (textB q.els ++ r))), 0⟩, q.on) ∧
    dS4 (encC q ++ r) = (⟨intsB (flatF q.due) ++ (textB q.unl ++ (textB q.els ++ r)), 0⟩, flatF q.cnd) ∧
    dS5 (encC q ++ r) = (⟨textB q.unl ++ (textB q.els ++ r), 0⟩, flatF q.due) ∧
    dS6 (encC q ++ r) = (⟨textB q.els ++ r, 0⟩, q.unl) ∧ dS7 (encC q ++ r) = (⟨r, 0⟩, q.els) := by
  have f1 := flatF_len q.cnd
  have f2 := flatF_len q.due
  have g1 := h.lcnd
  have g2 := h.ldue
  have s1 : dS1 (encC q ++ r) = (⟨intB q.frm ++ (textB q.on ++ (intsB (flatF q.cnd) ++ (intsB (flatF q.due) ++ (textB q.unl ++ (textB q.els ++ r))))), 0⟩, q.name) := by
    unfold dS1 encC
    simp only [List.append_assoc]
    exact textS_enc h.lname (by decide) _
  have s2 : dS2 (encC q ++ r) = (⟨textB q.on ++ (intsB (flatF q.cnd) ++ (intsB (flatF q.due) ++ (textB q.unl ++ (textB q.els ++ r)))), 0⟩, q.frm) := by
    unfold dS2; rw [s1]; exact intS_enc h.frm _
  have s3 : dS3 (encC q ++ r) = (⟨intsB (flatF q.cnd) ++ (intsB (flatF q.due) ++ (textB q.unl ++ (textB q.els ++ r))), 0⟩, q.on) := by
    unfold dS3; rw [s2]; exact textS_enc h.lon (by decide) _
  have s4 : dS4 (encC q ++ r) = (⟨intsB (flatF q.due) ++ (textB q.unl ++ (textB q.els ++ r)), 0⟩, flatF q.cnd) := by
    unfold dS4; rw [s3]; exact intsS_enc (flatF_I64 h.cnd) (by omega) (by decide) _
  have s5 : dS5 (encC q ++ r) = (⟨textB q.unl ++ (textB q.els ++ r), 0⟩, flatF q.due) := by
    unfold dS5; rw [s4]; exact intsS_enc (flatF_I64 h.due) (by omega) (by decide) _
  have s6 : dS6 (encC q ++ r) = (⟨textB q.els ++ r, 0⟩, q.unl) := by
    unfold dS6; rw [s5]; exact textS_enc h.lunl (by decide) _
  have s7 : dS7 (encC q ++ r) = (⟨r, 0⟩, q.els) := by
    unfold dS7; rw [s6]; exact textS_enc h.lels (by decide) _
  exact ⟨s1, s2, s3, s4, s5, s6, s7⟩
/-- the encoding is decoded -/
theorem dec_enc {q : Cr} (h : CrFit q) (hc : chkC q = 0) : decE (encC q) = 0 ∧ decQ (encC q) = q := by
  obtain ⟨s1, s2, s3, s4, s5, s6, s7⟩ := dec_steps h []
  rw [List.append_nil] at s1 s2 s3 s4 s5 s6 s7
  have hq : decQ (encC q) = q := by
    unfold decQ
    rw [s1, s2, s3, s4, s5, s6, s7]
    simp only
    rw [pairF_flatF, pairF_flatF]
  have f1 := flatF_len q.cnd
  have f2 := flatF_len q.due
  refine ⟨?_, hq⟩
  unfold decE
  rw [hq, s4, s5, s7]
  simp only
  rw [if_pos (by rfl), if_neg (by omega), if_pos hc]
/-- one more byte -/
theorem dec_more {q : Cr} (h : CrFit q) (b : UInt8) : decE (encC q ++ [b]) = 7 := by
  obtain ⟨s1, s2, s3, s4, s5, s6, s7⟩ := dec_steps h [b]
  unfold decE
  rw [s7]
  have : endS ⟨[b], 0⟩ = 7 := rfl
  simp only
  rw [this, if_neg (by decide)]
/-- a part of the encoding -/
theorem endS_six {s : Rs} (h : s.e = 6) : endS s = 6 := by
  unfold endS
  rw [if_neg (by omega), h]
theorem take_app {α : Type} (a b : List α) (m : Nat) (h : a.length ≤ m) : (a ++ b).take m = a ++ b.take (m - a.length) := by
  rw [List.take_append, List.take_of_length_le h]
theorem dec_short {q : Cr} (h : CrFit q) {m : Nat} (hm : m < (encC q).length) : decE ((encC q).take m) = 6 := by
  have f1 := flatF_len q.cnd
  have f2 := flatF_len q.due
  have g1 := h.lcnd
  have g2 := h.ldue
  generalize hbs : (encC q).take m = bs
  have fin : (dS7 bs).1.e = 6 → decE bs = 6 := fun h7 => by
    unfold decE
    rw [endS_six h7, if_neg (by decide)]
  have b6 : (dS6 bs).1.e = 6 → (dS7 bs).1.e = 6 := fun h => by unfold dS7; rw [textS_bad (by rw [h]; decide)]; exact h
  have b5 : (dS5 bs).1.e = 6 → (dS6 bs).1.e = 6 := fun h => by unfold dS6; rw [textS_bad (by rw [h]; decide)]; exact h
  have b4 : (dS4 bs).1.e = 6 → (dS5 bs).1.e = 6 := fun h => by unfold dS5; rw [intsS_bad (by rw [h]; decide)]; exact h
  have b3 : (dS3 bs).1.e = 6 → (dS4 bs).1.e = 6 := fun h => by unfold dS4; rw [intsS_bad (by rw [h]; decide)]; exact h
  have b2 : (dS2 bs).1.e = 6 → (dS3 bs).1.e = 6 := fun h => by unfold dS3; rw [textS_bad (by rw [h]; decide)]; exact h
  have b1 : (dS1 bs).1.e = 6 → (dS2 bs).1.e = 6 := fun h => by unfold dS2; rw [intS_bad0 (by rw [h]; decide)]; exact h
  have henc : encC q = textB q.name ++ (intB q.frm ++ (textB q.on ++ (intsB (flatF q.cnd) ++ (intsB (flatF q.due) ++ (textB q.unl ++ textB q.els))))) := by simp [encC]
  rw [henc] at hbs hm
  by_cases c1 : m < (textB q.name).length
  · refine fin (b6 (b5 (b4 (b3 (b2 (b1 ?_))))))
    rw [List.take_append_of_le_length (by omega)] at hbs
    unfold dS1
    rw [← hbs]
    exact textS_short h.lname (by decide) c1
  rw [take_app _ _ _ (by omega)] at hbs
  have s1 : dS1 bs = (⟨(intB q.frm ++ (textB q.on ++ (intsB (flatF q.cnd) ++ (intsB (flatF q.due) ++ (textB q.unl ++ textB q.els))))).take (m - (textB q.name).length), 0⟩, q.name) := by
    unfold dS1; rw [← hbs]; exact textS_enc h.lname (by decide) _
  rw [List.length_append] at hm
  generalize hm1 : m - (textB q.name).length = m1 at *
  replace hm : m1 < (intB q.frm ++ (textB q.on ++ (intsB (flatF q.cnd) ++ (intsB (flatF q.due) ++ (textB q.unl ++ textB q.els))))).length := by omega
  by_cases c2 : m1 < (intB q.frm).length
  · refine fin (b6 (b5 (b4 (b3 (b2 ?_)))))
    rw [List.take_append_of_le_length (by omega)] at s1
    unfold dS2
    rw [s1]
    exact intS_short h.frm c2
  rw [take_app _ _ _ (by omega)] at s1
  have s2 : dS2 bs = (⟨(textB q.on ++ (intsB (flatF q.cnd) ++ (intsB (flatF q.due) ++ (textB q.unl ++ textB q.els)))).take (m1 - (intB q.frm).length), 0⟩, q.frm) := by
    unfold dS2; rw [s1]; exact intS_enc h.frm _
  rw [List.length_append] at hm
  generalize hm2 : m1 - (intB q.frm).length = m2 at *
  replace hm : m2 < (textB q.on ++ (intsB (flatF q.cnd) ++ (intsB (flatF q.due) ++ (textB q.unl ++ textB q.els)))).length := by omega
  by_cases c3 : m2 < (textB q.on).length
  · refine fin (b6 (b5 (b4 (b3 ?_))))
    rw [List.take_append_of_le_length (by omega)] at s2
    unfold dS3
    rw [s2]
    exact textS_short h.lon (by decide) c3
  rw [take_app _ _ _ (by omega)] at s2
  have s3 : dS3 bs = (⟨(intsB (flatF q.cnd) ++ (intsB (flatF q.due) ++ (textB q.unl ++ textB q.els))).take (m2 - (textB q.on).length), 0⟩, q.on) := by
    unfold dS3; rw [s2]; exact textS_enc h.lon (by decide) _
  rw [List.length_append] at hm
  generalize hm3 : m2 - (textB q.on).length = m3 at *
  replace hm : m3 < (intsB (flatF q.cnd) ++ (intsB (flatF q.due) ++ (textB q.unl ++ textB q.els))).length := by omega
  by_cases c4 : m3 < (intsB (flatF q.cnd)).length
  · refine fin (b6 (b5 (b4 ?_)))
    rw [List.take_append_of_le_length (by omega)] at s3
    unfold dS4
    rw [s3]
    exact intsS_short (flatF_I64 h.cnd) (by omega) (by decide) c4
  rw [take_app _ _ _ (by omega)] at s3
  have s4 : dS4 bs = (⟨(intsB (flatF q.due) ++ (textB q.unl ++ textB q.els)).take (m3 - (intsB (flatF q.cnd)).length), 0⟩, flatF q.cnd) := by
    unfold dS4; rw [s3]; exact intsS_enc (flatF_I64 h.cnd) (by omega) (by decide) _
  rw [List.length_append] at hm
  generalize hm4 : m3 - (intsB (flatF q.cnd)).length = m4 at *
  replace hm : m4 < (intsB (flatF q.due) ++ (textB q.unl ++ textB q.els)).length := by omega
  by_cases c5 : m4 < (intsB (flatF q.due)).length
  · refine fin (b6 (b5 ?_))
    rw [List.take_append_of_le_length (by omega)] at s4
    unfold dS5
    rw [s4]
    exact intsS_short (flatF_I64 h.due) (by omega) (by decide) c5
  rw [take_app _ _ _ (by omega)] at s4
  have s5 : dS5 bs = (⟨(textB q.unl ++ textB q.els).take (m4 - (intsB (flatF q.due)).length), 0⟩, flatF q.due) := by
    unfold dS5; rw [s4]; exact intsS_enc (flatF_I64 h.due) (by omega) (by decide) _
  rw [List.length_append] at hm
  generalize hm5 : m4 - (intsB (flatF q.due)).length = m5 at *
  replace hm : m5 < (textB q.unl ++ textB q.els).length := by omega
  by_cases c6 : m5 < (textB q.unl).length
  · refine fin (b6 ?_)
    rw [List.take_append_of_le_length (by omega)] at s5
    unfold dS6
    rw [s5]
    exact textS_short h.lunl (by decide) c6
  rw [take_app _ _ _ (by omega)] at s5
  have s6 : dS6 bs = (⟨(textB q.els).take (m5 - (textB q.unl).length), 0⟩, q.unl) := by
    unfold dS6; rw [s5]; exact textS_enc h.lunl (by decide) _
  rw [List.length_append] at hm
  refine fin ?_
  unfold dS7
  rw [s6]
  exact textS_short h.lels (by decide) (by omega)
end Go.Proofs.YtgpibcgebpgmiaaDoor

namespace Go.Proofs.YtgpibcgebpgmiaaDoor
open Go Go.Eng Go.RowKit
set_option linter.unusedVariables false
/-- the code c lies at p in C -/
def Seg (C : List Ins) (p : Nat) (c : List Ins) : Prop := ∃ A B, C = A ++ c ++ B ∧ A.length = p
theorem Seg.left {C a b : List Ins} {p : Nat} (h : Seg C p (a ++ b)) : Seg C p a := by
  obtain ⟨A, B, rfl, hp⟩ := h
  exact ⟨A, b ++ B, by simp, hp⟩
theorem Seg.right {C a b : List Ins} {p : Nat} (h : Seg C p (a ++ b)) : Seg C (p + a.length) b := by
  obtain ⟨A, B, rfl, hp⟩ := h
  exact ⟨A ++ a, B, by simp, by simp [hp]⟩
theorem Seg.at {C r : List Ins} {x : Ins} {p : Nat} (h : Seg C p (x :: r)) : C.getD p ⟨0, 0⟩ = x := by
  obtain ⟨A, B, rfl, hp⟩ := h
  subst hp
  simp
/-- steps from a place on -/
def runP (C : List Ins) : Nat → Nat → List (Option Shp) → Option (List (Option Shp))
  | _, 0, st => some st
  | p, k + 1, st => (stepM st p (C.getD p ⟨0, 0⟩)).bind (runP C (p + 1) k)
theorem runP_add (C : List Ins) (b : Nat) : ∀ (a p : Nat) (st : List (Option Shp)), runP C p (a + b) st = (runP C p a st).bind (runP C (p + a) b)
  | 0, p, st => by simp [runP]
  | a + 1, p, st => by
    rw [show a + 1 + b = (a + b) + 1 by omega, runP, runP]
    cases h : stepM st p (C.getD p ⟨0, 0⟩) with
    | none => rfl
    | some st' =>
      simp only [Option.bind_some]
      rw [runP_add C b a (p + 1) st', show p + 1 + a = p + (a + 1) by omega]
theorem runP_one (C : List Ins) (p : Nat) (st : List (Option Shp)) : runP C p 1 st = stepM st p (C.getD p ⟨0, 0⟩) := by
  rw [runP]
  cases stepM st p (C.getD p ⟨0, 0⟩) <;> rfl
theorem runM_runP (C : List Ins) (st : List (Option Shp)) : ∀ k : Nat, runM C k st = runP C 0 k st
  | 0 => rfl
  | k + 1 => by
    rw [runM, runP_add, runM_runP C st k]
    cases runP C 0 k st with
    | none => rfl
    | some st' => simp only [Option.bind_some, Nat.zero_add]; rw [runP_one]
/-- the code c at p leads from the shape s to the shape s' -/
def Runs (C : List Ins) (p : Nat) (c : List Ins) (s s' : Shp) : Prop :=
  ∀ st : List (Option Shp), st.length = C.length → p + c.length < C.length → st[p]? = some (some s) → (∀ i, p < i → i < p + c.length → st[i]? = some none) →
    (st[p + c.length]? = some none ∨ st[p + c.length]? = some (some s')) →
    ∃ st', runP C p c.length st = some st' ∧ st'.length = C.length ∧ st'[p + c.length]? = some (some s') ∧ ∀ i, p + c.length < i → st'[i]? = st[i]?
theorem reachP {st : List (Option Shp)} {t : Nat} {sh : Shp} (h : t < st.length) (h2 : st[t]? = some none ∨ st[t]? = some (some sh)) :
    ∃ st', reachM st (t : Int) sh = some st' ∧ st'.length = st.length ∧ st'[t]? = some (some sh) ∧ ∀ i, i ≠ t → st'[i]? = st[i]? := by
  unfold reachM
  rw [if_pos (by omega), Int.toNat_natCast, List.getD_eq_getElem?_getD]
  rcases h2 with h2 | h2
  · rw [h2]
    exact ⟨_, rfl, by simp, by simp [h], fun i hi => List.getElem?_set_ne (fun e => hi e.symm)⟩
  · rw [h2]
    simp only [Option.getD_some, if_pos]
    exact ⟨_, rfl, rfl, h2, fun _ _ => rfl⟩
theorem Runs.app {C a b : List Ins} {p : Nat} {s s1 s2 : Shp} (ha : Runs C p a s s1) (hb : Runs C (p + a.length) b s1 s2) (h1 : a ≠ []) (h2 : b ≠ []) : Runs C p (a ++ b) s s2 := by
  intro st hl hlt h0 hn hq
  have l1 := List.length_pos_iff.2 h1
  have l2 := List.length_pos_iff.2 h2
  simp only [List.length_append] at hlt hn hq ⊢
  obtain ⟨st1, r1, e1, e2, e3⟩ := ha st hl (by omega) h0 (fun i hi hi2 => hn i hi (by omega)) (.inl (hn _ (by omega) (by omega)))
  obtain ⟨st2, r2, g1, g2, g3⟩ := hb st1 e1 (by omega) e2 (fun i hi hi2 => by rw [e3 i hi]; exact hn i (by omega) (by omega)) (by rw [e3 _ (by omega), Nat.add_assoc]; exact hq)
  refine ⟨st2, by rw [runP_add, r1]; exact r2, g1, by rw [← Nat.add_assoc]; exact g2, fun i hi => by rw [g3 i (by omega), e3 i (by omega)]⟩
theorem runs_one {C : List Ins} {p : Nat} {x : Ins} {s s' : Shp} (hs : Seg C p [x]) (h1 : x.op ≠ 24) (h2 : x.op ≠ 13) (h3 : x.op ≠ 14) (hx : nextM x s = some s') : Runs C p [x] s s' := by
  intro st hl hlt h0 hn hq
  simp only [List.length_cons, List.length_nil, Nat.zero_add] at hlt hq ⊢
  obtain ⟨st', r1, r2, r3, r4⟩ := reachP (st := st) (t := p + 1) (sh := s') (by omega) hq
  refine ⟨st', ?_, by omega, r3, fun i hi => r4 i (by omega)⟩
  rw [runP_one, hs.at]
  unfold stepM
  rw [List.getD_eq_getElem?_getD, h0]
  simp only [Option.getD_some, hx]
  rw [if_neg h1, if_neg h2, if_neg h3]
  exact r1
/-- operations one behind the other, with at most b values -/
def foldB (b : Nat) : List Ins → Shp → Option Shp
  | [], s => some s
  | x :: r, s => match nextM x s with
    | none => none
    | some s' => if s'.length ≤ b then foldB b r s' else none
theorem next_frame {x : Ins} {ts r s : Shp} (h : nextM x ts = some r) (hl : s.length + r.length ≤ 16) : nextM x (s ++ ts) = some (s ++ r) := by
  unfold nextM at h ⊢
  dsimp only at h ⊢
  split at h
  · rename_i hc
    obtain ⟨c1, c2, c3, c4⟩ := hc
    simp only [Option.some.injEq] at h
    have e1 : (s ++ ts).length - (effF x).1.length = s.length + (ts.length - (effF x).1.length) := by rw [List.length_append]; omega
    have e2 : (s ++ ts).drop (s.length + (ts.length - (effF x).1.length)) = ts.drop (ts.length - (effF x).1.length) := by
      rw [List.drop_append, List.drop_of_length_le (by omega), List.nil_append]
      congr 1
      omega
    have e3 : (s ++ ts).take (s.length + (ts.length - (effF x).1.length)) = s ++ ts.take (ts.length - (effF x).1.length) := by
      rw [List.take_append, List.take_of_length_le (by omega), show s.length + (ts.length - (effF x).1.length) - s.length = ts.length - (effF x).1.length by omega]
    rw [e1, e2, e3]
    have e4 : s ++ ts.take (ts.length - (effF x).1.length) ++ (effF x).2.2.1 = s ++ r := by rw [List.append_assoc, h]
    rw [e4, if_pos ⟨c1, by rw [List.length_append]; omega, c3, by rw [List.length_append]; omega⟩]
  · cases h
theorem runs_line {C : List Ins} (b : Nat) : ∀ (L : List Ins) (p : Nat) (s ts r : Shp), L ≠ [] → Seg C p L → (∀ x ∈ L, x.op ≠ 24 ∧ x.op ≠ 13 ∧ x.op ≠ 14) → foldB b L ts = some r → s.length + b ≤ 16 → Runs C p L (s ++ ts) (s ++ r)
  | [], _, _, _, _, h, _, _, _, _ => absurd rfl h
  | [x], p, s, ts, r, _, hs, ho, hf, hb => by
    obtain ⟨o1, o2, o3⟩ := ho x (by simp)
    unfold foldB at hf
    cases hx : nextM x ts with
    | none => rw [hx] at hf; cases hf
    | some s1 =>
      rw [hx] at hf
      simp only at hf
      split at hf
      · rename_i hl
        simp only [foldB, Option.some.injEq] at hf
        subst hf
        exact runs_one hs o1 o2 o3 (next_frame hx (by omega))
      · cases hf
  | x :: y :: L, p, s, ts, r, _, hs, ho, hf, hb => by
    obtain ⟨o1, o2, o3⟩ := ho x (by simp)
    rw [foldB] at hf
    cases hx : nextM x ts with
    | none => rw [hx] at hf; cases hf
    | some s1 =>
      rw [hx] at hf
      simp only at hf
      split at hf
      · rename_i hl
        have hs1 : Seg C p ([x] ++ (y :: L)) := hs
        exact Runs.app (a := [x]) (runs_one hs1.left o1 o2 o3 (next_frame hx (by omega))) (runs_line b (y :: L) _ s s1 r (by simp) hs1.right (fun z hz => ho z (by simp [hz])) hf hb) (by simp) (by simp)
      · cases hf
/-- a condition and two cases -/
theorem runs_ch {C Lc Ly Ln : List Ins} {p : Nat} {s s' : Shp} (t1 t2 : Int)
    (hs : Seg C p (Lc ++ [⟨14, t1⟩] ++ Ly ++ [⟨13, t2⟩] ++ Ln)) (ht1 : t1 = ((p + Lc.length + 1 + Ly.length + 1 : Nat) : Int)) (ht2 : t2 = ((p + Lc.length + 1 + Ly.length + 1 + Ln.length : Nat) : Int))
    (hc : Runs C p Lc s (s ++ [2])) (hy : Runs C (p + Lc.length + 1) Ly s s') (hn : Runs C (p + Lc.length + 1 + Ly.length + 1) Ln s s') (h1 : Lc ≠ []) (h2 : Ly ≠ []) (h3 : Ln ≠ []) (hl : s.length ≤ 16) (hl' : s'.length ≤ 16) :
    Runs C p (Lc ++ [⟨14, t1⟩] ++ Ly ++ [⟨13, t2⟩] ++ Ln) s s' := by
  intro st hlen hlt h0 hno hq
  have l1 := List.length_pos_iff.2 h1
  have l2 := List.length_pos_iff.2 h2
  have l3 := List.length_pos_iff.2 h3
  have hlen0 : (Lc ++ [(⟨14, t1⟩ : Ins)] ++ Ly ++ [(⟨13, t2⟩ : Ins)] ++ Ln).length = Lc.length + (1 + (Ly.length + (1 + Ln.length))) := by simp only [List.length_append, List.length_cons, List.length_nil]; omega
  rw [hlen0] at hlt hno hq ⊢
  have g14 : C.getD (p + Lc.length) ⟨0, 0⟩ = ⟨14, t1⟩ := (show Seg C (p + Lc.length) (⟨14, t1⟩ :: (Ly ++ [⟨13, t2⟩] ++ Ln)) from (show Seg C p (Lc ++ (⟨14, t1⟩ :: (Ly ++ [⟨13, t2⟩] ++ Ln))) by simpa using hs).right).at
  have g13 : C.getD (p + Lc.length + 1 + Ly.length) ⟨0, 0⟩ = ⟨13, t2⟩ := by
    have h := (show Seg C p ((Lc ++ [⟨14, t1⟩] ++ Ly) ++ (⟨13, t2⟩ :: Ln)) by simpa using hs).right.at
    rw [← h]
    congr 1
    simp only [List.length_append, List.length_cons, List.length_nil]
    omega
  -- the condition
  obtain ⟨st1, r1, e1, e2, e3⟩ := hc st hlen (by omega) h0 (fun i hi hi2 => hno i hi (by omega)) (.inl (hno _ (by omega) (by omega)))
  -- the jump if not
  have n14 : nextM ⟨14, t1⟩ (s ++ [2]) = some s := by
    have := next_frame (x := ⟨14, t1⟩) (ts := [2]) (r := []) (s := s) (by simp [nextM, effF]) (by simpa using hl)
    simpa using this
  obtain ⟨st2, q1, q2, q3, q4⟩ := reachP (st := st1) (t := p + Lc.length + 1 + Ly.length + 1) (sh := s) (by omega) (.inl (by rw [e3 _ (by omega)]; exact hno _ (by omega) (by omega)))
  obtain ⟨st3, u1, u2, u3, u4⟩ := reachP (st := st2) (t := p + Lc.length + 1) (sh := s) (by omega) (.inl (by rw [q4 _ (by omega), e3 _ (by omega)]; exact hno _ (by omega) (by omega)))
  have s14 : runP C (p + Lc.length) 1 st1 = some st3 := by
    rw [runP_one, g14]
    unfold stepM
    rw [List.getD_eq_getElem?_getD, e2]
    simp only [Option.getD_some, n14]
    rw [if_neg (by simp), if_neg (by simp), if_pos trivial, if_pos (by omega), ht1, q1]
    simp only [Option.bind_some]
    rw [← u1]
    congr 1
  -- one case
  obtain ⟨st4, v1, v2, v3, v4⟩ := hy st3 (by omega) (by omega) u3 (fun i hi hi2 => by rw [u4 i (by omega), q4 i (by omega), e3 i (by omega)]; exact hno i (by omega) (by omega)) (.inl (by rw [u4 _ (by omega), q4 _ (by omega), e3 _ (by omega)]; exact hno _ (by omega) (by omega)))
  -- the jump
  have n13 : nextM ⟨13, t2⟩ s' = some s' := by
    simp [nextM, effF, hl']
  have hq4 : st4[p + Lc.length + 1 + Ly.length + 1 + Ln.length]? = st[p + (Lc.length + (1 + (Ly.length + (1 + Ln.length))))]? := by
    rw [v4 _ (by omega), u4 _ (by omega), q4 _ (by omega), e3 _ (by omega)]
    congr 1
    omega
  obtain ⟨st5, w1, w2, w3, w4⟩ := reachP (st := st4) (t := p + Lc.length + 1 + Ly.length + 1 + Ln.length) (sh := s') (by omega) (by rw [hq4]; exact hq)
  have s13 : runP C (p + Lc.length + 1 + Ly.length) 1 st4 = some st5 := by
    rw [runP_one, g13]
    unfold stepM
    rw [List.getD_eq_getElem?_getD, v3]
    simp only [Option.getD_some, n13]
    rw [if_neg (by simp), if_pos trivial, if_pos (by omega), ht2, w1]
  -- the other case
  obtain ⟨st6, x1, x2, x3, x4⟩ := hn st5 (by omega) (by omega) (by rw [w4 _ (by omega), v4 _ (by omega), u4 _ (by omega)]; exact q3) (fun i hi hi2 => by rw [w4 i (by omega), v4 i (by omega), u4 i (by omega), q4 i (by omega), e3 i (by omega)]; exact hno i (by omega) (by omega)) (.inr w3)
  refine ⟨st6, ?_, x2, ?_, fun i hi => by rw [x4 i (by omega), w4 i (by omega), v4 i (by omega), u4 i (by omega), q4 i (by omega), e3 i (by omega)]⟩
  · rw [runP_add, r1, Option.bind_some, runP_add, s14, Option.bind_some, runP_add, v1, Option.bind_some, runP_add, s13, Option.bind_some]
    exact x1
  · rw [← x3]
    congr 1
    omega
end Go.Proofs.YtgpibcgebpgmiaaDoor
