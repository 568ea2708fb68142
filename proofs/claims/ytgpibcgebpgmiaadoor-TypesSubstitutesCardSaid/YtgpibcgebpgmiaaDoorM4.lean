/-
Merged by program out of own texts: Ver7b, Ver7c, Eng15, Ver8, Ver9, Ver10, Ver11, Liv2, Eng16, Arg15, Arg16, Wlk1, Eng17, Shl, Nam1, Nam2, Nam3, Nam4, Rg1, Rul1.
-/
import Derived.Test.YtgpibcgebpgmiaaDoorM3
import Derived.HandedShaped
import Derived.LaidMore
import Derived.OpenShut
import Derived.ProofKit
import Derived.Stop.Joined
import Derived.SevenTiedAt
import Derived.MakeChecks
import Derived.Test.YtgpibcgebpgmiaaDoorRows
import Derived.Test.YtgpibcgebpgmiaaDoorTie
import Derived.Test.YtgpibcgebpgmiaaDoorCards
import Derived.Lib.ConvBytes
import Derived.Laws.AppendOwn
import Derived.Shelf.Small.Bits
import Derived.Shelf.Strconv.Itoa0
import Derived.Shelf.Strings.Search1
import Derived.Shelf.Strings.Search2
import Derived.Shelf.Strings.Search3
import Derived.Shelf.LaysM
import Derived.Shelf.Strings.Shaped
import Derived.Shelf.Sort.Plain
import Derived.Ground.Names2Prog
import Derived.Shelf.Slices.CompactI
import Derived.Shelf.Slices.SearchI
import Derived.Shelf.Slices.Cells
import Derived.Shelf.Slices.In.SortNone
import Derived.Ground.SlbCloneProg
import Derived.Shelf.Bytes.SlClone
import Derived.Test.YtgpibcgebpgmiaaDoorProg

namespace Go.Proofs.YtgpibcgebpgmiaaDoor
open Go Go.Eng Go.RowKit
set_option linter.unusedVariables false
theorem aft1 {n : Int} {s : Shp} {a z : Nat} (hs : okS s) : firstM n (encS s) (rowsF ⟨1, n⟩ a z) = (nextM ⟨1, n⟩ s).map encS :=
  after_one (x := ⟨1, n⟩) (t := []) (g := [1]) (lo := -2147483647) (hi := 2147483647) hs (by intro k hk; simp at hk) rfl (by simp)
theorem aft2 {n : Int} {s : Shp} {a z : Nat} (hs : okS s) : firstM n (encS s) (rowsF ⟨2, n⟩ a z) = (nextM ⟨2, n⟩ s).map encS :=
  after_one (x := ⟨2, n⟩) (t := []) (g := [2]) (lo := 0) (hi := 1) hs (by intro k hk; simp at hk) rfl (by simp; omega)
theorem aft3 {n : Int} {s : Shp} {a z : Nat} (hs : okS s) : firstM n (encS s) (rowsF ⟨3, n⟩ a z) = (nextM ⟨3, n⟩ s).map encS :=
  after_one (x := ⟨3, n⟩) (t := []) (g := [3]) (lo := 0) (hi := 3652058) hs (by intro k hk; simp at hk) rfl (by simp)
theorem aft4 {n : Int} {s : Shp} {a z : Nat} (hs : okS s) : firstM n (encS s) (rowsF ⟨4, n⟩ a z) = (nextM ⟨4, n⟩ s).map encS := by
  by_cases hr : 0 ≤ n ∧ n < 7
  · have hn : n = 0 ∨ n = 1 ∨ n = 2 ∨ n = 3 ∨ n = 4 ∨ n = 5 ∨ n = 6 := by omega
    rcases hn with rfl | rfl | rfl | rfl | rfl | rfl | rfl
    · exact after_one (x := ⟨4, 0⟩) (t := []) (g := [3]) (lo := 0) (hi := 6) hs (by intro k hk; simp at hk) rfl (by simp)
    · exact after_one (x := ⟨4, 1⟩) (t := []) (g := [3]) (lo := 0) (hi := 6) hs (by intro k hk; simp at hk) rfl (by simp)
    · exact after_one (x := ⟨4, 2⟩) (t := []) (g := [1]) (lo := 0) (hi := 6) hs (by intro k hk; simp at hk) rfl (by simp)
    · exact after_one (x := ⟨4, 3⟩) (t := []) (g := [1]) (lo := 0) (hi := 6) hs (by intro k hk; simp at hk) rfl (by simp)
    · exact after_one (x := ⟨4, 4⟩) (t := []) (g := [1]) (lo := 0) (hi := 6) hs (by intro k hk; simp at hk) rfl (by simp)
    · exact after_one (x := ⟨4, 5⟩) (t := []) (g := [1]) (lo := 0) (hi := 6) hs (by intro k hk; simp at hk) rfl (by simp)
    · exact after_one (x := ⟨4, 6⟩) (t := []) (g := [1]) (lo := 0) (hi := 6) hs (by intro k hk; simp at hk) rfl (by simp)
  · have e1 : rowsF ⟨4, n⟩ a z = [] := if_neg hr
    have e2 : nextM ⟨4, n⟩ s = none := if_neg (fun h => hr (of_decide_eq_true h.1))
    rw [e1, e2]; rfl
theorem aft5 {n : Int} {s : Shp} {a z : Nat} (hs : okS s) : firstM n (encS s) (rowsF ⟨5, n⟩ a z) = (nextM ⟨5, n⟩ s).map encS :=
  after_one (x := ⟨5, n⟩) (t := [1, 1]) (g := [1]) (lo := 0) (hi := 0) hs (by intro k hk; simp at hk; omega) rfl (by simp; omega)
theorem aft6 {n : Int} {s : Shp} {a z : Nat} (hs : okS s) : firstM n (encS s) (rowsF ⟨6, n⟩ a z) = (nextM ⟨6, n⟩ s).map encS :=
  after_one (x := ⟨6, n⟩) (t := [1, 1]) (g := [1]) (lo := 0) (hi := 0) hs (by intro k hk; simp at hk; omega) rfl (by simp; omega)
theorem aft7 {n : Int} {s : Shp} {a z : Nat} (hs : okS s) : firstM n (encS s) (rowsF ⟨7, n⟩ a z) = (nextM ⟨7, n⟩ s).map encS :=
  after_one (x := ⟨7, n⟩) (t := [1, 1]) (g := [1]) (lo := 0) (hi := 0) hs (by intro k hk; simp at hk; omega) rfl (by simp; omega)
theorem aft8 {n : Int} {s : Shp} {a z : Nat} (hs : okS s) : firstM n (encS s) (rowsF ⟨8, n⟩ a z) = (nextM ⟨8, n⟩ s).map encS :=
  after_one (x := ⟨8, n⟩) (t := [1]) (g := [1]) (lo := 0) (hi := 0) hs (by intro k hk; simp at hk; omega) rfl (by simp; omega)
theorem aft9 {n : Int} {s : Shp} {a z : Nat} (hs : okS s) : firstM n (encS s) (rowsF ⟨9, n⟩ a z) = (nextM ⟨9, n⟩ s).map encS :=
  after_two (x := ⟨9, n⟩) (t := [1, 1]) (u := [3, 3]) (g := [2]) hs (by intro k hk; simp at hk; omega) (by intro k hk; simp at hk; omega) rfl (by simp) rfl
theorem aft10 {n : Int} {s : Shp} {a z : Nat} (hs : okS s) : firstM n (encS s) (rowsF ⟨10, n⟩ a z) = (nextM ⟨10, n⟩ s).map encS :=
  after_two (x := ⟨10, n⟩) (t := [1, 1]) (u := [3, 3]) (g := [2]) hs (by intro k hk; simp at hk; omega) (by intro k hk; simp at hk; omega) rfl (by simp) rfl
theorem aft11 {n : Int} {s : Shp} {a z : Nat} (hs : okS s) : firstM n (encS s) (rowsF ⟨11, n⟩ a z) = (nextM ⟨11, n⟩ s).map encS :=
  after_two (x := ⟨11, n⟩) (t := [1, 1]) (u := [3, 3]) (g := [2]) hs (by intro k hk; simp at hk; omega) (by intro k hk; simp at hk; omega) rfl (by simp) rfl
theorem aft12 {n : Int} {s : Shp} {a z : Nat} (hs : okS s) : firstM n (encS s) (rowsF ⟨12, n⟩ a z) = (nextM ⟨12, n⟩ s).map encS :=
  after_one (x := ⟨12, n⟩) (t := [2]) (g := [2]) (lo := 0) (hi := 0) hs (by intro k hk; simp at hk; omega) rfl (by simp; omega)
theorem aft13 {n : Int} {s : Shp} {a z : Nat} (hs : okS s) : firstM n (encS s) (rowsF ⟨13, n⟩ a z) = if ¬ ((a : Int) + 1 ≤ n ∧ n ≤ (z : Int) - 1) then none else (nextM ⟨13, n⟩ s).map encS :=
  after_jump (x := ⟨13, n⟩) (t := []) (lo := (a : Int) + 1) (hi := (z : Int) - 1) hs (by intro k hk; simp at hk) rfl
theorem aft14 {n : Int} {s : Shp} {a z : Nat} (hs : okS s) : firstM n (encS s) (rowsF ⟨14, n⟩ a z) = if ¬ ((a : Int) + 1 ≤ n ∧ n ≤ (z : Int) - 1) then none else (nextM ⟨14, n⟩ s).map encS :=
  after_jump (x := ⟨14, n⟩) (t := [2]) (lo := (a : Int) + 1) (hi := (z : Int) - 1) hs (by intro k hk; simp at hk; omega) rfl
theorem aft15 {n : Int} {s : Shp} {a z : Nat} (hs : okS s) : firstM n (encS s) (rowsF ⟨15, n⟩ a z) = (nextM ⟨15, n⟩ s).map encS :=
  after_one (x := ⟨15, n⟩) (t := [3, 1]) (g := [3]) (lo := 0) (hi := 0) hs (by intro k hk; simp at hk; omega) rfl (by simp; omega)
theorem aft16 {n : Int} {s : Shp} {a z : Nat} (hs : okS s) : firstM n (encS s) (rowsF ⟨16, n⟩ a z) = (nextM ⟨16, n⟩ s).map encS :=
  after_one (x := ⟨16, n⟩) (t := [3, 1]) (g := [3]) (lo := 0) (hi := 0) hs (by intro k hk; simp at hk; omega) rfl (by simp; omega)
theorem aft17 {n : Int} {s : Shp} {a z : Nat} (hs : okS s) : firstM n (encS s) (rowsF ⟨17, n⟩ a z) = (nextM ⟨17, n⟩ s).map encS :=
  after_one (x := ⟨17, n⟩) (t := [3, 1]) (g := [3]) (lo := 0) (hi := 0) hs (by intro k hk; simp at hk; omega) rfl (by simp; omega)
theorem aft18 {n : Int} {s : Shp} {a z : Nat} (hs : okS s) : firstM n (encS s) (rowsF ⟨18, n⟩ a z) = (nextM ⟨18, n⟩ s).map encS :=
  after_one (x := ⟨18, n⟩) (t := [3, 1]) (g := [3]) (lo := 0) (hi := 0) hs (by intro k hk; simp at hk; omega) rfl (by simp; omega)
theorem aft19 {n : Int} {s : Shp} {a z : Nat} (hs : okS s) : firstM n (encS s) (rowsF ⟨19, n⟩ a z) = (nextM ⟨19, n⟩ s).map encS :=
  after_one (x := ⟨19, n⟩) (t := [3]) (g := [3]) (lo := 0) (hi := 0) hs (by intro k hk; simp at hk; omega) rfl (by simp; omega)
theorem aft20 {n : Int} {s : Shp} {a z : Nat} (hs : okS s) : firstM n (encS s) (rowsF ⟨20, n⟩ a z) = (nextM ⟨20, n⟩ s).map encS :=
  after_one (x := ⟨20, n⟩) (t := [3]) (g := [3]) (lo := 0) (hi := 0) hs (by intro k hk; simp at hk; omega) rfl (by simp; omega)
theorem aft21 {n : Int} {s : Shp} {a z : Nat} (hs : okS s) : firstM n (encS s) (rowsF ⟨21, n⟩ a z) = (nextM ⟨21, n⟩ s).map encS :=
  after_one (x := ⟨21, n⟩) (t := [3, 3]) (g := [3]) (lo := 0) (hi := 0) hs (by intro k hk; simp at hk; omega) rfl (by simp; omega)
theorem aft22 {n : Int} {s : Shp} {a z : Nat} (hs : okS s) : firstM n (encS s) (rowsF ⟨22, n⟩ a z) = (nextM ⟨22, n⟩ s).map encS :=
  after_one (x := ⟨22, n⟩) (t := [3, 3]) (g := [3]) (lo := 0) (hi := 0) hs (by intro k hk; simp at hk; omega) rfl (by simp; omega)
theorem aft23 {n : Int} {s : Shp} {a z : Nat} (hs : okS s) : firstM n (encS s) (rowsF ⟨23, n⟩ a z) = (nextM ⟨23, n⟩ s).map encS :=
  after_one (x := ⟨23, n⟩) (t := [3, 3]) (g := [1]) (lo := 0) (hi := 0) hs (by intro k hk; simp at hk; omega) rfl (by simp; omega)
theorem aft24 {n : Int} {s : Shp} {a z : Nat} (hs : okS s) : firstM n (encS s) (rowsF ⟨24, n⟩ a z) = (nextM ⟨24, n⟩ s).map encS :=
  after_one (x := ⟨24, n⟩) (t := []) (g := []) (lo := 0) (hi := 0) hs (by intro k hk; simp at hk) rfl (by simp; omega)
theorem rows_no {op n : Int} {a z : Nat} (h : ¬ (1 ≤ op ∧ op ≤ 24)) : rowsF ⟨op, n⟩ a z = [] := by
  have h1 : ∀ k : Int, 1 ≤ k → k ≤ 24 → ¬ op = k := fun k h1 h2 e => h (by omega)
  simp only [rowsF]
  rw [if_neg (h1 1 (by decide) (by decide))]
  rw [if_neg (h1 2 (by decide) (by decide))]
  rw [if_neg (h1 3 (by decide) (by decide))]
  rw [if_neg (h1 4 (by decide) (by decide))]
  rw [if_neg (not_or.2 ⟨h1 5 (by decide) (by decide), (not_or.2 ⟨h1 6 (by decide) (by decide), (h1 7 (by decide) (by decide))⟩)⟩)]
  rw [if_neg (h1 8 (by decide) (by decide))]
  rw [if_neg (not_or.2 ⟨h1 9 (by decide) (by decide), (not_or.2 ⟨h1 10 (by decide) (by decide), (h1 11 (by decide) (by decide))⟩)⟩)]
  rw [if_neg (h1 12 (by decide) (by decide))]
  rw [if_neg (h1 13 (by decide) (by decide))]
  rw [if_neg (h1 14 (by decide) (by decide))]
  rw [if_neg (not_or.2 ⟨h1 15 (by decide) (by decide), (not_or.2 ⟨h1 16 (by decide) (by decide), (not_or.2 ⟨h1 17 (by decide) (by decide), (h1 18 (by decide) (by decide))⟩)⟩)⟩)]
  rw [if_neg (not_or.2 ⟨h1 19 (by decide) (by decide), (h1 20 (by decide) (by decide))⟩)]
  rw [if_neg (not_or.2 ⟨h1 21 (by decide) (by decide), (h1 22 (by decide) (by decide))⟩)]
  rw [if_neg (h1 23 (by decide) (by decide))]
  rw [if_neg (h1 24 (by decide) (by decide))]
theorem eff_no {op n : Int} (h : ¬ (1 ≤ op ∧ op ≤ 24)) : effF ⟨op, n⟩ = ([], [], [], false) := by
  have h1 : ∀ k : Int, 1 ≤ k → k ≤ 24 → ¬ op = k := fun k h1 h2 e => h (by omega)
  simp only [effF]
  rw [if_neg (h1 1 (by decide) (by decide))]
  rw [if_neg (h1 2 (by decide) (by decide))]
  rw [if_neg (h1 3 (by decide) (by decide))]
  rw [if_neg (h1 4 (by decide) (by decide))]
  rw [if_neg (h1 13 (by decide) (by decide))]
  rw [if_neg (h1 14 (by decide) (by decide))]
  rw [if_neg (not_or.2 ⟨h1 5 (by decide) (by decide), (not_or.2 ⟨h1 6 (by decide) (by decide), (h1 7 (by decide) (by decide))⟩)⟩)]
  rw [if_neg (h1 8 (by decide) (by decide))]
  rw [if_neg (not_or.2 ⟨h1 9 (by decide) (by decide), (not_or.2 ⟨h1 10 (by decide) (by decide), (h1 11 (by decide) (by decide))⟩)⟩)]
  rw [if_neg (h1 12 (by decide) (by decide))]
  rw [if_neg (not_or.2 ⟨h1 15 (by decide) (by decide), (not_or.2 ⟨h1 16 (by decide) (by decide), (not_or.2 ⟨h1 17 (by decide) (by decide), (h1 18 (by decide) (by decide))⟩)⟩)⟩)]
  rw [if_neg (not_or.2 ⟨h1 19 (by decide) (by decide), (h1 20 (by decide) (by decide))⟩)]
  rw [if_neg (not_or.2 ⟨h1 21 (by decide) (by decide), (h1 22 (by decide) (by decide))⟩)]
  rw [if_neg (h1 23 (by decide) (by decide))]
  rw [if_neg (h1 24 (by decide) (by decide))]
theorem after_next {x : Ins} {s : Shp} {a z : Nat} (hs : okS s) :
    afterM x a z (encS s) = if (x.op = 13 ∨ x.op = 14) ∧ ¬ ((a : Int) + 1 ≤ x.n ∧ x.n ≤ (z : Int) - 1) then none else (nextM x s).map encS := by
  obtain ⟨op, n⟩ := x
  unfold afterM
  by_cases hr : 1 ≤ op ∧ op ≤ 24
  · have hn : op = 1 ∨ op = 2 ∨ op = 3 ∨ op = 4 ∨ op = 5 ∨ op = 6 ∨ op = 7 ∨ op = 8 ∨ op = 9 ∨ op = 10 ∨ op = 11 ∨ op = 12 ∨ op = 13 ∨ op = 14 ∨ op = 15 ∨ op = 16 ∨ op = 17 ∨ op = 18 ∨ op = 19 ∨ op = 20 ∨ op = 21 ∨ op = 22 ∨ op = 23 ∨ op = 24 := by omega
    rcases hn with rfl | rfl | rfl | rfl | rfl | rfl | rfl | rfl | rfl | rfl | rfl | rfl | rfl | rfl | rfl | rfl | rfl | rfl | rfl | rfl | rfl | rfl | rfl | rfl
    · rw [if_neg (by simp)]; exact aft1 hs
    · rw [if_neg (by simp)]; exact aft2 hs
    · rw [if_neg (by simp)]; exact aft3 hs
    · rw [if_neg (by simp)]; exact aft4 hs
    · rw [if_neg (by simp)]; exact aft5 hs
    · rw [if_neg (by simp)]; exact aft6 hs
    · rw [if_neg (by simp)]; exact aft7 hs
    · rw [if_neg (by simp)]; exact aft8 hs
    · rw [if_neg (by simp)]; exact aft9 hs
    · rw [if_neg (by simp)]; exact aft10 hs
    · rw [if_neg (by simp)]; exact aft11 hs
    · rw [if_neg (by simp)]; exact aft12 hs
    · simp only [true_or, true_and]; exact aft13 hs
    · simp only [or_true, true_and]; exact aft14 hs
    · rw [if_neg (by simp)]; exact aft15 hs
    · rw [if_neg (by simp)]; exact aft16 hs
    · rw [if_neg (by simp)]; exact aft17 hs
    · rw [if_neg (by simp)]; exact aft18 hs
    · rw [if_neg (by simp)]; exact aft19 hs
    · rw [if_neg (by simp)]; exact aft20 hs
    · rw [if_neg (by simp)]; exact aft21 hs
    · rw [if_neg (by simp)]; exact aft22 hs
    · rw [if_neg (by simp)]; exact aft23 hs
    · rw [if_neg (by simp)]; exact aft24 hs
  · rw [if_neg (fun h => by have := h.1; dsimp only at this; omega)]
    have e2 : nextM ⟨op, n⟩ s = none := by
      unfold nextM
      rw [eff_no hr]
      exact if_neg (fun h => by cases h.1)
    dsimp only
    rw [rows_no hr, e2]; rfl
end Go.Proofs.YtgpibcgebpgmiaaDoor

namespace Go.Proofs.YtgpibcgebpgmiaaDoor
open Go Go.Eng Go.RowKit
set_option linter.unusedVariables false
def OkSt (st : List (Option Shp)) : Prop := ∀ s, some s ∈ st → okS s
theorem getD_encO (st : List (Option Shp)) {i : Nat} (h : i < st.length) : (st.map encO).getD i [] = encO (st.getD i none) := by simp [List.getD, h]
theorem set_reach {st : List (Option Shp)} {t : Int} {nx : Shp} (hst : OkSt st) (hn : okS nx) (h0 : 0 ≤ t) (h1 : t < st.length) :
    setR (st.map encO) t (encS nx) = (reachM st t nx).map (List.map encO) := by
  obtain ⟨k, rfl⟩ : ∃ k : Nat, t = (k : Int) := ⟨t.toNat, by omega⟩
  have hk : k < st.length := by omega
  unfold setR reachM
  rw [if_pos (show 0 ≤ (k : Int) ∧ (k : Int) < (st.length : Int) from ⟨h0, h1⟩), Int.toNat_natCast, getD_encO st hk]
  have hg : st.getD k none = st[k] := by simp [List.getD, hk]
  rw [hg]
  cases hs : st[k] with
  | none =>
    rw [if_neg (by simp [encO])]
    simp [List.map_set, encO]
  | some s0 =>
    have hs0 : okS s0 := hst s0 (by rw [← hs]; exact List.getElem_mem hk)
    by_cases he : s0 = nx
    · subst he
      rw [if_neg (by simp [encO])]
      simp only [if_true, Option.map_some, Option.some.injEq]
      refine List.ext_getElem (by simp) (fun j h1 h2 => ?_)
      rw [List.getElem_set]
      split
      · rename_i hj; subst hj; simp [hs, encO]
      · rfl
    · rw [if_pos ⟨by simp only [encO]; exact encS_ne s0, fun h => he (encS_inj hs0 hn h)⟩]
      simp [he]
theorem eff_gives (x : Ins) : okS (effF x).2.2.1 := by
  obtain ⟨op, n⟩ := x
  by_cases hr : 1 ≤ op ∧ op ≤ 24
  · have hn : op = 1 ∨ op = 2 ∨ op = 3 ∨ op = 4 ∨ op = 5 ∨ op = 6 ∨ op = 7 ∨ op = 8 ∨ op = 9 ∨ op = 10 ∨ op = 11 ∨ op = 12 ∨ op = 13 ∨ op = 14 ∨ op = 15 ∨ op = 16 ∨ op = 17 ∨ op = 18 ∨ op = 19 ∨ op = 20 ∨ op = 21 ∨ op = 22 ∨ op = 23 ∨ op = 24 := by omega
    rcases hn with rfl | rfl | rfl | rfl | rfl | rfl | rfl | rfl | rfl | rfl | rfl | rfl | rfl | rfl | rfl | rfl | rfl | rfl | rfl | rfl | rfl | rfl | rfl | rfl
    · intro k hk; simp [effF] at hk; omega
    · intro k hk; simp [effF] at hk; omega
    · intro k hk; simp [effF] at hk; omega
    · show okS [if n = 0 ∨ n = 1 then 3 else 1]
      intro k hk; simp at hk; subst hk; split <;> simp
    · intro k hk; simp [effF] at hk; omega
    · intro k hk; simp [effF] at hk; omega
    · intro k hk; simp [effF] at hk; omega
    · intro k hk; simp [effF] at hk; omega
    · intro k hk; simp [effF] at hk; omega
    · intro k hk; simp [effF] at hk; omega
    · intro k hk; simp [effF] at hk; omega
    · intro k hk; simp [effF] at hk; omega
    · intro k hk; simp [effF] at hk
    · intro k hk; simp [effF] at hk
    · intro k hk; simp [effF] at hk; omega
    · intro k hk; simp [effF] at hk; omega
    · intro k hk; simp [effF] at hk; omega
    · intro k hk; simp [effF] at hk; omega
    · intro k hk; simp [effF] at hk; omega
    · intro k hk; simp [effF] at hk; omega
    · intro k hk; simp [effF] at hk; omega
    · intro k hk; simp [effF] at hk; omega
    · intro k hk; simp [effF] at hk; omega
    · intro k hk; simp [effF] at hk
  · rw [eff_no hr]; intro k hk; simp at hk
theorem next_ok {x : Ins} {s nx : Shp} (hs : okS s) (h : nextM x s = some nx) : okS nx := by
  unfold nextM at h
  dsimp only at h
  split at h
  · cases h; exact okS_app (okS_take hs _) (eff_gives x)
  · cases h
theorem reach_ok {st st' : List (Option Shp)} {t : Int} {nx : Shp} (hst : OkSt st) (hn : okS nx) (h : reachM st t nx = some st') : OkSt st' := by
  unfold reachM at h
  split at h
  · split at h
    · split at h
      · cases h; exact hst
      · cases h
    · cases h
      intro s hs
      rcases List.mem_or_eq_of_mem_set hs with h | h
      · exact hst s h
      · cases h; exact hn
  · cases h
theorem step_ok {st st' : List (Option Shp)} {i : Nat} {x : Ins} (hst : OkSt st) (h : stepM st i x = some st') : OkSt st' ∧ st'.length = st.length := by
  unfold stepM at h
  split at h
  · cases h
  · rename_i s hs
    have hs0 : okS s := by
      refine hst s ?_
      have hi : i < st.length := Nat.lt_of_not_le fun hle => by simp [List.getD, Nat.not_lt.2 hle] at hs
      have : st.getD i none = st[i] := by simp [List.getD, hi]
      rw [← hs, this]; exact List.getElem_mem hi
    split at h
    · cases h
    · rename_i nx hn
      have hnx := next_ok hs0 hn
      split at h
      · split at h
        · cases h; exact ⟨hst, rfl⟩
        · cases h
      split at h
      · split at h
        · exact ⟨reach_ok hst hnx h, reachM_len h⟩
        · cases h
      split at h
      · split at h
        · obtain ⟨s1, h1, h2⟩ := Option.bind_eq_some_iff.1 h
          exact ⟨reach_ok (reach_ok hst hnx h1) hnx h2, by rw [reachM_len h2, reachM_len h1]⟩
        · cases h
      exact ⟨reach_ok hst hnx h, reachM_len h⟩
theorem getD_ok {st : List (Option Shp)} (hst : OkSt st) {i : Nat} {s : Shp} (hi : i < st.length) (h : st.getD i none = some s) : okS s := by
  refine hst s ?_
  have : st.getD i none = st[i] := by simp [List.getD, hi]
  rw [← h, this]; exact List.getElem_mem hi
theorem reach_none {st : List (Option Shp)} {t : Int} {nx : Shp} (h : ¬ t < st.length) : reachM st t nx = none := if_neg (fun h' => h h'.2)
theorem step_eq {st : List (Option Shp)} {i : Nat} {x : Ins} (hst : OkSt st) (hi : i + 1 < st.length) : stepR (st.map encO) i x = (stepM st i x).map (List.map encO) := by
  unfold stepR stepM
  rw [getD_encO st (by omega), List.length_map]
  cases hs : st.getD i none with
  | none =>
    dsimp only [encO]
    cases afterM x i st.length [63] with
    | none => rfl
    | some nx => simp
  | some s =>
    have hs0 := getD_ok hst (by omega) hs
    rw [show encO (some s) = encS s from rfl, after_next hs0]
    dsimp only
    cases hn : nextM x s with
    | none => rw [Option.map_none, ite_self]; rfl
    | some nx =>
      have hnx := next_ok hs0 hn
      have hne := encS_ne s
      dsimp only [Option.map_some]
      by_cases h24 : x.op = 24
      · rw [if_neg (by omega), if_pos h24, if_neg (by omega)]
        dsimp only
        rw [if_pos (Or.inr (fun h => by have := h.1 h24; omega))]
        rfl
      have hiff : ¬ (encS s = [63] ∨ ¬ (x.op = 24 ↔ i + 1 = st.length)) := by
        rintro (h | h)
        · exact hne h
        · exact h ⟨fun h => absurd h h24, fun h => by omega⟩
      by_cases h13 : x.op = 13
      · rw [if_neg h24, if_pos h13]
        by_cases hb : (i : Int) + 1 ≤ x.n ∧ x.n ≤ (st.length : Int) - 1
        · rw [if_neg (fun h => h.2 hb)]
          dsimp only
          rw [if_neg hiff, if_pos (by omega), targF, if_pos (.inl h13), if_neg (by omega)]
          simp only [List.append_nil, setsR]
          rw [set_reach hst hnx (by omega) (by omega)]
          cases reachM st x.n nx <;> rfl
        · rw [if_pos ⟨.inl h13, hb⟩]
          dsimp only
          by_cases h : x.n > i
          · rw [if_pos h, reach_none (by omega)]; rfl
          · rw [if_neg h]; rfl
      by_cases h14 : x.op = 14
      · rw [if_neg h24, if_neg h13, if_pos h14]
        by_cases hb : (i : Int) + 1 ≤ x.n ∧ x.n ≤ (st.length : Int) - 1
        · rw [if_neg (fun h => h.2 hb)]
          dsimp only
          rw [if_neg hiff, if_pos (by omega), targF, if_pos (.inr h14), if_pos ⟨h13, hi⟩]
          simp only [List.cons_append, List.nil_append, setsR]
          rw [set_reach hst hnx (by omega) (by omega)]
          cases hr : reachM st x.n nx with
          | none => rfl
          | some st1 =>
            dsimp only [Option.map_some, Option.bind_some]
            have hl := reachM_len hr
            rw [set_reach (reach_ok hst hnx hr) hnx (by omega) (by omega)]
            cases reachM st1 ((i : Int) + 1) nx <;> rfl
        · rw [if_pos ⟨.inr h14, hb⟩]
          dsimp only
          by_cases h : x.n > i
          · rw [if_pos h, reach_none (by omega)]; rfl
          · rw [if_neg h]; rfl
      rw [if_neg (fun h => h.1.elim h13 h14), if_neg h24, if_neg h13, if_neg h14]
      dsimp only
      rw [if_neg hiff, targF, if_neg (fun h => h.elim h13 h14), if_pos ⟨h13, hi⟩]
      simp only [List.nil_append, setsR]
      rw [set_reach hst hnx (by omega) (by omega)]
      cases reachM st ((i : Int) + 1) nx <;> rfl
def finM (m : Nat) : Option (List (Option Shp)) → Int × Int
  | none => (0, 22)
  | some st => (((st.getD m none).getD []).headD 0, 0)
theorem last_eq {st : List (Option Shp)} {i : Nat} {x : Ins} (hst : OkSt st) (hi : i + 1 = st.length) : finR i (stepR (st.map encO) i x) = finM i (stepM st i x) := by
  unfold stepR stepM
  rw [getD_encO st (by omega), List.length_map]
  cases hs : st.getD i none with
  | none =>
    dsimp only [encO]
    cases afterM x i st.length [63] with
    | none => rfl
    | some nx => simp [finR, finM]
  | some s =>
    have hs0 := getD_ok hst (by omega) hs
    rw [show encO (some s) = encS s from rfl, after_next hs0]
    dsimp only
    cases hn : nextM x s with
    | none => rw [Option.map_none, ite_self]; rfl
    | some nx =>
      dsimp only [Option.map_some]
      by_cases h24 : x.op = 24
      · rw [if_neg (by omega), if_pos h24]
        dsimp only
        rw [if_neg (by rintro (h | h); exact encS_ne s h; exact h ⟨fun _ => hi, fun _ => h24⟩), targF, if_neg (by omega), if_neg (by omega)]
        simp only [List.nil_append, setsR, finR, getD_encO st (show i < st.length by omega), hs, encO]
        rcases s with _ | ⟨k, _ | ⟨k', r⟩⟩
        · simp [encS, finM]
        · rcases hs0 k (by simp) with rfl | rfl | rfl <;> simp [encS, tyB, finM, hi] <;> rw [← List.getD_eq_getElem?_getD, hs] <;> rfl
        · simp [encS, finM]
      refine Eq.trans (b := ((0 : Int), (22 : Int))) ?_ ?_
      · generalize (if (x.op = 13 ∨ x.op = 14) ∧ ¬ ((i : Int) + 1 ≤ x.n ∧ x.n ≤ (st.length : Int) - 1) then none else some (encS nx)) = o
        cases o with
        | none => rfl
        | some nx => dsimp only; rw [if_pos (Or.inr (fun h => h24 (h.2 hi)))]; rfl
      · rw [if_neg h24]
        by_cases h13 : x.op = 13
        · rw [if_pos h13]
          by_cases h : x.n > i
          · rw [if_pos h, reach_none (by omega)]; rfl
          · rw [if_neg h]; rfl
        by_cases h14 : x.op = 14
        · rw [if_neg h13, if_pos h14]
          by_cases h : x.n > i
          · rw [if_pos h, reach_none (by omega)]; rfl
          · rw [if_neg h]; rfl
        rw [if_neg h13, if_neg h14, reach_none (by omega)]; rfl
theorem run_ok {code : List Ins} {st0 : List (Option Shp)} (h0 : OkSt st0) : ∀ k st, runM code k st0 = some st → OkSt st ∧ st.length = st0.length
  | 0, st, h => by cases h; exact ⟨h0, rfl⟩
  | k + 1, st, h => by
    obtain ⟨s1, h1, h2⟩ := Option.bind_eq_some_iff.1 h
    obtain ⟨a, b⟩ := run_ok h0 k s1 h1
    obtain ⟨c, d⟩ := step_ok a h2
    exact ⟨c, by omega⟩
theorem run_eq {code : List Ins} {st0 : List (Option Shp)} (h0 : OkSt st0) : ∀ k, k + 1 ≤ st0.length → runR code k (st0.map encO) = (runM code k st0).map (List.map encO)
  | 0, _ => rfl
  | k + 1, hk => by
    rw [runR, runM, run_eq h0 k (by omega)]
    cases h : runM code k st0 with
    | none => rfl
    | some st =>
      obtain ⟨a, b⟩ := run_ok h0 k st h
      exact step_eq a (by omega)
theorem ver_eq (code : List Ins) : verR code = verM code := by
  unfold verR verM
  by_cases hl : code.length = 0 ∨ code.length > 200
  · rw [if_pos hl, if_pos hl]
  rw [if_neg hl, if_neg hl]
  obtain ⟨m, hm⟩ : ∃ m, code.length = m + 1 := ⟨code.length - 1, by omega⟩
  rw [hm, Nat.add_sub_cancel]
  have h0 : OkSt ((some []) :: List.replicate m none) := by
    intro s hs
    simp at hs
    subst hs
    intro k hk; cases hk
  have e0 : ([] : Str) :: List.replicate m [63] = ((some []) :: List.replicate m none).map encO := by simp [encO, encS]
  have key : finR m (runR code (m + 1) ([] :: List.replicate m [63])) = finM m (runM code (m + 1) ((some []) :: List.replicate m none)) := by
    rw [e0, runR, runM, run_eq h0 m (by simp)]
    cases h : runM code m ((some []) :: List.replicate m none) with
    | none => rfl
    | some st =>
      obtain ⟨a, b⟩ := run_ok h0 m st h
      exact last_eq a (by simp at b; omega)
  exact key
end Go.Proofs.YtgpibcgebpgmiaaDoor
/-
The walk engine, part 15: a drawn region whose world has as many blocks as the one before; a new block by its number.
-/
namespace Go.Eng
open Go Go.RowKit Go.Proofs
set_option linter.unusedVariables false
section
variable {P : Program} {n : Nat} {Q : Exit → Act → World → Prop} {e : Env} {w : World}
theorem WC_drawnE {id : Nat} {l : List Oper} (m : Nat) (S : List Nat) (Lt : List Nat) (ord : List (Nat × Nat)) (hlm : l.length = m) (hm : P.follows .mixedOrders = true) (hs : Region.noSelect l.toArray = true) (hl : Nat.beq (wt ord) l.length = true)
    (hB : checkD l.toArray Lt ord (Array.replicate m false) = true)
    (h : ∀ w', Stp [] w w' → w'.heap.size = w.heap.size → WD P n l.toArray S Lt Q ord e w') : WC P n (.region id l.toArray true) Q e w := by
  subst hlm
  refine ⟨fun a ha => wp_region_any hm ?_⟩
  have h1 := (h { w with drawn := w.drawn + 1 } (Stp.drew [] w) rfl).h _ hs hB a ha
  have h2 := wpAny_of_E (Q := Q) (fun a w hz => hz) _ _ _ _ h1
  rw [Nat.eq_of_beq_eq_true hl] at h2
  simpa using h2
def NewBlkE (w : World) (T : TypeId) (cs : List Value) (v : Value) (w' : World) : Prop := v = .pointer (some ⟨w.heap.size, 0, none⟩) ∧ Blk w' w.heap.size T cs ∧ Stp [] w w'
theorem OE_allocE {d : Option Nat} {ty : TypeId} {pos : String} {af : Array Edge} {g : Option (Nat × Bool)} {t : TypeId} {z : Value} [hz : Zer P t z] : OE P n ⟨d, .alloc t, ty, pos, af, g⟩ e w (NewBlkE w t z.cells.toList) := by
  refine OE_value (v := .pointer (some ⟨w.heap.size, 0, none⟩)) (w' := w.alloc (.cells z.cells t)) (fun a ha => ?_) ?_
  · simp [execOp, Instr.alloc, Zer.run, newVar, newRow, newObj]; rfl
  · have h := newBlk w t z.cells.toList
    obtain ⟨b, hb, hb2, h1, h2⟩ := h
    simp only [Value.pointer.injEq, Option.some.injEq, Addr.mk.injEq] at hb
    obtain ⟨rfl, -⟩ := hb
    exact ⟨rfl, by simpa using h1, by simpa using h2⟩
theorem oper_monoQ {o : Oper} {a : Act} {w : World} {K K' : Act → World → Prop} {Q' : Exit → Act → World → Prop} (h : ∀ a w, K a w → K' a w) (hq : ∀ ex a w, Q' ex a w → Q ex a w)
    (hh : o.wp P a w K Q') : o.wp P a w K' Q := by
  unfold Oper.wp at *
  generalize (execOp a.eval o).run P w = r at *
  cases r with
  | ok n w' =>
    cases n <;> simp only [Oper.upon] at hh ⊢ <;>
      first
        | exact h _ _ hh
        | exact Calls.mono hh (fun e w'' he => by cases e <;> first | exact h _ _ he | exact hq _ _ _ he | exact he.elim (fun a h => h.elim (fun w h => ⟨a, w, hq _ _ _ h⟩)))
        | exact Rows.mono hh (fun _ _ he => h _ _ he)
  | halt x w' => cases x <;> simp only [Oper.upon] at hh ⊢ <;> first | exact hq _ _ _ hh | exact hh
theorem wpList_monoQ {ops : Array Oper} {Q' : Exit → Act → World → Prop} (hq : ∀ ex a w, Q' ex a w → Q ex a w) : ∀ (l : List Oper) (a : Act) (w : World), wpList P ops Q' l a w → wpList P ops Q l a w
  | [], a, w, h => hq _ _ _ h
  | o :: rest, a, w, h => by
    unfold wpList at h ⊢
    split
    · rename_i hw
      rw [if_pos hw] at h
      rcases h with h | ⟨h1, a', w', h2⟩
      · exact .inl (oper_monoQ (fun a w h => wpList_monoQ hq rest a w h) hq h)
      · exact .inr ⟨h1, a', w', hq _ _ _ h2⟩
    · rename_i hw
      rw [if_neg hw] at h
      exact wpList_monoQ hq rest _ _ h
/-- a cut inside a region -/
theorem WL_cutQ {y : Code} {σ : Type} {ops : Array Oper} {l : List Oper} (env : σ → Env) (I : σ → World → Prop)
    (h : WL P n ops (Exit.then (fun a w => ∃ s, Has n (env s) a ∧ I s w) Q) l e w) (k : ∀ s w, I s w → WC P n y Q (env s) w) : WL P n ops (Exit.then (fun a w => y.wp P Q a w) Q) l e w :=
  ⟨fun a ha => wpList_monoQ (fun ex a w hq => by
    cases ex with
    | normal => obtain ⟨s, h1, h2⟩ := hq; exact (k s w h2).h a h1
    | _ => exact hq) l a w (h.h a ha)⟩
end
end Go.Eng

namespace Go.Proofs.YtgpibcgebpgmiaaDoor
open Go Go.Eng Go.RowKit
set_option linter.unusedVariables false

theorem buildSL2 (p q : Option Addr) (l m c d : Nat) (w : World) : (Instr.buildSlice 109 2 #[(0, .slice p l c), (1, .slice q m d)]).run Tryd.prog w = .ok (.slice (some ⟨w.heap.size, 0, none⟩) 2 2) (w.alloc (.cells #[.slice p l c, .slice q m d] 22)) := by kernel_rfl
theorem Vf.shps {w : World} {bv base : Nat} {cv hv sv : Value} {code : List Ins} {st : List (Option Shp)} (h : Vf w bv base cv hv sv code st) : SlV (bv :: ob sv) w hv (shpS st) :=
  h.shp.slvX (fun b hb => by
    rcases List.mem_cons.1 hb with rfl | hb
    · exact h.nh
    · exact fun hb' => h.apart b hb' hb)
theorem Vf.bounds {w : World} {bv base : Nat} {cv hv sv : Value} {code : List Ins} {st : List (Option Shp)} (h : Vf w bv base cv hv sv code st) : ∀ b ∈ bv :: (ob hv ++ ob sv), b < w.heap.size := fun b hb => by
  have := h.blk.lt
  simp only [List.mem_cons, List.mem_append] at hb
  rcases hb with rfl | hb | hb
  · omega
  · exact (h.shp.ob_le b hb).2
  · exact (h.seen.ob_le b hb).2
theorem eff_len (x : Ins) : (effF x).1.length ≤ 2 ∧ (effF x).2.1.length ≤ 2 ∧ (effF x).2.2.1.length ≤ 1 := by
  obtain ⟨op, n⟩ := x
  by_cases hr : 1 ≤ op ∧ op ≤ 24
  · have hn : op = 1 ∨ op = 2 ∨ op = 3 ∨ op = 4 ∨ op = 5 ∨ op = 6 ∨ op = 7 ∨ op = 8 ∨ op = 9 ∨ op = 10 ∨ op = 11 ∨ op = 12 ∨ op = 13 ∨ op = 14 ∨ op = 15 ∨ op = 16 ∨ op = 17 ∨ op = 18 ∨ op = 19 ∨ op = 20 ∨ op = 21 ∨ op = 22 ∨ op = 23 ∨ op = 24 := by omega
    rcases hn with rfl | rfl | rfl | rfl | rfl | rfl | rfl | rfl | rfl | rfl | rfl | rfl | rfl | rfl | rfl | rfl | rfl | rfl | rfl | rfl | rfl | rfl | rfl | rfl <;> simp [effF]
  · rw [eff_no hr]; simp
theorem step_any (bv base : Nat) (cv hv sv : Value) (code : List Ins) (st : List (Option Shp)) (i : Nat) (w : World) (h : Vf w bv base cv hv sv code st) (hi : i < code.length) (hn : code.length ≤ 1000) (h16 : ∀ s, some s ∈ st → s.length ≤ 16) :
    Calls Tryd.prog 70 #[.pointer (some ⟨bv, 0, none⟩), .int .i64 (i : Int)] w (Ret fun r w' => Stp (bv :: (ob hv ++ ob sv)) w w' ∧ r = .bool (stepM st i code[i]).isSome ∧ ∀ st', stepM st i code[i] = some st' → Vf w' bv base cv hv sv code st') := by
  have hlen := h.len
  have hk1 : i < (shpS st).length := by simp [shpS]; omega
  have hk2 : i < (seenS st).length := by simp [seenS]; omega
  have hist : i < st.length := by omega
  refine calls_of_WC2 (n := 140) Tryd.func70 rfl rfl rfl ?_
  refine W ?_
  refine WC_drawnE 17 ([w.heap.size]) [] [(0, 0), (1, 0), (2, 0), (3, 1), (4, 0), (5, 0), (6, 1), (7, 0), (8, 0), (9, 0), (10, 1), (11, 0), (12, 0), (13, 1), (14, 2), (15, 2), (16, 0)] rfl mixed (by kernel_rfl) (by kernel_rfl) (by kernel_rfl) (fun w1 hS1 hz1 => ?_)
  replace h := h.up hS1
  have hbd := h.bounds
  have hX : ∀ b ∈ bv :: (ob hv ++ ob sv), b ∉ [w.heap.size] := fun b hb hb' => by
    have := hbd b hb
    simp at hb'; omega
  obtain ⟨cbl, hcd, hsp⟩ : Blk w1 bv 112 [cv, hv, sv] ∧ SlV [w.heap.size] w1 cv code ∧ SlV [w.heap.size] w1 hv (shpS st) := ⟨h.blk, h.cod.ext (Stp.refl [] _) (by simp) (fun b hb => .inr (by simp at hb; omega)), h.shps.ext (Stp.refl [] _) (by simp) (fun b hb => .inr (by simp at hb; omega))⟩
  have nb : bv ∉ [w.heap.size] := hX bv (by simp)
  obtain ⟨u, hcell, hsu⟩ := hsp.sub hk1
  refine D ?_
  refine WD_read rfl trivial (fun w' hS' => PR_load1 rfl rfl (cell_on hsp hk1 hS' hcell)) rfl ?_
  refine D ?_
  refine WD_eff rfl trivial OE_allocE (fun _ _ h => h.2.2.mono (by simp)) rfl ?_
  rintro _ w2 ⟨rfl, hblk, hS2⟩
  rw [hz1] at hblk ⊢
  refine WD_eff0 rfl trivial (OE_storeA (us := Flat.enc code[i]) rfl rfl rfl rfl (Flat.one _) hblk rfl) (fun _ _ h => h.1) ?_
  rintro _ w3 ⟨hS3, hblk3⟩
  have hS13 : Stp [] w1 w3 := hS2.own hS3 (fun b hb => .inr (by simp at hb; omega))
  replace h := h.up hS13
  replace hS := hS1.trans hS13
  replace hcd := h.cod
  replace cbl := h.blk
  replace hsp := h.shps
  have hsn := h.seen.slv0
  replace hbd := h.bounds
  have hsu3 : SlV [w.heap.size] w3 u (shpS st)[i].l := hsu.ext ((hS2.mono (by simp)).trans hS3) (by simp) (fun _ h => .inl h)
  clear hblk hS1 hS13 hS2 hS3 hsu hcell
  refine D ?_
  refine W ?_
  refine WL_eff (OE_call rfl (evs1 rfl) (effect_any (w.heap.size :: bv :: (ob hv ++ ob sv)) code[i] _ (fun b hb => by rcases List.mem_cons.1 hb with rfl | hb; exact hblk3.lt; exact hbd b hb))) rfl ?_
  rintro _ w4 ⟨va, vb, vc, rfl, sa, sb, sc, hS4⟩
  have hs4 := hsu3.up hS4
  replace hblk3 := hblk3.up hS4
  replace h := h.up hS4
  replace hsn := hsn.up hS4
  replace hS := hS.trans hS4
  replace cbl := cbl.up hS4
  clear hS4 hsu3
  have hM : stepM st i code[i] = stepM st i code[i] := rfl
  conv at hM => rhs; unfold stepM nextM
  have hgd : st.getD i none = st[i] := by simp [List.getD, hist]
  have hsh : (shpS st)[i].l = (st[i]).getD [] := by simp [shpS]
  have hsk : (seenS st)[i] = (st[i]).isSome := by simp [seenS]
  rw [hgd] at hM
  have hlen16 : (shpS st)[i].l.length ≤ 16 := by
    rw [hsh]
    cases hst : st[i] with
    | none => simp
    | some s => exact h16 s (by rw [← hst]; exact List.getElem_mem hist)
  obtain ⟨el1, el2, el3⟩ := eff_len code[i]
  generalize effF code[i] = E at *
  obtain ⟨ta, al, gi, ok⟩ := E
  dsimp only at sa sb sc el1 el2 el3 hM
  generalize hsv : (shpS st)[i].l = s at *
  refine W ?_
  refine WL_cutQ (σ := Bool) (fun q => [(0, .pointer (some ⟨bv, 0, none⟩)), (1, .int .i64 (i : Int)), (4, .bool false), (5, .pointer (some ⟨w.heap.size, 0, none⟩)), (6, u), (9, vc), (11, .int .i64 ((s.length : Int) - (ta.length : Int))), (75, .bool q)])
    (fun q w' => Stp [] w4 w' ∧ q = ! (decide (st[i].isSome = true ∧ ok = true ∧ ta.length ≤ s.length ∧ (s.drop (s.length - ta.length) = ta ∨ al ≠ [] ∧ s.drop (s.length - ta.length) = al)))) ?_ ?_
  · cases ok with
    | false =>
      repeat' (first | refine W1 ?_ | (exfalso; omega) | refine WL_split rfl rfl (fun hg => ?_) (fun hg => ?_) | refine WL_splitB rfl rfl (fun hg => ?_) (fun hg => ?_) | refine WC_cond rfl (fun hc => ?_) (fun hc => ?_) | refine WC_condB rfl (fun hc => ?_) (fun hc => ?_))
      exact WQ_cut true ⟨rfl, rfl, rfl, rfl, rfl, rfl, rfl, rfl, trivial⟩ ⟨Stp.refl _ _, by simp⟩
    | true =>
      cases hst : st[i].isSome with
      | false =>
        rw [hst] at hsk
        repeat' (first | refine W1 ?_ | (exfalso; omega) | refine WL_split rfl rfl (fun hg => ?_) (fun hg => ?_) | refine WL_splitB rfl rfl (fun hg => ?_) (fun hg => ?_) | refine WC_cond rfl (fun hc => ?_) (fun hc => ?_) | refine WC_condB rfl (fun hc => ?_) (fun hc => ?_))
        · exact WQ_cut true ⟨rfl, rfl, rfl, rfl, rfl, rfl, rfl, rfl, trivial⟩ ⟨Stp.refl _ _, by simp⟩
        · exact WQ_cut true ⟨rfl, rfl, rfl, rfl, rfl, rfl, rfl, rfl, trivial⟩ ⟨Stp.refl _ _, by simp⟩
        · exact absurd (show (!(seenS st)[i]) = false by assumption) (by rw [hsk]; decide)
      | true =>
        rw [hst] at hsk
        by_cases hk : ta.length ≤ s.length
        case neg =>
          repeat' (first | refine W1 ?_ | (exfalso; omega) | refine WL_split rfl rfl (fun hg => ?_) (fun hg => ?_) | refine WL_splitB rfl rfl (fun hg => ?_) (fun hg => ?_) | refine WC_cond rfl (fun hc => ?_) (fun hc => ?_) | refine WC_condB rfl (fun hc => ?_) (fun hc => ?_))
          · exact absurd (show (!(seenS st)[i]) = true by assumption) (by rw [hsk]; decide)
          · exact WQ_cut true ⟨rfl, rfl, rfl, rfl, rfl, rfl, rfl, rfl, trivial⟩ ⟨Stp.refl _ _, by simp [hk]⟩
        have hkk : (s.length : Int) - (ta.length : Int) = ((s.length - ta.length : Nat) : Int) := by omega
        have sd : SlV [w.heap.size] w4 (slc u (s.length - ta.length) s.length 1) (s.drop (s.length - ta.length)) := by
          have := hs4.slc (l := s.length - ta.length) (r := s.length) (by omega) (by omega)
          rw [List.take_length] at this
          exact this
        repeat' (first | refine W1 ?_ | (exfalso; omega) | refine WL_split rfl rfl (fun hg => ?_) (fun hg => ?_) | refine WL_splitB rfl rfl (fun hg => ?_) (fun hg => ?_) | refine WC_cond rfl (fun hc => ?_) (fun hc => ?_) | refine WC_condB rfl (fun hc => ?_) (fun hc => ?_))
        · exact absurd (show (!(seenS st)[i]) = true by assumption) (by rw [hsk]; decide)
        refine WL_slice_l rfl hs4 rfl hkk (by omega) rfl ?_
        refine W ?_
        refine WL_eff (OE_call rfl (evs2 rfl rfl) (EqualI_any _ _ _ _ _ (sd.wk (by simp)) (sa.wk (by simp)))) rfl ?_
        rintro _ w5 ⟨rfl, hS5⟩
        replace sb := sb.up hS5
        replace hs4 := hs4.up hS5
        replace sd := sd.up hS5
        repeat' (first | refine W1 ?_ | (exfalso; omega) | refine WL_split rfl rfl (fun hg => ?_) (fun hg => ?_) | refine WL_splitB rfl rfl (fun hg => ?_) (fun hg => ?_) | refine WC_cond rfl (fun hc => ?_) (fun hc => ?_) | refine WC_condB rfl (fun hc => ?_) (fun hc => ?_))
        · have h1 : ¬ s.drop (s.length - ta.length) = ta := by assumption
          have h2 : (al.length : Int) = 0 := by assumption
          have h3 : al = [] := List.length_eq_zero_iff.1 (by omega)
          exact WQ_cut true ⟨rfl, rfl, rfl, rfl, rfl, rfl, rfl, rfl, trivial⟩ ⟨hS5, by simp [h1, h3]⟩
        · have h1 : ¬ s.drop (s.length - ta.length) = ta := by assumption
          have h2 : ¬ (al.length : Int) = 0 := by assumption
          have h3 : al ≠ [] := fun h => h2 (by simp [h])
          refine WL_slice_l rfl hs4 rfl hkk (by omega) rfl ?_
          refine W ?_
          refine WL_eff (OE_call rfl (evs2 rfl rfl) (EqualI_any _ _ _ _ _ (sd.wk (by simp)) (sb.wk (by simp)))) rfl ?_
          rintro _ w6 ⟨rfl, hS6⟩
          refine W ?_
          refine WQ_cut _ ⟨rfl, rfl, rfl, rfl, rfl, rfl, rfl, rfl, trivial⟩ ⟨hS5.trans hS6, ?_⟩
          by_cases h4 : s.drop (s.length - ta.length) = al <;> simp [h1, h3, h4, hk]
        · have h1 : s.drop (s.length - ta.length) = ta := Classical.not_not.1 (by assumption)
          exact WQ_cut false ⟨rfl, rfl, rfl, rfl, rfl, rfl, rfl, rfl, trivial⟩ ⟨hS5, by simp [h1, hk]⟩
  rintro q w5 ⟨hS5, hq⟩
  try dsimp only at hq ⊢
  replace hs4 := hs4.up hS5
  replace sc := sc.up hS5
  replace hblk3 := hblk3.up hS5
  replace h := h.up hS5
  replace cbl := cbl.up hS5
  replace hS := hS.trans hS5
  clear hS5
  by_cases hC : st[i].isSome = true ∧ ok = true ∧ ta.length ≤ s.length ∧ (s.drop (s.length - ta.length) = ta ∨ al ≠ [] ∧ s.drop (s.length - ta.length) = al)
  case neg =>
    obtain rfl : q = true := by rw [hq, decide_eq_false hC]; rfl
    have hnone : stepM st i code[i] = none := by
      rw [hM]
      cases hst : st[i] with
      | none => rfl
      | some s0 =>
        obtain rfl : s = s0 := by rw [hsh, hst]; rfl
        dsimp only
        rw [if_neg (fun h => hC ⟨by rw [hst]; rfl, h.1, h.2.1, h.2.2.1⟩)]
    refine W ?_
    first | refine WQ_ret1 rfl rfl ?_ | refine WQ_ret2 rfl rfl rfl ?_ | refine WQ_ret3 rfl rfl rfl rfl ?_ | refine WQ_ret0 rfl ?_ | refine WQ_end0 rfl ?_
    exact .mk ⟨hS.mono (by simp), by rw [hnone]; rfl, fun st' h => by rw [hnone] at h; cases h⟩
  obtain rfl : q = false := by rw [hq, decide_eq_true hC]; rfl
  obtain ⟨hst', hok, hk, hC4⟩ := hC
  have hst : st[i] = some s := by
    cases hst : st[i] with
    | none => rw [hst] at hst'; cases hst'
    | some s0 => rw [hsh, hst]; rfl
  rw [hst] at hM
  dsimp only at hM
  have hkk : (s.length : Int) - (ta.length : Int) = ((s.length - ta.length : Nat) : Int) := by omega
  have sk : SlV [w.heap.size] w5 (slc u 0 (s.length - ta.length) 1) (s.take (s.length - ta.length)) := by
    have := hs4.slc (l := 0) (r := s.length - ta.length) (by omega) (by omega)
    rw [List.drop_zero] at this
    exact this
  obtain ⟨p2, c2, hp2⟩ := sk.len
  obtain ⟨p3, c3, rfl⟩ := sc.len
  refine W ?_
  refine WL_slice_h rfl hs4 rfl hkk (by omega) rfl ?_
  rw [hp2] at sk ⊢
  refine W ?_
  refine WL_eff (OE_buildSlice (vs := [(0, .slice p2 (s.take (s.length - ta.length)).length c2), (1, .slice p3 gi.length c3)]) rfl (buildSL2 _ _ _ _ _ _)) rfl ?_
  rintro bl w6 hN
  have sbl : SlV [] w6 bl [(⟨s.take (s.length - ta.length)⟩ : Sl Int), ⟨gi⟩] := hN.slvS (X := []) (by simp) rfl rfl (fun i hi hi' => match i, hi with | 0, _ => sk.wk (by simp) | 1, _ => sc.wk (by simp)) (by simp [maxLen])
  have hT := NewSl.stp hN
  clear hN
  replace hs4 := hs4.up hT
  replace hblk3 := hblk3.up hT
  replace h := h.up hT
  replace cbl := cbl.up hT
  replace hS := hS.trans hT
  clear hT
  refine WL_eff (OE_call rfl (evs1 rfl) (ConcatI_any _ _ _ sbl (by simp) (by simp; omega))) rfl ?_
  rintro rv w7 hrow
  have hcat : [(⟨s.take (s.length - ta.length)⟩ : Sl Int), ⟨gi⟩].flatMap Sl.l = s.take (s.length - ta.length) ++ gi := by simp
  rw [hcat] at hrow
  have hS7 := hrow.2
  have sr := hrow.slv h.bounds
  replace hs4 := hs4.up hS7
  replace hblk3 := hblk3.up hS7
  replace h := h.up hS7
  replace cbl := cbl.up hS7
  replace hS := hS.trans hS7
  clear hS7 hrow
  by_cases h16n : (s.take (s.length - ta.length) ++ gi).length ≤ 16
  case neg =>
    have hnone : stepM st i code[i] = none := by
      rw [hM, if_neg (fun h => h16n h.2.2.2)]
    repeat' (first | refine W1 ?_ | (exfalso; omega) | refine WL_split rfl rfl (fun hg => ?_) (fun hg => ?_) | refine WL_splitB rfl rfl (fun hg => ?_) (fun hg => ?_) | refine WC_cond rfl (fun hc => ?_) (fun hc => ?_) | refine WC_condB rfl (fun hc => ?_) (fun hc => ?_))
    first | refine WQ_ret1 rfl rfl ?_ | refine WQ_ret2 rfl rfl rfl ?_ | refine WQ_ret3 rfl rfl rfl rfl ?_ | refine WQ_ret0 rfl ?_ | refine WQ_end0 rfl ?_
    exact .mk ⟨hS.mono (by simp), by rw [hnone]; rfl, fun st' h => by rw [hnone] at h; cases h⟩
  rw [if_pos ⟨hok, hk, hC4, h16n⟩] at hM
  dsimp only at hM
  generalize s.take (s.length - ta.length) ++ gi = nx at *
  have hcod := h.cod
  by_cases h24 : code[i].op = 24
  · rw [if_pos h24] at hM
    repeat' (first | refine W1 ?_ | (exfalso; omega) | refine WL_split rfl rfl (fun hg => ?_) (fun hg => ?_) | refine WL_splitB rfl rfl (fun hg => ?_) (fun hg => ?_) | refine WC_cond rfl (fun hc => ?_) (fun hc => ?_) | refine WC_condB rfl (fun hc => ?_) (fun hc => ?_))
    · first | refine WQ_ret1 rfl rfl ?_ | refine WQ_ret2 rfl rfl rfl ?_ | refine WQ_ret3 rfl rfl rfl rfl ?_ | refine WQ_ret0 rfl ?_ | refine WQ_end0 rfl ?_
      by_cases hl1 : s.length = 1
      · have hn : stepM st i code[i] = some st := by rw [hM, if_pos ⟨by omega, hl1⟩]
        exact .mk ⟨hS.mono (by simp), by rw [hn]; congr 1; exact decide_eq_true (by omega), fun st' h' => by rw [hn] at h'; cases h'; exact h⟩
      · have hn : stepM st i code[i] = none := by rw [hM, if_neg (fun h => hl1 h.2)]
        exact .mk ⟨hS.mono (by simp), by rw [hn]; congr 1; exact decide_eq_false (by omega), fun st' h' => by rw [hn] at h'; cases h'⟩
    · first | refine WQ_ret1 rfl rfl ?_ | refine WQ_ret2 rfl rfl rfl ?_ | refine WQ_ret3 rfl rfl rfl rfl ?_ | refine WQ_ret0 rfl ?_ | refine WQ_end0 rfl ?_
      have hn : stepM st i code[i] = none := by rw [hM, if_neg (fun h => by omega)]
      exact .mk ⟨hS.mono (by simp), by rw [hn]; rfl, fun st' h => by rw [hn] at h; cases h⟩
  rw [if_neg h24] at hM
  by_cases h13 : code[i].op = 13
  · rw [if_pos h13] at hM
    by_cases hgt : code[i].n > (i : Int)
    · rw [if_pos hgt] at hM
      repeat' (first | refine W1 ?_ | (exfalso; omega) | refine WL_split rfl rfl (fun hg => ?_) (fun hg => ?_) | refine WL_splitB rfl rfl (fun hg => ?_) (fun hg => ?_) | refine WC_cond rfl (fun hc => ?_) (fun hc => ?_) | refine WC_condB rfl (fun hc => ?_) (fun hc => ?_))
      refine WL_eff (OE_call rfl (evs3 rfl rfl rfl) (reach_any bv base cv hv sv _ code st code[i].n nx _ h (by omega) sr)) rfl ?_
      rintro _ w8 ⟨hS8, rfl, hV⟩
      refine W ?_
      first | refine WQ_ret1 rfl rfl ?_ | refine WQ_ret2 rfl rfl rfl ?_ | refine WQ_ret3 rfl rfl rfl rfl ?_ | refine WQ_ret0 rfl ?_ | refine WQ_end0 rfl ?_
      rw [← hM] at hV
      exact .mk ⟨(hS.mono (by simp)).trans hS8, by rw [hM], hV⟩
    · rw [if_neg hgt] at hM
      repeat' (first | refine W1 ?_ | (exfalso; omega) | refine WL_split rfl rfl (fun hg => ?_) (fun hg => ?_) | refine WL_splitB rfl rfl (fun hg => ?_) (fun hg => ?_) | refine WC_cond rfl (fun hc => ?_) (fun hc => ?_) | refine WC_condB rfl (fun hc => ?_) (fun hc => ?_))
      first | refine WQ_ret1 rfl rfl ?_ | refine WQ_ret2 rfl rfl rfl ?_ | refine WQ_ret3 rfl rfl rfl rfl ?_ | refine WQ_ret0 rfl ?_ | refine WQ_end0 rfl ?_
      exact .mk ⟨hS.mono (by simp), by rw [hM]; rfl, fun st' h => by rw [hM] at h; cases h⟩
  rw [if_neg h13] at hM
  by_cases h14 : code[i].op = 14
  · rw [if_pos h14] at hM
    by_cases hgt : code[i].n > (i : Int)
    · rw [if_pos hgt] at hM
      repeat' (first | refine W1 ?_ | (exfalso; omega) | refine WL_split rfl rfl (fun hg => ?_) (fun hg => ?_) | refine WL_splitB rfl rfl (fun hg => ?_) (fun hg => ?_) | refine WC_cond rfl (fun hc => ?_) (fun hc => ?_) | refine WC_condB rfl (fun hc => ?_) (fun hc => ?_))
      refine WL_eff (OE_call rfl (evs3 rfl rfl rfl) (reach_any bv base cv hv sv _ code st code[i].n nx _ h (by omega) sr)) rfl ?_
      rintro _ w8 ⟨hS8, rfl, hV⟩
      have sr8 := sr.ext (X' := bv :: (ob hv ++ ob sv)) hS8 (fun _ h => h) (fun _ h => .inl h)
      cases hr : reachM st code[i].n nx with
      | none =>
        rw [hr] at hM
        refine W ?_
        first | refine WQ_ret1 rfl rfl ?_ | refine WQ_ret2 rfl rfl rfl ?_ | refine WQ_ret3 rfl rfl rfl rfl ?_ | refine WQ_ret0 rfl ?_ | refine WQ_end0 rfl ?_
        exact .mk ⟨(hS.mono (by simp)).trans hS8, by rw [hM]; rfl, fun st' h => by rw [hM] at h; cases h⟩
      | some st1 =>
        rw [hr] at hM
        have h8 := hV st1 hr
        refine W ?_
        refine WL_eff (OE_call rfl (evs3 rfl rfl rfl) (reach_any bv base cv hv sv _ code st1 ((i : Int) + 1) nx _ h8 (by omega) sr8)) rfl ?_
        rintro _ w9 ⟨hS9, rfl, hV9⟩
        refine W ?_
        first | refine WQ_ret1 rfl rfl ?_ | refine WQ_ret2 rfl rfl rfl ?_ | refine WQ_ret3 rfl rfl rfl rfl ?_ | refine WQ_ret0 rfl ?_ | refine WQ_end0 rfl ?_
        exact .mk ⟨((hS.mono (by simp)).trans hS8).trans hS9, by rw [hM]; rfl, fun st' h => hV9 st' (by rw [hM] at h; exact h)⟩
    · rw [if_neg hgt] at hM
      repeat' (first | refine W1 ?_ | (exfalso; omega) | refine WL_split rfl rfl (fun hg => ?_) (fun hg => ?_) | refine WL_splitB rfl rfl (fun hg => ?_) (fun hg => ?_) | refine WC_cond rfl (fun hc => ?_) (fun hc => ?_) | refine WC_condB rfl (fun hc => ?_) (fun hc => ?_))
      first | refine WQ_ret1 rfl rfl ?_ | refine WQ_ret2 rfl rfl rfl ?_ | refine WQ_ret3 rfl rfl rfl rfl ?_ | refine WQ_ret0 rfl ?_ | refine WQ_end0 rfl ?_
      exact .mk ⟨hS.mono (by simp), by rw [hM]; rfl, fun st' h => by rw [hM] at h; cases h⟩
  rw [if_neg h14] at hM
  repeat' (first | refine W1 ?_ | (exfalso; omega) | refine WL_split rfl rfl (fun hg => ?_) (fun hg => ?_) | refine WL_splitB rfl rfl (fun hg => ?_) (fun hg => ?_) | refine WC_cond rfl (fun hc => ?_) (fun hc => ?_) | refine WC_condB rfl (fun hc => ?_) (fun hc => ?_))
  refine WL_eff (OE_call rfl (evs3 rfl rfl rfl) (reach_any bv base cv hv sv _ code st ((i : Int) + 1) nx _ h (by omega) sr)) rfl ?_
  rintro _ w8 ⟨hS8, rfl, hV⟩
  refine W ?_
  first | refine WQ_ret1 rfl rfl ?_ | refine WQ_ret2 rfl rfl rfl ?_ | refine WQ_ret3 rfl rfl rfl rfl ?_ | refine WQ_ret0 rfl ?_ | refine WQ_end0 rfl ?_
  rw [← hM] at hV
  exact .mk ⟨(hS.mono (by simp)).trans hS8, by rw [hM], hV⟩
end Go.Proofs.YtgpibcgebpgmiaaDoor

namespace Go.Proofs.YtgpibcgebpgmiaaDoor
open Go Go.Eng Go.RowKit
set_option linter.unusedVariables false

theorem buildVf (p q r : Option Addr) (l m k c d f : Nat) (w : World) : (Instr.build 112 #[(0, .slice p l c), (1, .slice q m d), (2, .slice r k f)]).run Tryd.prog w = .ok (.agg #[.slice p l c, .slice q m d, .slice r k f]) w := by kernel_rfl
theorem step16 {st st' : List (Option Shp)} {i : Nat} {x : Ins} (h0 : ∀ s, some s ∈ st → s.length ≤ 16) (h : stepM st i x = some st') : ∀ s, some s ∈ st' → s.length ≤ 16 := by
  have hr : ∀ {st st' : List (Option Shp)} {t : Int} {nx : Shp}, (∀ s, some s ∈ st → s.length ≤ 16) → nx.length ≤ 16 → reachM st t nx = some st' → ∀ s, some s ∈ st' → s.length ≤ 16 := by
    intro st st' t nx hst hn h
    unfold reachM at h
    split at h
    · split at h
      · split at h
        · cases h; exact hst
        · cases h
      · cases h
        intro s hs
        rcases List.mem_or_eq_of_mem_set hs with h | h
        · exact hst s h
        · cases h; exact hn
    · cases h
  have hn : ∀ {s nx : Shp}, nextM x s = some nx → nx.length ≤ 16 := by
    intro s nx h
    unfold nextM at h
    dsimp only at h
    split at h
    · rename_i hc
      cases h; exact hc.2.2.2
    · cases h
  unfold stepM at h
  split at h
  · cases h
  · split at h
    · cases h
    · rename_i nx hn'
      have hnx := hn hn'
      split at h
      · split at h
        · cases h; exact h0
        · cases h
      split at h
      · split at h
        · exact hr h0 hnx h
        · cases h
      split at h
      · split at h
        · obtain ⟨s1, h1, h2⟩ := Option.bind_eq_some_iff.1 h
          exact hr (hr h0 hnx h1) hnx h2
        · cases h
      exact hr h0 hnx h
theorem runM_none {code : List Ins} {st0 : List (Option Shp)} {k : Nat} (h : runM code k st0 = none) : ∀ m, k ≤ m → runM code m st0 = none
  | 0, hm => by
    obtain rfl : k = 0 := by omega
    exact h
  | m + 1, hm => by
    by_cases hk : k = m + 1
    · subst hk; exact h
    · rw [runM, runM_none h m (by omega)]; rfl
theorem runM_len {code : List Ins} {st0 : List (Option Shp)} : ∀ {k : Nat} {st : List (Option Shp)}, runM code k st0 = some st → st.length = st0.length
  | 0, st, h => by cases h; rfl
  | k + 1, st, h => by
    obtain ⟨s1, h1, h2⟩ := Option.bind_eq_some_iff.1 h
    have e1 := runM_len h1
    have e2 : st.length = s1.length := by
      unfold stepM at h2
      split at h2
      · cases h2
      · split at h2
        · cases h2
        · split at h2
          · split at h2
            · cases h2; rfl
            · cases h2
          split at h2
          · split at h2
            · exact reachM_len h2
            · cases h2
          split at h2
          · split at h2
            · obtain ⟨s2, h3, h4⟩ := Option.bind_eq_some_iff.1 h2
              rw [reachM_len h4, reachM_len h3]
            · cases h2
          exact reachM_len h2
    omega
theorem step_last {st st' : List (Option Shp)} {i : Nat} {x : Ins} (hi : i + 1 = st.length) (h : stepM st i x = some st') : st' = st ∧ ∃ k, st.getD i none = some [k] := by
  unfold stepM at h
  cases hs : st.getD i none with
  | none => rw [hs] at h; cases h
  | some s =>
    rw [hs] at h
    dsimp only at h
    split at h
    · cases h
    · rename_i nx hn
      split at h
      · split at h
        · rename_i hc
          cases h
          obtain ⟨k, hk⟩ := List.length_eq_one_iff.1 hc.2
          exact ⟨rfl, k, by rw [hk]⟩
        · cases h
      split at h
      · split at h
        · rw [reach_none (by omega)] at h; cases h
        · cases h
      split at h
      · split at h
        · rw [reach_none (by omega)] at h; cases h
        · cases h
      rw [reach_none (by omega)] at h; cases h
theorem Verify_any (v : Value) (code : List Ins) (w : World) (hs : SlV [] w v code) :
    Calls Tryd.prog 27 #[v] w (Ret fun r w' => r = .tuple #[.int .i64 (verM code).1, .int .i64 (verM code).2] ∧ Stp [] w w') := by
  have hmax := hs.max
  obtain ⟨p, c, rfl, -⟩ := id hs
  refine calls_of_WC1 (n := 49) Tryd.func27 rfl rfl rfl ?_
  refine W ?_
  by_cases h0 : code.length = 0 ∨ code.length > 200
  · have hM : verM code = (0, 22) := if_pos h0
    repeat' (first | refine W1 ?_ | (exfalso; omega) | refine WL_split rfl rfl (fun hg => ?_) (fun hg => ?_) | refine WL_splitB rfl rfl (fun hg => ?_) (fun hg => ?_) | refine WC_cond rfl (fun hc => ?_) (fun hc => ?_) | refine WC_condB rfl (fun hc => ?_) (fun hc => ?_))
    all_goals
      first | refine WQ_ret1 rfl rfl ?_ | refine WQ_ret2 rfl rfl rfl ?_ | refine WQ_ret3 rfl rfl rfl rfl ?_ | refine WQ_ret0 rfl ?_ | refine WQ_end0 rfl ?_
      exact .mk ⟨by rw [hM], Stp.refl _ _⟩
  repeat' (first | refine W1 ?_ | (exfalso; omega) | refine WL_split rfl rfl (fun hg => ?_) (fun hg => ?_) | refine WL_splitB rfl rfl (fun hg => ?_) (fun hg => ?_) | refine WC_cond rfl (fun hc => ?_) (fun hc => ?_) | refine WC_condB rfl (fun hc => ?_) (fun hc => ?_))
  have hn0 : 0 < code.length := by omega
  have hn200 : code.length ≤ 200 := by omega
  refine WC_cutQ (σ := Nat × Value × Value) (fun q => [(0, .slice p code.length c), (4, .pointer (some ⟨q.1, 0, none⟩))]) (fun q w' => Vf w' q.1 w.heap.size (.slice p code.length c) q.2.1 q.2.2 code (List.replicate code.length none) ∧ w.heap.size ≤ q.1 ∧ Stp [] w w') ?_ ?_
  · refine WC_drawn 10 [] [] [(0, 0), (1, 0), (2, 0), (4, 0), (5, 0), (3, 9), (6, 2), (7, 0), (8, 2), (9, 0)] rfl mixed (by kernel_rfl) (by kernel_rfl) (by kernel_rfl) (fun w1 hS1 => ?_)
    have hz1 := hS1.size
    refine D ?_
    apply WD_two
    · rfl
    · refine WD1_eff rfl trivial (OE_makeSlice1 (α := Sl Int) (k := code.length) (a0 := ⟨[]⟩) rfl rfl (fun X w => ⟨_, rfl, nilSlv _ _⟩) rfl rfl (by simp [maxLen]; omega) (by omega)) (fun _ _ h => h.2) rfl ?_
      rintro hv w2 ⟨rh, hS2⟩
      refine D ?_
      refine WD_eff rfl trivial (OE_makeSlice1 (α := Bool) (k := code.length) (a0 := false) rfl rfl (fun X w => rfl) rfl rfl (by simp [maxLen]; omega) (by omega)) (fun _ _ h => h.2) rfl ?_
      rintro sv w3 ⟨rs, hS3⟩
      refine D ?_
      obtain ⟨ph, ch, hph⟩ : ∃ p c, hv = .slice p code.length c := by
        have := ((rh []).slv0).len
        simpa using this
      obtain ⟨ps, cs, hps⟩ : ∃ p c, sv = .slice p code.length c := by
        have := ((rs []).slv0).len
        simpa using this
      have hap : ∀ b ∈ ob hv, b ∉ ob sv := fun b h1 h2 => by
        have := (rh []).ob_le b h1
        have := (rs []).ob_le b h2
        omega
      subst hph hps
      refine WF_build rfl trivial (vs := [(0, .slice p code.length c), (1, .slice ph code.length ch), (2, .slice ps code.length cs)]) rfl (buildVf _ _ _ _ _ _ _ _ _) rfl ?_
      refine WD_eff rfl trivial (OE_box rfl) (fun _ _ h => h.choose_spec.2.2.2) rfl ?_
      rintro _ w4 ⟨bv, rfl, hbn, hblk, hS4⟩
      have hS := (hS1.trans hS2).trans (hS3.trans hS4)
      have hz2 := hS2.size
      have hz3 := hS3.size
      refine D ?_
      refine WQ_cut (bv, .slice ph code.length ch, .slice ps code.length cs) ⟨rfl, rfl, trivial⟩ ⟨?_, by omega, hS⟩
      have b1 : ∀ b ∈ ob (.slice ph code.length ch), w.heap.size ≤ b ∧ b < w3.heap.size := fun b h => by have := (rh []).ob_le b h; omega
      have b2 : ∀ b ∈ ob (.slice ps code.length cs), w.heap.size ≤ b ∧ b < w3.heap.size := fun b h => by have := (rs []).ob_le b h; omega
      have e1 : shpS (List.replicate code.length none) = List.replicate code.length ⟨[]⟩ := by simp [shpS]
      have e2 : seenS (List.replicate code.length none) = List.replicate code.length false := by simp [seenS]
      refine ⟨hblk, hs.ext hS (by simp) (fun b hb => .inr ?_), by rw [e1]; exact ((rh _).lower hS1.size).up (hS3.trans hS4), by rw [e2]; exact ((rs _).lower (Nat.le_trans hS1.size hS2.size)).up hS4, fun h => by have := b1 bv h; omega, fun h => by have := b2 bv h; omega, hS.size, hap, by simp⟩
      simp only [List.mem_cons, List.mem_append] at hb
      rcases hb with rfl | h | h
      · omega
      · exact (b1 b h).1
      · exact (b2 b h).1
    · refine WD1_eff rfl trivial (OE_makeSlice1 (α := Bool) (k := code.length) (a0 := false) rfl rfl (fun X w => rfl) rfl rfl (by simp [maxLen]; omega) (by omega)) (fun _ _ h => h.2) rfl ?_
      rintro sv w2 ⟨rs, hS2⟩
      refine WD_eff rfl trivial (OE_makeSlice1 (α := Sl Int) (k := code.length) (a0 := ⟨[]⟩) rfl rfl (fun X w => ⟨_, rfl, nilSlv _ _⟩) rfl rfl (by simp [maxLen]; omega) (by omega)) (fun _ _ h => h.2) rfl ?_
      rintro hv w3 ⟨rh, hS3⟩
      refine D ?_
      obtain ⟨ph, ch, hph⟩ : ∃ p c, hv = .slice p code.length c := by
        have := ((rh []).slv0).len
        simpa using this
      obtain ⟨ps, cs, hps⟩ : ∃ p c, sv = .slice p code.length c := by
        have := ((rs []).slv0).len
        simpa using this
      have hap : ∀ b ∈ ob hv, b ∉ ob sv := fun b h1 h2 => by
        have := (rh []).ob_le b h1
        have := (rs []).ob_le b h2
        omega
      subst hph hps
      refine WF_build rfl trivial (vs := [(0, .slice p code.length c), (1, .slice ph code.length ch), (2, .slice ps code.length cs)]) rfl (buildVf _ _ _ _ _ _ _ _ _) rfl ?_
      refine WD_eff rfl trivial (OE_box rfl) (fun _ _ h => h.choose_spec.2.2.2) rfl ?_
      rintro _ w4 ⟨bv, rfl, hbn, hblk, hS4⟩
      have hS := (hS1.trans hS2).trans (hS3.trans hS4)
      have hz2 := hS2.size
      have hz3 := hS3.size
      refine D ?_
      refine WQ_cut (bv, .slice ph code.length ch, .slice ps code.length cs) ⟨rfl, rfl, trivial⟩ ⟨?_, by omega, hS⟩
      have b1 : ∀ b ∈ ob (.slice ph code.length ch), w.heap.size ≤ b ∧ b < w3.heap.size := fun b h => by have := (rh []).ob_le b h; omega
      have b2 : ∀ b ∈ ob (.slice ps code.length cs), w.heap.size ≤ b ∧ b < w3.heap.size := fun b h => by have := (rs []).ob_le b h; omega
      have e1 : shpS (List.replicate code.length none) = List.replicate code.length ⟨[]⟩ := by simp [shpS]
      have e2 : seenS (List.replicate code.length none) = List.replicate code.length false := by simp [seenS]
      refine ⟨hblk, hs.ext hS (by simp) (fun b hb => .inr ?_), by rw [e1]; exact ((rh _).lower (Nat.le_trans hS1.size hS2.size)).up hS4, by rw [e2]; exact ((rs _).lower hS1.size).up (hS3.trans hS4), fun h => by have := b1 bv h; omega, fun h => by have := b2 bv h; omega, hS.size, hap, by simp⟩
      simp only [List.mem_cons, List.mem_append] at hb
      rcases hb with rfl | h | h
      · omega
      · exact (b1 b h).1
      · exact (b2 b h).1
  rintro ⟨bv, hv, sv⟩ w2 ⟨h, hbn, hS⟩
  dsimp only at h hbn ⊢
  have hblk := h.blk
  have hsn := h.seen.slv0
  have hl0 : (seenS (List.replicate code.length none)).length = code.length := by simp [seenS]
  have hk0 : 0 < (seenS (List.replicate code.length none)).length := by omega
  refine W ?_
  refine WL_eff0 (OE_storeElX (α := Bool) (y' := true) (u := .bool true) rfl rfl rfl rfl h.seen hk0) ?_
  rintro _ w3 ⟨rs3, hS3⟩
  have hS13 : Stp (bv :: (ob hv ++ ob sv)) w2 w3 := hS3.mono (fun b hb => by simp [hb])
  generalize hst0 : (some [] :: List.replicate (code.length - 1) none : List (Option Shp)) = st0 at *
  have hlen0 : st0.length = code.length := by rw [← hst0]; simp; omega
  obtain ⟨m, hm⟩ : ∃ m, code.length = m + 1 := ⟨code.length - 1, by omega⟩
  have e1 : shpS st0 = shpS (List.replicate code.length none) := by rw [← hst0, hm]; simp [shpS, List.replicate_succ]
  have e2 : seenS st0 = (seenS (List.replicate code.length none)).set 0 true := by rw [← hst0, hm]; simp [seenS, List.replicate_succ]
  have h3 : Vf w3 bv w.heap.size (.slice p code.length c) hv sv code st0 := by
    refine ⟨h.blk.ext hS3 h.ns, h.cod.ext hS13 (fun _ h => h) (fun _ h => .inl h), ?_, ?_, h.nh, h.ns, Nat.le_trans h.hi hS3.size, h.apart, hlen0⟩
    · rw [e1]
      exact h.shp.ext (X' := bv :: ob sv) hS3 (fun b hb => ⟨List.mem_cons_of_mem _ hb, fun hb' => h.apart b hb' hb⟩) (fun _ h => .inl h)
    · rw [e2]; exact rs3
  have hB : ∀ b ∈ bv :: (ob hv ++ ob sv), w.heap.size ≤ b := fun b hb => by
    simp only [List.mem_cons, List.mem_append] at hb
    rcases hb with rfl | hb | hb
    · exact hbn
    · exact (h.shp.ob_le b hb).1
    · exact (h.seen.ob_le b hb).1
  have hS' := hS.own hS13 (fun b hb => .inr (hB b hb))
  have h160 : ∀ s, some s ∈ st0 → s.length ≤ 16 := by
    intro s hs
    rw [← hst0] at hs
    simp at hs
    rw [hs]; simp
  have hverM : verM code = match runM code code.length st0 with
    | none => (0, 22)
    | some st => (((st.getD (code.length - 1) none).getD []).headD 0, 0) := by
    rw [← hst0]; exact if_neg h0
  clear hsn hblk h e1 e2 hS3 hS13 rs3 hS
  refine W ?_
  refine WC_loop (σ := Nat × List (Option Shp)) (fun q => [(0, .slice p code.length c), (4, .pointer (some ⟨bv, 0, none⟩)), (29, .int .i64 (code.length : Int)), (30, .int .i64 (q.1 : Int))])
    (fun q w' => q.1 ≤ code.length ∧ runM code q.1 st0 = some q.2 ∧ Vf w' bv w.heap.size (.slice p code.length c) hv sv code q.2 ∧ (∀ s, some s ∈ q.2 → s.length ≤ 16) ∧ Stp [] w w') (fun q => code.length - q.1) (0, st0) ⟨rfl, rfl, rfl, rfl, trivial⟩ ⟨Nat.zero_le _, rfl, h3, h160, hS'⟩ ?_
  rintro ⟨k, st⟩ w4 ⟨hk, hrun, h4, h16, hS4⟩
  try dsimp only at hk hrun h4 h16 ⊢
  by_cases hlt : k < code.length
  · repeat' (first | refine W1 ?_ | (exfalso; omega) | refine WL_split rfl rfl (fun hg => ?_) (fun hg => ?_) | refine WL_splitB rfl rfl (fun hg => ?_) (fun hg => ?_) | refine WC_cond rfl (fun hc => ?_) (fun hc => ?_) | refine WC_condB rfl (fun hc => ?_) (fun hc => ?_))
    refine WL_eff (OE_call rfl (evs2 rfl rfl) (step_any bv w.heap.size _ hv sv code st k _ h4 hlt (by omega) h16)) rfl ?_
    rintro _ w5 ⟨hS5, rfl, hV⟩
    replace hS5 := hS4.own hS5 (fun b hb => .inr (hB b hb))
    have hcg : code.getD k ⟨0, 0⟩ = code[k] := by simp [List.getD, hlt]
    have hnext : runM code (k + 1) st0 = stepM st k code[k] := by rw [runM, hrun, Option.bind_some, hcg]
    cases hst : stepM st k code[k] with
    | none =>
      have hn : verM code = (0, 22) := by rw [hverM, runM_none (hnext.trans hst) code.length hlt]
      refine W ?_
      first | refine WQ_ret1 rfl rfl ?_ | refine WQ_ret2 rfl rfl rfl ?_ | refine WQ_ret3 rfl rfl rfl rfl ?_ | refine WQ_ret0 rfl ?_ | refine WQ_end0 rfl ?_
      exact .mk ⟨by rw [hn], hS5⟩
    | some st1 =>
      refine W ?_
      exact WQ_loop (k + 1, st1) ⟨rfl, rfl, rfl, rfl, trivial⟩ ⟨hlt, hnext.trans hst, hV st1 hst, step16 h16 hst, hS5⟩ (Nat.sub_lt_sub_left hlt (Nat.lt_succ_self k))
  · obtain rfl : k = code.length := by omega
    have hlst := runM_len hrun
    have hlast : ∃ a, st.getD (code.length - 1) none = some [a] := by
      rw [hm, runM] at hrun
      obtain ⟨s1, r1, r2⟩ := Option.bind_eq_some_iff.1 hrun
      have hl1 := runM_len r1
      obtain ⟨rfl, a, ha⟩ := step_last (by omega) r2
      exact ⟨a, by rw [hm]; exact ha⟩
    obtain ⟨a, ha⟩ := hlast
    have hve : verM code = (a, 0) := by rw [hverM, hrun]; dsimp only; rw [ha]; rfl
    have hblk := h4.blk
    have hshp := h4.shps
    have hshl : (shpS st).length = code.length := by simp [shpS]; omega
    have hkm : m < (shpS st).length := by omega
    have hkk : (code.length : Int) - 1 = (m : Int) := by omega
    obtain ⟨u, hcell, hsu⟩ := hshp.sub hkm
    have hul : (shpS st)[m].l = [a] := by
      have : st.getD m none = some [a] := by rw [← ha, hm]; rfl
      have h2 : st.getD m none = st[m]'(by omega) := by simp [List.getD, show m < st.length by omega]
      have h5 : (shpS st)[m] = ⟨(st[m]'(by omega)).getD []⟩ := by simp [shpS]
      rw [h5, ← h2, this]; rfl
    rw [hul] at hsu
    repeat' (first | refine W1 ?_ | (exfalso; omega) | refine WL_split rfl rfl (fun hg => ?_) (fun hg => ?_) | refine WL_splitB rfl rfl (fun hg => ?_) (fun hg => ?_) | refine WC_cond rfl (fun hc => ?_) (fun hc => ?_) | refine WC_condB rfl (fun hc => ?_) (fun hc => ?_))
    apply WL_pure (PR_load1 rfl rfl hcell) rfl
    have h01 : 0 < [a].length := by simp
    refine W ?_
    first | refine WQ_ret1 rfl rfl ?_ | refine WQ_ret2 rfl rfl rfl ?_ | refine WQ_ret3 rfl rfl rfl rfl ?_ | refine WQ_ret0 rfl ?_ | refine WQ_end0 rfl ?_
    exact .mk ⟨by rw [hve]; rfl, hS4⟩
end Go.Proofs.YtgpibcgebpgmiaaDoor

namespace Go.Proofs.YtgpibcgebpgmiaaDoor
open Go Go.Eng Go.RowKit
set_option linter.unusedVariables false

def aftOut (o : Option Str) : Value := .tuple #[str (o.getD []), .bool o.isSome]
theorem rows_small (x : Ins) (a z : Nat) : ∀ r ∈ rowsF x a z, r.t.length ≤ 2 ∧ r.g.length ≤ 1 := by
  obtain ⟨op, n⟩ := x
  by_cases hr : 1 ≤ op ∧ op ≤ 24
  · have hn : op = 1 ∨ op = 2 ∨ op = 3 ∨ op = 4 ∨ op = 5 ∨ op = 6 ∨ op = 7 ∨ op = 8 ∨ op = 9 ∨ op = 10 ∨ op = 11 ∨ op = 12 ∨ op = 13 ∨ op = 14 ∨ op = 15 ∨ op = 16 ∨ op = 17 ∨ op = 18 ∨ op = 19 ∨ op = 20 ∨ op = 21 ∨ op = 22 ∨ op = 23 ∨ op = 24 := by omega
    rcases hn with rfl | rfl | rfl | rfl | rfl | rfl | rfl | rfl | rfl | rfl | rfl | rfl | rfl | rfl | rfl | rfl | rfl | rfl | rfl | rfl | rfl | rfl | rfl | rfl
    case inr.inr.inr.inl =>
      intro r h
      have h' : r ∈ (if 0 ≤ n ∧ n < 7 then [(⟨0, 6, [], fieldS.getD n.toNat []⟩ : RwT)] else []) := h
      split at h'
      · rename_i hc
        have hn : n = 0 ∨ n = 1 ∨ n = 2 ∨ n = 3 ∨ n = 4 ∨ n = 5 ∨ n = 6 := by omega
        simp only [List.mem_singleton] at h'
        subst h'
        rcases hn with rfl | rfl | rfl | rfl | rfl | rfl | rfl <;> decide
      · cases h'
    all_goals (intro r h; simp [rowsF] at h; first | (subst h; exact ⟨by first | decide | simp, by first | decide | simp⟩) | (rcases h with rfl | rfl <;> exact ⟨by decide, by decide⟩))
  · rw [rows_no hr]; intro r h; cases h
theorem After_any (x : Ins) (i z : Nat) (sh : Str) (w : World) (hi : i ≤ 100000) (hz : z ≤ 100000) (hsh : sh.length ≤ 1000) :
    Calls Tryd.prog 114 #[agg x, .int .i64 (i : Int), .int .i64 (z : Int), str sh] w (Ret fun r w' => r = aftOut (afterM x i z sh) ∧ Stp [] w w') := by
  refine calls_of_WC4 (n := 85) Tryd.func114 rfl rfl rfl ?_
  refine W ?_
  refine WL_eff (OE_box rfl) rfl ?_
  rintro _ w1 ⟨b, rfl, hb, hblk, hS⟩
  replace hblk : Blk w1 b _ [.int .i64 x.op, .int .i64 x.n] := hblk
  refine W ?_
  refine WL_eff (OE_call rfl (evs3 rfl rfl rfl) (rows_any [] x i z _ hi hz (by simp))) rfl ?_
  rintro lv w2 ⟨sl, hS2⟩
  replace hblk := hblk.up hS2
  replace hS := hS.trans hS2
  clear hS2
  have hsm := rows_small x i z
  have hA : afterM x i z sh = firstM x.n sh (rowsF x i z) := rfl
  generalize rowsF x i z = l at *
  have hmax := sl.max
  refine W ?_
  refine WC_loop (σ := Nat) (fun j => [(3, str sh), (4, .pointer (some ⟨b, 0, none⟩)), (10, lv), (11, .int .i64 (j : Int))]) (fun j w' => j ≤ l.length ∧ Stp [] w2 w' ∧ firstM x.n sh l = firstM x.n sh (l.drop j)) (fun j => l.length - j) 0 ⟨rfl, rfl, rfl, rfl, trivial⟩ ⟨Nat.zero_le _, Stp.refl _ _, rfl⟩ ?_
  rintro j w3 ⟨hj, hS3, heq⟩
  try dsimp only at hj heq ⊢
  replace hblk := hblk.up hS3
  replace sl := sl.up hS3
  by_cases hlt : j < l.length
  case neg =>
    repeat' (first | refine W1 ?_ | (exfalso; omega) | refine WL_split rfl rfl (fun hg => ?_) (fun hg => ?_) | refine WL_splitB rfl rfl (fun hg => ?_) (fun hg => ?_) | refine WC_cond rfl (fun hc => ?_) (fun hc => ?_) | refine WC_condB rfl (fun hc => ?_) (fun hc => ?_))
    first | refine WQ_ret1 rfl rfl ?_ | refine WQ_ret2 rfl rfl rfl ?_ | refine WQ_ret3 rfl rfl rfl rfl ?_ | refine WQ_ret0 rfl ?_ | refine WQ_end0 rfl ?_
    refine .mk ⟨?_, hS.trans hS3⟩
    rw [hA, heq, List.drop_eq_nil_of_le (by omega)]; rfl
  obtain ⟨st, sg⟩ := hsm _ (List.getElem_mem hlt)
  have hd : l.drop j = l[j] :: l.drop (j + 1) := List.drop_eq_getElem_cons hlt
  repeat' (first | refine W1 ?_ | (exfalso; omega) | refine WL_split rfl rfl (fun hg => ?_) (fun hg => ?_) | refine WL_splitB rfl rfl (fun hg => ?_) (fun hg => ?_) | refine WC_cond rfl (fun hc => ?_) (fun hc => ?_) | refine WC_condB rfl (fun hc => ?_) (fun hc => ?_))
  refine WC_drawn 44 [] [] [(0, 0), (1, 1), (2, 0), (3, 0), (4, 0), (5, 0), (6, 1), (7, 0), (8, 0), (9, 0), (10, 1), (11, 0), (12, 0), (13, 0), (14, 0), (15, 1), (16, 0), (17, 0), (18, 0), (19, 0), (20, 0), (21, 0), (22, 0), (23, 0), (24, 0), (25, 0), (26, 0), (27, 0), (28, 0), (29, 0), (30, 1), (31, 0), (32, 0), (33, 0), (34, 0), (35, 0), (36, 0), (37, 0), (38, 0), (39, 1), (40, 0), (41, 0), (42, 0), (43, 0)] rfl mixed (by kernel_rfl) (by kernel_rfl) (by kernel_rfl) (fun w1 hS1 => ?_)
  replace hblk := hblk.up hS1
  replace sl := sl.up hS1
  replace hS3 := hS3.trans hS1
  by_cases hr : l[j].lo ≤ x.n ∧ x.n ≤ l[j].hi ∧ l[j].t.length ≤ sh.length
  case neg =>
    have hrow : firstM x.n sh l = firstM x.n sh (l.drop (j + 1)) := by
      rw [heq, hd, firstM, rowM, if_neg (fun h => hr ⟨h.1, h.2.1, h.2.2.1⟩)]
    repeat' (first | refine D1 ?_ | (exfalso; omega) | refine WD_splitN rfl rfl rfl rfl (fun hg => ?_) (fun hg => ?_) | (refine WD_splitBN rfl rfl rfl rfl (fun hg => ?_) (fun hg => ?_) <;> refine D1 ?_) | fail)
    all_goals (repeat' (first | refine W1 ?_ | (exfalso; omega) | refine WL_split rfl rfl (fun hg => ?_) (fun hg => ?_) | refine WL_splitB rfl rfl (fun hg => ?_) (fun hg => ?_) | refine WC_cond rfl (fun hc => ?_) (fun hc => ?_) | refine WC_condB rfl (fun hc => ?_) (fun hc => ?_)))
    all_goals exact WQ_loop (j + 1) ⟨rfl, rfl, rfl, rfl, trivial⟩ ⟨hlt, hS3, hrow⟩ (Nat.sub_lt_sub_left hlt (Nat.lt_succ_self j))
  have hkk : (sh.length : Int) - (l[j].t.length : Int) = ((sh.length - l[j].t.length : Nat) : Int) := by omega
  have hrow : firstM x.n sh l = if sh.drop (sh.length - l[j].t.length) = l[j].t ∧ sh.length - l[j].t.length + l[j].g.length ≤ 16 then some (sh.take (sh.length - l[j].t.length) ++ l[j].g) else firstM x.n sh (l.drop (j + 1)) := by
    rw [heq, hd, firstM, rowM]
    by_cases hc : sh.drop (sh.length - l[j].t.length) = l[j].t ∧ sh.length - l[j].t.length + l[j].g.length ≤ 16
    · rw [if_pos ⟨hr.1, hr.2.1, hr.2.2, hc⟩, if_pos hc]
    · rw [if_neg (fun h => hc h.2.2.2), if_neg hc]
  obtain ⟨hr1, hr2, hr3⟩ := hr
  repeat' (first | refine D1 ?_ | (exfalso; omega) | refine WD_splitN rfl rfl rfl rfl (fun hg => ?_) (fun hg => ?_) | (refine WD_splitBN rfl rfl rfl rfl (fun hg => ?_) (fun hg => ?_) <;> refine D1 ?_) | fail)
  refine WF_sliceT_l rfl rfl rfl rfl hkk (by omega) rfl ?_
  by_cases he : sh.drop (sh.length - l[j].t.length) = l[j].t ∧ sh.length - l[j].t.length + l[j].g.length ≤ 16
  · rw [if_pos he] at hrow
    obtain ⟨he1, he2⟩ := he
    repeat' (first | refine D1 ?_ | (exfalso; omega) | refine WD_splitN rfl rfl rfl rfl (fun hg => ?_) (fun hg => ?_) | (refine WD_splitBN rfl rfl rfl rfl (fun hg => ?_) (fun hg => ?_) <;> refine D1 ?_) | fail)
    all_goals (repeat' (first | refine W1 ?_ | (exfalso; omega) | refine WL_split rfl rfl (fun hg => ?_) (fun hg => ?_) | refine WL_splitB rfl rfl (fun hg => ?_) (fun hg => ?_) | refine WC_cond rfl (fun hc => ?_) (fun hc => ?_) | refine WC_condB rfl (fun hc => ?_) (fun hc => ?_)))
    · refine WC_drawn 11 [] [] [(0, 0), (1, 0), (2, 0), (3, 0), (4, 0), (5, 0), (6, 0), (7, 1), (8, 0), (9, 0), (10, 0)] rfl mixed (by kernel_rfl) (by kernel_rfl) (by kernel_rfl) (fun w1 hS1 => ?_)
      replace hblk := hblk.up hS1
      replace sl := sl.up hS1
      replace hS3 := hS3.trans hS1
      have hadd : (sh.take (sh.length - l[j].t.length)).length + l[j].g.length ≤ 9223372036854775807 := by simp; omega
      refine D ?_
      refine WF_sliceT_h rfl trivial rfl rfl hkk (by omega) rfl ?_
      refine D ?_
      refine W ?_
      first | refine WQ_ret1 rfl rfl ?_ | refine WQ_ret2 rfl rfl rfl ?_ | refine WQ_ret3 rfl rfl rfl rfl ?_ | refine WQ_ret0 rfl ?_ | refine WQ_end0 rfl ?_
      exact .mk ⟨by rw [hA, hrow]; rfl, hS.trans hS3⟩
    · exact absurd he1 (by assumption)
  · rw [if_neg he] at hrow
    repeat' (first | refine D1 ?_ | (exfalso; omega) | refine WD_splitN rfl rfl rfl rfl (fun hg => ?_) (fun hg => ?_) | (refine WD_splitBN rfl rfl rfl rfl (fun hg => ?_) (fun hg => ?_) <;> refine D1 ?_) | fail)
    all_goals (repeat' (first | refine W1 ?_ | (exfalso; omega) | refine WL_split rfl rfl (fun hg => ?_) (fun hg => ?_) | refine WL_splitB rfl rfl (fun hg => ?_) (fun hg => ?_) | refine WC_cond rfl (fun hc => ?_) (fun hc => ?_) | refine WC_condB rfl (fun hc => ?_) (fun hc => ?_)))
    · exact absurd ⟨by assumption, by omega⟩ he
    all_goals exact WQ_loop (j + 1) ⟨rfl, rfl, rfl, rfl, trivial⟩ ⟨hlt, hS3, hrow⟩ (Nat.sub_lt_sub_left hlt (Nat.lt_succ_self j))
end Go.Proofs.YtgpibcgebpgmiaaDoor

namespace Go.Proofs.YtgpibcgebpgmiaaDoor
open Go Go.Eng Go.RowKit
set_option linter.unusedVariables false

theorem buildSS3 (a b c : Str) (w : World) : (Instr.buildSlice 100 3 #[(0, str a), (1, str b), (2, str c)]).run Tryd.prog w = .ok (.slice (some ⟨w.heap.size, 0, none⟩) 3 3) (w.alloc (.cells #[str a, str b, str c] 9)) := by kernel_rfl
abbrev RwS (w w' : World) (v : Value) (xs : List Str) : Prop := RowF 9 w w' v xs
theorem after_range {x : Ins} {i z : Nat} {sh nx : Str} (h : afterM x i z sh = some nx) (hx : x.op = 13 ∨ x.op = 14) : (i : Int) + 1 ≤ x.n ∧ x.n ≤ (z : Int) - 1 := by
  have key : ∀ {n lo hi : Int} {t g : Str}, firstM n sh [⟨lo, hi, t, g⟩] = some nx → lo ≤ n ∧ n ≤ hi := by
    intro n lo hi t g h
    unfold firstM rowM at h
    by_cases hc : lo ≤ n ∧ n ≤ hi ∧ t.length ≤ sh.length ∧ sh.drop (sh.length - t.length) = t ∧ sh.length - t.length + g.length ≤ 16
    · exact ⟨hc.1, hc.2.1⟩
    · dsimp only at h
      rw [if_neg hc] at h
      cases h
  obtain ⟨op, n⟩ := x
  rcases hx with hx | hx <;> (dsimp only at hx; subst hx)
  · exact key (show firstM n sh [⟨(i : Int) + 1, (z : Int) - 1, [], []⟩] = some nx from h)
  · exact key (show firstM n sh [⟨(i : Int) + 1, (z : Int) - 1, [98], []⟩] = some nx from h)
theorem after_len {x : Ins} {i z : Nat} {sh nx : Str} (h : afterM x i z sh = some nx) : nx.length ≤ 16 := by
  unfold afterM at h
  generalize rowsF x i z = l at h
  induction l with
  | nil => cases h
  | cons r l ih =>
    unfold firstM at h
    cases hr : rowM x.n sh r with
    | none => rw [hr] at h; exact ih h
    | some s =>
      rw [hr] at h
      cases h
      unfold rowM at hr
      split at hr
      · rename_i hc
        cases hr
        simp; omega
      · cases hr
theorem setR_some {strs st' : List Str} {t : Int} {nx : Str} (h : setR strs t nx = some st') : st' = strs.set t.toNat nx := by
  unfold setR at h
  split at h
  · cases h
  · cases h; rfl
theorem runR_none {code : List Ins} {st0 : List Str} {k : Nat} (h : runR code k st0 = none) : ∀ m, k ≤ m → runR code m st0 = none
  | 0, hm => by
    obtain rfl : k = 0 := by omega
    exact h
  | m + 1, hm => by
    by_cases hk : k = m + 1
    · subst hk; exact h
    · rw [runR, runR_none h m (by omega)]; rfl
theorem cls (s : Str) : idx (isS s) [[110], [98], [100]] = if s = [110] then 0 else if s = [98] then 1 else if s = [100] then 2 else -1 := by
  by_cases h1 : s = [110]
  · subst h1; rfl
  by_cases h2 : s = [98]
  · subst h2; rfl
  by_cases h3 : s = [100]
  · subst h3; rfl
  rw [if_neg h1, if_neg h2, if_neg h3]
  have e1 : decide (([110] : Str) = s) = false := decide_eq_false (fun h => h1 h.symm)
  have e2 : decide (([98] : Str) = s) = false := decide_eq_false (fun h => h2 h.symm)
  have e3 : decide (([100] : Str) = s) = false := decide_eq_false (fun h => h3 h.symm)
  simp [idx, isS, List.findIdx?_cons, e1, e2, e3]
theorem VerifyR_any (v : Value) (code : List Ins) (w : World) (hs : SlV [] w v code) :
    Calls Tryd.prog 89 #[v] w (Ret fun r w' => r = .tuple #[.int .i64 (verM code).1, .int .i64 (verM code).2] ∧ Stp [] w w') := by
  have hmax := hs.max
  rw [← ver_eq]
  refine calls_of_WC1 (n := 158) Tryd.func89 rfl rfl rfl ?_
  refine W ?_
  by_cases h0 : code.length = 0 ∨ code.length > 200
  · have hM : verR code = (0, 22) := if_pos h0
    repeat' (first | refine W1 ?_ | (exfalso; omega) | refine WL_split rfl rfl (fun hg => ?_) (fun hg => ?_) | refine WL_splitB rfl rfl (fun hg => ?_) (fun hg => ?_) | refine WC_cond rfl (fun hc => ?_) (fun hc => ?_) | refine WC_condB rfl (fun hc => ?_) (fun hc => ?_))
    all_goals
      first | refine WQ_ret1 rfl rfl ?_ | refine WQ_ret2 rfl rfl rfl ?_ | refine WQ_ret3 rfl rfl rfl rfl ?_ | refine WQ_ret0 rfl ?_ | refine WQ_end0 rfl ?_
      exact .mk ⟨by rw [hM], Stp.refl _ _⟩
  repeat' (first | refine W1 ?_ | (exfalso; omega) | refine WL_split rfl rfl (fun hg => ?_) (fun hg => ?_) | refine WL_splitB rfl rfl (fun hg => ?_) (fun hg => ?_) | refine WC_cond rfl (fun hc => ?_) (fun hc => ?_) | refine WC_condB rfl (fun hc => ?_) (fun hc => ?_))
  have hn0 : 0 < code.length := by omega
  have hn200 : code.length ≤ 200 := by omega
  refine WL_eff (OE_buildSlice (vs := [(0, str [])]) rfl (buildSS1 _)) rfl ?_
  rintro s0 w1 hN
  have hr : RwS w w1 s0 [[]] := RowF.one hN rfl rfl (by simp [maxLen])
  clear hN
  refine W ?_
  refine WC_loop (σ := Nat × Value) (fun q => [(0, v), (2, .int .i64 0), (3, .int .i64 0), (4, q.2), (5, .int .i64 (q.1 : Int))]) (fun q w' => 1 ≤ q.1 ∧ q.1 ≤ code.length ∧ RwS w w' q.2 ([] :: List.replicate (q.1 - 1) [63])) (fun q => code.length - q.1) (1, s0) ⟨rfl, rfl, rfl, rfl, rfl, trivial⟩ ⟨Nat.le_refl _, hn0, hr⟩ ?_
  clear hr
  rintro ⟨k, sv⟩ w2 ⟨hk1, hk, hr⟩
  try dsimp only at hk1 hk hr ⊢
  have hs2 := hs.up hr.2
  by_cases hlt : k < code.length
  · repeat' (first | refine W1 ?_ | (exfalso; omega) | refine WL_split rfl rfl (fun hg => ?_) (fun hg => ?_) | refine WL_splitB rfl rfl (fun hg => ?_) (fun hg => ?_) | refine WC_cond rfl (fun hc => ?_) (fun hc => ?_) | refine WC_condB rfl (fun hc => ?_) (fun hc => ?_))
    refine WL_eff (OE_buildSlice (vs := [(0, str [63])]) rfl (buildSS1 _)) rfl ?_
    rintro u w3 hN
    have hu : SlV (ob sv) w3 u [[(63 : UInt8)]] := hN.slv (fun b hb => (hr.ob_le b hb).2) rfl rfl (by simp [maxLen])
    replace hr := hr.up (NewSl.stp hN)
    clear hN
    refine WL_eff (OE_appF rfl (by decide) rfl rfl hr hu (by simp; omega) (by simp [maxLen]; omega)) rfl ?_
    rintro v' w4 ⟨hr', -, -⟩
    refine W ?_
    refine WQ_loop (k + 1, v') ⟨rfl, rfl, rfl, rfl, rfl, trivial⟩ ⟨by dsimp only; omega, hlt, ?_⟩ (by dsimp only; omega)
    obtain ⟨j, rfl⟩ : ∃ j, k = j + 1 := ⟨k - 1, by omega⟩
    simpa [List.replicate_succ'] using hr'
  obtain rfl : k = code.length := by omega
  generalize hst0 : ([] :: List.replicate (code.length - 1) [63] : List Str) = st0 at *
  have hlen0 : st0.length = code.length := by rw [← hst0]; simp; omega
  have h160 : ∀ s ∈ st0, s.length ≤ 16 := by
    intro s h
    rw [← hst0] at h
    simp at h
    rcases h with rfl | ⟨_, rfl⟩ <;> simp
  have hverR : verR code = finR (code.length - 1) (runR code code.length st0) := by
    rw [← hst0]; exact if_neg h0
  clear hst0
  repeat' (first | refine W1 ?_ | (exfalso; omega) | refine WL_split rfl rfl (fun hg => ?_) (fun hg => ?_) | refine WL_splitB rfl rfl (fun hg => ?_) (fun hg => ?_) | refine WC_cond rfl (fun hc => ?_) (fun hc => ?_) | refine WC_condB rfl (fun hc => ?_) (fun hc => ?_))
  refine WC_loop (σ := Nat × List Str) (fun q => [(0, v), (4, sv), (6, .int .i64 (q.1 : Int))])
    (fun q w' => q.1 ≤ code.length ∧ runR code q.1 st0 = some q.2 ∧ RwS w w' sv q.2 ∧ q.2.length = code.length ∧ (∀ s ∈ q.2, s.length ≤ 16)) (fun q => code.length - q.1) (0, st0) ⟨rfl, rfl, rfl, trivial⟩ ⟨Nat.zero_le _, rfl, hr, hlen0, h160⟩ ?_
  clear hr hs2
  rintro ⟨i, strs⟩ w3 ⟨hi, hrun, hr, hlen, h16⟩
  try dsimp only at hi hrun hr hlen h16 ⊢
  have hs3 := hs.up hr.2
  have hsl := hr.1.slv0
  by_cases hlt : i < code.length
  case neg =>
    obtain rfl : i = code.length := by omega
    obtain ⟨m, hm⟩ : ∃ m, code.length = m + 1 := ⟨code.length - 1, by omega⟩
    have hml : m < strs.length := by omega
    have hkk : (code.length : Int) - 1 = (m : Int) := by omega
    repeat' (first | refine W1 ?_ | (exfalso; omega) | refine WL_split rfl rfl (fun hg => ?_) (fun hg => ?_) | refine WL_splitB rfl rfl (fun hg => ?_) (fun hg => ?_) | refine WC_cond rfl (fun hc => ?_) (fun hc => ?_) | refine WC_condB rfl (fun hc => ?_) (fun hc => ?_))
    refine WL_eff (OE_buildSlice (vs := [(0, str [110]), (1, str [98]), (2, str [100])]) rfl (buildSS3 _ _ _)) rfl ?_
    rintro u w4 hN
    have hu : SlV [] w4 u ([[110], [98], [100]] : List Str) := hN.slv (by simp) rfl rfl (by simp [maxLen])
    have hS4 := NewSl.stp hN
    clear hN
    replace hs3 := hs3.up hS4
    replace hsl := hsl.up hS4
    replace hr := hr.up hS4
    refine W ?_
    refine WL_eff (OE_call rfl (evs2 rfl rfl) (place15_any [] _ _ strs[m] _ hu)) rfl ?_
    rintro _ w5 ⟨rfl, hS5⟩
    have hv : verR code = if strs[m] = [110] then (1, 0) else if strs[m] = [98] then (2, 0) else if strs[m] = [100] then (3, 0) else (0, 22) := by
      rw [hverR, hrun, hm]
      have e : strs.getD m [] = strs[m] := by simp [List.getD, hml]
      simp only [finR, Nat.add_sub_cancel, e]
    rw [cls]
    by_cases c1 : strs[m] = [110]
    · rw [if_pos c1] at hv ⊢
      repeat' (first | refine W1 ?_ | (exfalso; omega) | refine WL_split rfl rfl (fun hg => ?_) (fun hg => ?_) | refine WL_splitB rfl rfl (fun hg => ?_) (fun hg => ?_) | refine WC_cond rfl (fun hc => ?_) (fun hc => ?_) | refine WC_condB rfl (fun hc => ?_) (fun hc => ?_))
      first | refine WQ_ret1 rfl rfl ?_ | refine WQ_ret2 rfl rfl rfl ?_ | refine WQ_ret3 rfl rfl rfl rfl ?_ | refine WQ_ret0 rfl ?_ | refine WQ_end0 rfl ?_
      exact .mk ⟨by rw [hv]; rfl, (hr.up hS5).2⟩
    rw [if_neg c1] at hv ⊢
    by_cases c2 : strs[m] = [98]
    · rw [if_pos c2] at hv ⊢
      repeat' (first | refine W1 ?_ | (exfalso; omega) | refine WL_split rfl rfl (fun hg => ?_) (fun hg => ?_) | refine WL_splitB rfl rfl (fun hg => ?_) (fun hg => ?_) | refine WC_cond rfl (fun hc => ?_) (fun hc => ?_) | refine WC_condB rfl (fun hc => ?_) (fun hc => ?_))
      first | refine WQ_ret1 rfl rfl ?_ | refine WQ_ret2 rfl rfl rfl ?_ | refine WQ_ret3 rfl rfl rfl rfl ?_ | refine WQ_ret0 rfl ?_ | refine WQ_end0 rfl ?_
      exact .mk ⟨by rw [hv]; rfl, (hr.up hS5).2⟩
    rw [if_neg c2] at hv ⊢
    by_cases c3 : strs[m] = [100]
    · rw [if_pos c3] at hv ⊢
      repeat' (first | refine W1 ?_ | (exfalso; omega) | refine WL_split rfl rfl (fun hg => ?_) (fun hg => ?_) | refine WL_splitB rfl rfl (fun hg => ?_) (fun hg => ?_) | refine WC_cond rfl (fun hc => ?_) (fun hc => ?_) | refine WC_condB rfl (fun hc => ?_) (fun hc => ?_))
      first | refine WQ_ret1 rfl rfl ?_ | refine WQ_ret2 rfl rfl rfl ?_ | refine WQ_ret3 rfl rfl rfl rfl ?_ | refine WQ_ret0 rfl ?_ | refine WQ_end0 rfl ?_
      exact .mk ⟨by rw [hv]; rfl, (hr.up hS5).2⟩
    rw [if_neg c3] at hv ⊢
    repeat' (first | refine W1 ?_ | (exfalso; omega) | refine WL_split rfl rfl (fun hg => ?_) (fun hg => ?_) | refine WL_splitB rfl rfl (fun hg => ?_) (fun hg => ?_) | refine WC_cond rfl (fun hc => ?_) (fun hc => ?_) | refine WC_condB rfl (fun hc => ?_) (fun hc => ?_))
    first | refine WQ_ret1 rfl rfl ?_ | refine WQ_ret2 rfl rfl rfl ?_ | refine WQ_ret3 rfl rfl rfl rfl ?_ | refine WQ_ret0 rfl ?_ | refine WQ_end0 rfl ?_
    exact .mk ⟨by rw [hv], (hr.up hS5).2⟩
  have hlt' : i < strs.length := by omega
  have hcg : code.getD i ⟨0, 0⟩ = code[i] := by simp [List.getD, hlt]
  have hsg : strs.getD i [] = strs[i] := by simp [List.getD, hlt']
  have hnext : runR code (i + 1) st0 = stepR strs i code[i] := by rw [runR, hrun, Option.bind_some, hcg]
  have hM : stepR strs i code[i] = stepR strs i code[i] := rfl
  conv at hM => rhs; unfold stepR; rw [hsg, hlen]
  have hsi := h16 _ (List.getElem_mem hlt')
  have hdone : stepR strs i code[i] = none → verR code = (0, 22) := fun h => by rw [hverR, runR_none (hnext.trans h) code.length hlt]; rfl
  repeat' (first | refine W1 ?_ | (exfalso; omega) | refine WL_split rfl rfl (fun hg => ?_) (fun hg => ?_) | refine WL_splitB rfl rfl (fun hg => ?_) (fun hg => ?_) | refine WC_cond rfl (fun hc => ?_) (fun hc => ?_) | refine WC_condB rfl (fun hc => ?_) (fun hc => ?_))
  refine WC_drawn 17 [] [] [(0, 0), (1, 0), (2, 0), (3, 1), (4, 0), (5, 0), (6, 0), (7, 0), (8, 0), (9, 0), (10, 1), (11, 2), (12, 0), (13, 0), (14, 0), (15, 0), (16, 0)] rfl mixed (by kernel_rfl) (by kernel_rfl) (by kernel_rfl) (fun w1 hS1 => ?_)
  replace hs3 := hs3.up hS1
  replace hsl := hsl.up hS1
  replace hr := hr.up hS1
  refine D ?_
  refine WD_eff rfl trivial (OE_call rfl (evs4 rfl rfl rfl rfl) (After_any code[i] i code.length strs[i] _ (by omega) (by omega) (by omega))) (fun _ _ h => h.2) rfl ?_
  rintro _ w4 ⟨rfl, hS4⟩
  replace hs3 := hs3.up hS4
  replace hsl := hsl.up hS4
  replace hr := hr.up hS4
  clear hS1 hS4
  cases hA : afterM code[i] i code.length strs[i] with
  | none =>
    have hn : stepR strs i code[i] = none := by rw [hM, hA]
    refine D ?_
    repeat' (first | refine W1 ?_ | (exfalso; omega) | refine WL_split rfl rfl (fun hg => ?_) (fun hg => ?_) | refine WL_splitB rfl rfl (fun hg => ?_) (fun hg => ?_) | refine WC_cond rfl (fun hc => ?_) (fun hc => ?_) | refine WC_condB rfl (fun hc => ?_) (fun hc => ?_))
    first | refine WQ_ret1 rfl rfl ?_ | refine WQ_ret2 rfl rfl rfl ?_ | refine WQ_ret3 rfl rfl rfl rfl ?_ | refine WQ_ret0 rfl ?_ | refine WQ_end0 rfl ?_
    exact .mk ⟨by rw [hdone hn], hr.2⟩
  | some nx =>
    rw [hA] at hM
    dsimp only at hM
    have hnx := after_len hA
    by_cases hbad : strs[i] = [63] ∨ ¬ (code[i].op = 24 ↔ i + 1 = code.length)
    · rw [if_pos hbad] at hM
      refine D ?_
      repeat' (first | refine W1 ?_ | (exfalso; omega) | refine WL_split rfl rfl (fun hg => ?_) (fun hg => ?_) | refine WL_splitB rfl rfl (fun hg => ?_) (fun hg => ?_) | refine WC_cond rfl (fun hc => ?_) (fun hc => ?_) | refine WC_condB rfl (fun hc => ?_) (fun hc => ?_))
      · first | refine WQ_ret1 rfl rfl ?_ | refine WQ_ret2 rfl rfl rfl ?_ | refine WQ_ret3 rfl rfl rfl rfl ?_ | refine WQ_ret0 rfl ?_ | refine WQ_end0 rfl ?_
        exact .mk ⟨by rw [hdone hM], hr.2⟩
      · first | refine WQ_ret1 rfl rfl ?_ | refine WQ_ret2 rfl rfl rfl ?_ | refine WQ_ret3 rfl rfl rfl rfl ?_ | refine WQ_ret0 rfl ?_ | refine WQ_end0 rfl ?_
        exact .mk ⟨by rw [hdone hM], hr.2⟩
      all_goals
        exfalso
        have h2 : ¬ ¬ decide (code[i].op = 24) = decide ((i : Int) = (code.length : Int) - 1) := by assumption
        have h3 := decide_eq_decide.1 (Classical.not_not.1 h2)
        rcases hbad with h | h
        · exact absurd h (by assumption)
        · exact h (h3.trans (by omega))
    rw [if_neg hbad] at hM
    have hiff : code[i].op = 24 ↔ i + 1 = code.length := Classical.not_not.1 (fun h => hbad (Or.inr h))
    have hTr : ∀ t ∈ targF code[i] i code.length, 0 ≤ t ∧ t < (code.length : Int) := by
      intro t ht
      unfold targF at ht
      rcases List.mem_append.1 ht with h | h
      · split at h
        · rename_i hx
          have := after_range hA hx
          simp at h
          omega
        · cases h
      · split at h
        · simp at h; omega
        · cases h
    refine D ?_
    refine W ?_
    refine WL_split rfl rfl (fun hg => absurd (Or.inl hg) hbad) (fun hg => ?_)
    refine W ?_
    refine WC_cond rfl (fun hc => absurd (decide_eq_decide.2 (hiff.trans (by omega))) hc) (fun hc => ?_)
    refine W ?_
    refine WL_cutQ (σ := Bool) (fun q => [(0, v), (4, sv), (6, .int .i64 (i : Int)), (7, str nx), (9, .slice none 0 0), (87, .bool q)]) (fun q w' => w' = w4 ∧ q = decide (code[i].op = 13 ∨ code[i].op = 14)) ?_ ?_
    · repeat' (first | refine W1 ?_ | (exfalso; omega) | refine WL_split rfl rfl (fun hg => ?_) (fun hg => ?_) | refine WL_splitB rfl rfl (fun hg => ?_) (fun hg => ?_) | refine WC_cond rfl (fun hc => ?_) (fun hc => ?_) | refine WC_condB rfl (fun hc => ?_) (fun hc => ?_))
      · exact WQ_cut true ⟨rfl, rfl, rfl, rfl, rfl, rfl, trivial⟩ ⟨rfl, by simp [*]⟩
      · exact WQ_cut _ ⟨rfl, rfl, rfl, rfl, rfl, rfl, trivial⟩ ⟨rfl, by simp [*]⟩
    rintro q w5 ⟨rfl, hq⟩
    try dsimp only
    refine WC_cutQ (σ := Value) (fun tv => [(0, v), (4, sv), (6, .int .i64 (i : Int)), (7, str nx), (9, tv)]) (fun tv w' => RwZ w5 w' tv (if code[i].op = 13 ∨ code[i].op = 14 then [code[i].n] else [])) ?_ ?_
    · by_cases hx : code[i].op = 13 ∨ code[i].op = 14
      · rw [if_pos hx]
        rw [decide_eq_true hx] at hq
        subst hq
        refine W ?_
        refine WL_eff (OE_buildSlice (vs := [(0, .int .i64 code[i].n)]) rfl (buildSI1 _)) rfl ?_
        rintro u w6 hN
        have hu : SlV [] w6 u [code[i].n] := hN.slv (by simp) rfl rfl (by simp [maxLen])
        have h0 : RwZ w5 w6 (.slice none 0 0) [] := (RowF.nil).up (NewSl.stp hN)
        clear hN
        refine WL_eff (OE_appF rfl (by decide) rfl rfl h0 hu (by simp) (by simp [maxLen])) rfl ?_
        rintro v' w7 ⟨hr', -, -⟩
        refine W ?_
        exact WQ_cut v' ⟨rfl, rfl, rfl, rfl, rfl, trivial⟩ hr'
      · rw [if_neg hx]
        rw [decide_eq_false hx] at hq
        subst hq
        refine W ?_
        exact WQ_cut (.slice none 0 0) ⟨rfl, rfl, rfl, rfl, rfl, trivial⟩ RowF.nil
    rintro tv w6 hrt
    try dsimp only at hrt ⊢
    have hs6 := hs3.up hrt.2
    refine W ?_
    refine WL_cutQ (σ := Bool) (fun q => [(0, v), (4, sv), (6, .int .i64 (i : Int)), (7, str nx), (9, tv), (108, .bool q)]) (fun q w' => w' = w6 ∧ q = decide (code[i].op ≠ 13 ∧ i + 1 < code.length)) ?_ ?_
    · by_cases hx : code[i].op = 13
      · repeat' (first | refine W1 ?_ | (exfalso; omega) | refine WL_split rfl rfl (fun hg => ?_) (fun hg => ?_) | refine WL_splitB rfl rfl (fun hg => ?_) (fun hg => ?_) | refine WC_cond rfl (fun hc => ?_) (fun hc => ?_) | refine WC_condB rfl (fun hc => ?_) (fun hc => ?_))
        exact WQ_cut _ ⟨rfl, rfl, rfl, rfl, rfl, rfl, trivial⟩ ⟨rfl, by simp [hx]⟩
      · repeat' (first | refine W1 ?_ | (exfalso; omega) | refine WL_split rfl rfl (fun hg => ?_) (fun hg => ?_) | refine WL_splitB rfl rfl (fun hg => ?_) (fun hg => ?_) | refine WC_cond rfl (fun hc => ?_) (fun hc => ?_) | refine WC_condB rfl (fun hc => ?_) (fun hc => ?_))
        exact WQ_cut _ ⟨rfl, rfl, rfl, rfl, rfl, rfl, trivial⟩ ⟨rfl, by simp only [ne_eq, hx, not_false_eq_true, true_and]; exact decide_eq_decide.2 (by omega)⟩
    rintro q w7 ⟨rfl, hq⟩
    try dsimp only
    refine WC_cutQ (σ := Value) (fun tv => [(0, v), (4, sv), (6, .int .i64 (i : Int)), (7, str nx), (9, tv)]) (fun tv w' => RwZ w5 w' tv (targF code[i] i code.length)) ?_ ?_
    · unfold targF
      have hT1 : (if code[i].op = 13 ∨ code[i].op = 14 then [code[i].n] else []).length ≤ 1 := by split <;> simp
      generalize (if code[i].op = 13 ∨ code[i].op = 14 then [code[i].n] else []) = T1 at *
      by_cases hx : code[i].op ≠ 13 ∧ i + 1 < code.length
      · rw [if_pos hx]
        rw [decide_eq_true hx] at hq
        subst hq
        refine W ?_
        refine WL_eff (OE_buildSlice (vs := [(0, .int .i64 ((i : Int) + 1))]) rfl (buildSI1 _)) rfl ?_
        rintro u w6 hN
        have hu : SlV (ob tv) w6 u [(i : Int) + 1] := hN.slv (fun b hb => (hrt.ob_le b hb).2) rfl rfl (by simp [maxLen])
        have h0 := hrt.up (NewSl.stp hN)
        clear hN
        refine WL_eff (OE_appF rfl (by decide) rfl rfl h0 hu (by simp; omega) (by simp [maxLen]; omega)) rfl ?_
        rintro v' w8 ⟨hr', -, -⟩
        refine W ?_
        exact WQ_cut v' ⟨rfl, rfl, rfl, rfl, rfl, trivial⟩ hr'
      · rw [if_neg hx, List.append_nil]
        rw [decide_eq_false hx] at hq
        subst hq
        refine W ?_
        exact WQ_cut tv ⟨rfl, rfl, rfl, rfl, rfl, trivial⟩ hrt
    clear hrt hs6
    rintro tv w6 hrt
    try dsimp only at hrt ⊢
    generalize targF code[i] i code.length = T at *
    have hTm := (hrt.1.slv0).max
    have hst : SlV (ob sv) w6 tv T := hrt.slv (fun b hb => (hr.ob_le b hb).2)
    have hr6 : RwS w w6 sv strs := hr.up hrt.2
    clear hsl hq
    refine W ?_
    refine WC_loop (σ := Nat × List Str) (fun q => [(0, v), (4, sv), (6, .int .i64 (i : Int)), (7, str nx), (9, tv), (10, .int .i64 (q.1 : Int))])
      (fun q w' => q.1 ≤ T.length ∧ setsR nx T strs = setsR nx (T.drop q.1) q.2 ∧ RwS w w' sv q.2 ∧ q.2.length = code.length ∧ (∀ s ∈ q.2, s.length ≤ 16) ∧ SlV (ob sv) w' tv T) (fun q => T.length - q.1) (0, strs) ⟨rfl, rfl, rfl, rfl, rfl, rfl, trivial⟩ ⟨Nat.zero_le _, rfl, hr6, hlen, h16, hst⟩ ?_
    rintro ⟨k, st⟩ w8 ⟨hk, hse, hr8, hl8, h168, hst8⟩
    try dsimp only at hk hse hr8 hl8 h168 hst8 ⊢
    have hsl8 := hr8.1.slv0
    by_cases hkt : k < T.length
    case neg =>
      rw [List.drop_eq_nil_of_le (by omega)] at hse
      repeat' (first | refine W1 ?_ | (exfalso; omega) | refine WL_split rfl rfl (fun hg => ?_) (fun hg => ?_) | refine WL_splitB rfl rfl (fun hg => ?_) (fun hg => ?_) | refine WC_cond rfl (fun hc => ?_) (fun hc => ?_) | refine WC_condB rfl (fun hc => ?_) (fun hc => ?_))
      exact WQ_loop (i + 1, st) ⟨rfl, rfl, rfl, trivial⟩ ⟨hlt, hnext.trans (hM.trans hse), hr8, hl8, h168⟩ (Nat.sub_lt_sub_left hlt (Nat.lt_succ_self i))
    obtain ⟨ht0, ht1⟩ := hTr _ (List.getElem_mem hkt)
    have hd : T.drop k = T[k] :: T.drop (k + 1) := List.drop_eq_getElem_cons hkt
    rw [hd, setsR] at hse
    obtain ⟨q, hqz⟩ : ∃ q : Nat, T[k] = (q : Int) := ⟨T[k].toNat, by omega⟩
    have hql : q < st.length := by omega
    have hgd : st.getD (T[k]).toNat [] = st[q] := by rw [hqz]; simp [List.getD, hql]
    by_cases hbad2 : st[q] ≠ [63] ∧ st[q] ≠ nx
    · have hn : stepR strs i code[i] = none := by
        rw [hM, hse, setR, hgd, if_pos hbad2]; rfl
      repeat' (first | refine W1 ?_ | (exfalso; omega) | refine WL_split rfl rfl (fun hg => ?_) (fun hg => ?_) | refine WL_splitB rfl rfl (fun hg => ?_) (fun hg => ?_) | refine WC_cond rfl (fun hc => ?_) (fun hc => ?_) | refine WC_condB rfl (fun hc => ?_) (fun hc => ?_))
      · first | refine WQ_ret1 rfl rfl ?_ | refine WQ_ret2 rfl rfl rfl ?_ | refine WQ_ret3 rfl rfl rfl rfl ?_ | refine WQ_ret0 rfl ?_ | refine WQ_end0 rfl ?_
        exact .mk ⟨by rw [hdone hn], hr8.2⟩
      all_goals (exfalso; first | exact hbad2.2 (Classical.not_not.1 (by assumption)) | exact hbad2.1 (by assumption) | exact hbad2.1 (Classical.not_not.1 (by assumption)))
    · have hsr : setR st T[k] nx = some (st.set q nx) := by rw [setR, hgd, if_neg hbad2, hqz, Int.toNat_natCast]
      rw [hsr, Option.bind_some] at hse
      repeat' (first | refine W1 ?_ | (exfalso; omega) | refine WL_split rfl rfl (fun hg => ?_) (fun hg => ?_) | refine WL_splitB rfl rfl (fun hg => ?_) (fun hg => ?_) | refine WC_cond rfl (fun hc => ?_) (fun hc => ?_) | refine WC_condB rfl (fun hc => ?_) (fun hc => ?_))
      · exact absurd ⟨by assumption, by assumption⟩ hbad2
      all_goals
        refine WL_eff0 (OE_storeElX (α := Str) (y' := nx) (u := str nx) rfl rfl rfl rfl hr8.1 hql) ?_
        rintro _ w9 ⟨hr9', hS9⟩
        have hr9 : RwS w w9 sv (st.set q nx) := ⟨hr9', hr8.step hS9 (fun _ h => h)⟩
        refine W ?_
        refine WQ_loop (k + 1, st.set q nx) ⟨rfl, rfl, rfl, rfl, rfl, rfl, trivial⟩ ⟨hkt, hse, hr9, by simpa using hl8, fun s hs => ?_, hst8.ext (X' := ob sv) hS9 (fun _ h => h) (fun _ h => .inl h)⟩ (Nat.sub_lt_sub_left hkt (Nat.lt_succ_self k))
        rcases List.mem_or_eq_of_mem_set hs with h | h
        · exact h168 s h
        · rw [h]; exact hnx
end Go.Proofs.YtgpibcgebpgmiaaDoor

namespace Go.Proofs.YtgpibcgebpgmiaaDoor
open Go Go.Eng Go.RowKit
def xA : Nd := .mk 7 0 [100, 97, 121, 115] [.mk 4 0 [100, 97, 121] [], .mk 1 3 [] []]
def xB : Nd := .mk 6 0 [97, 110, 100] [.mk 6 0 [62] [.mk 4 0 [101, 120, 116, 114, 97] [], .mk 1 2 [] []], .mk 2 1 [] []]
def xC : Nd := .mk 6 0 [45] [.mk 4 0 [97, 109, 111, 117, 110, 116] [], .mk 1 1 [] []]
theorem nA : nestN xA = 2 ∧ typeT xA = 3 ∧ sizeN xA = 3 ∧ exprF xA = [⟨4, 0⟩, ⟨1, 3⟩, ⟨15, 0⟩, ⟨24, 0⟩] := by
  refine ⟨?_, ?_, ?_, ?_⟩
  · simp only [xA, nestN_eq, Nd.kids, List.map_cons, List.map_nil]; rfl
  · simp only [xA, typeT_eq, Nd.kids, Nd.kind, Nd.num, Nd.word, List.map_cons, List.map_nil]; rfl
  · simp only [xA, sizeN_eq, Nd.kids, List.map_cons, List.map_nil]; rfl
  · simp only [xA, exprF, codeN_eq, Nd.kids, Nd.kind, Nd.num, Nd.word, List.map_cons, List.map_nil]; rfl
theorem nB : nestN xB = 3 ∧ typeT xB = 2 ∧ sizeN xB = 5 ∧ exprF xB = [⟨4, 2⟩, ⟨1, 2⟩, ⟨10, 0⟩, ⟨12, 0⟩, ⟨14, 7⟩, ⟨2, 1⟩, ⟨13, 8⟩, ⟨2, 0⟩, ⟨24, 0⟩] := by
  refine ⟨?_, ?_, ?_, ?_⟩
  · simp only [xB, nestN_eq, Nd.kids, List.map_cons, List.map_nil]; rfl
  · simp only [xB, typeT_eq, Nd.kids, Nd.kind, Nd.num, Nd.word, List.map_cons, List.map_nil]; rfl
  · simp only [xB, sizeN_eq, Nd.kids, List.map_cons, List.map_nil]; rfl
  · simp only [xB, exprF, codeN_eq, Nd.kids, Nd.kind, Nd.num, Nd.word, List.map_cons, List.map_nil]; rfl
theorem nC : nestN xC = 2 ∧ typeT xC = 1 ∧ sizeN xC = 3 ∧ exprF xC = [⟨4, 6⟩, ⟨1, 1⟩, ⟨6, 0⟩, ⟨24, 0⟩] := by
  refine ⟨?_, ?_, ?_, ?_⟩
  · simp only [xC, nestN_eq, Nd.kids, List.map_cons, List.map_nil]; rfl
  · simp only [xC, typeT_eq, Nd.kids, Nd.kind, Nd.num, Nd.word, List.map_cons, List.map_nil]; rfl
  · simp only [xC, sizeN_eq, Nd.kids, List.map_cons, List.map_nil]; rfl
  · simp only [xC, exprF, codeN_eq, Nd.kids, Nd.kind, Nd.num, Nd.word, List.map_cons, List.map_nil]; rfl
theorem buildIns1 (a0 : Ins) (w : World) : (Instr.buildSlice 40 1 #[(0, agg a0)]).run Tryd.prog w = .ok (.slice (some ⟨w.heap.size, 0, none⟩) 1 1) (w.alloc (.cells #[.int .i64 a0.op, .int .i64 a0.n] 59)) := by kernel_rfl
theorem buildIns3 (a0 a1 a2 : Ins) (w : World) : (Instr.buildSlice 40 3 #[(0, agg a0), (1, agg a1), (2, agg a2)]).run Tryd.prog w = .ok (.slice (some ⟨w.heap.size, 0, none⟩) 3 3) (w.alloc (.cells #[.int .i64 a0.op, .int .i64 a0.n, .int .i64 a1.op, .int .i64 a1.n, .int .i64 a2.op, .int .i64 a2.n] 59)) := by kernel_rfl
theorem buildIns4 (a0 a1 a2 a3 : Ins) (w : World) : (Instr.buildSlice 40 4 #[(0, agg a0), (1, agg a1), (2, agg a2), (3, agg a3)]).run Tryd.prog w = .ok (.slice (some ⟨w.heap.size, 0, none⟩) 4 4) (w.alloc (.cells #[.int .i64 a0.op, .int .i64 a0.n, .int .i64 a1.op, .int .i64 a1.n, .int .i64 a2.op, .int .i64 a2.n, .int .i64 a3.op, .int .i64 a3.n] 59)) := by kernel_rfl
theorem buildIns9 (a0 a1 a2 a3 a4 a5 a6 a7 a8 : Ins) (w : World) : (Instr.buildSlice 40 9 #[(0, agg a0), (1, agg a1), (2, agg a2), (3, agg a3), (4, agg a4), (5, agg a5), (6, agg a6), (7, agg a7), (8, agg a8)]).run Tryd.prog w = .ok (.slice (some ⟨w.heap.size, 0, none⟩) 9 9) (w.alloc (.cells #[.int .i64 a0.op, .int .i64 a0.n, .int .i64 a1.op, .int .i64 a1.n, .int .i64 a2.op, .int .i64 a2.n, .int .i64 a3.op, .int .i64 a3.n, .int .i64 a4.op, .int .i64 a4.n, .int .i64 a5.op, .int .i64 a5.n, .int .i64 a6.op, .int .i64 a6.n, .int .i64 a7.op, .int .i64 a7.n, .int .i64 a8.op, .int .i64 a8.n] 59)) := by kernel_rfl
theorem bad_any (v : Value) (code : List Ins) (w : World) (hs : SlV [] w v code) (hb : verM code = (0, 22)) : Calls Tryd.prog 63 #[v] w (Ret fun r w' => r = .bool true ∧ Stp [] w w') := by
  refine calls_of_WC1 (n := 16) Tryd.func63 rfl rfl rfl ?_
  refine W ?_
  refine WL_eff (OE_call rfl (evs1 rfl) (Verify_any v code _ hs)) rfl ?_
  rintro _ w2 ⟨rfl, hS⟩
  rw [hb]
  repeat' (first | refine W1 ?_ | (exfalso; omega) | refine WL_split rfl rfl (fun hg => ?_) (fun hg => ?_) | refine WL_splitB rfl rfl (fun hg => ?_) (fun hg => ?_) | refine WC_cond rfl (fun hc => ?_) (fun hc => ?_) | refine WC_condB rfl (fun hc => ?_) (fun hc => ?_))
  first | refine WQ_ret1 rfl rfl ?_ | refine WQ_ret2 rfl rfl rfl ?_ | refine WQ_ret3 rfl rfl rfl rfl ?_ | refine WQ_ret0 rfl ?_ | refine WQ_end0 rfl ?_
  exact .mk ⟨rfl, hS⟩
theorem lives15_any (w : World) (hF : SlV [] w flds fieldNames) : Calls Tryd.prog 21 #[] w (Ret fun r w' => r = .bool true ∧ Stp [] w w') := by
  obtain ⟨na1, na2, na3, na4⟩ := nA
  obtain ⟨nb1, nb2, nb3, nb4⟩ := nB
  obtain ⟨nc1, nc2, nc3, nc4⟩ := nC
  have ea : errX xA = 0 := by rw [errX, if_pos (by omega), if_neg (by omega), if_neg (by rw [na4]; decide)]
  have eb : errX xB = 0 := by rw [errX, if_pos (by omega), if_neg (by omega), if_neg (by rw [nb4]; decide)]
  have ec : errX xC = 0 := by rw [errX, if_pos (by omega), if_neg (by omega), if_neg (by rw [nc4]; decide)]
  refine calls_of_WC0 (n := 123) Tryd.func21 rfl rfl ?_
  refine W ?_
  refine WL_eff (OE_call rfl (evs1 rfl) (field15_any [100, 97, 121] _)) rfl ?_
  rintro r1 w1 ⟨h1, hS1⟩
  refine W ?_
  refine WL_eff (OE_call rfl (evs1 rfl) (number15_any 3 _)) rfl ?_
  rintro r2 w2 ⟨h2, hS2⟩
  replace h1 := (h1 []).up hS2
  replace h2 := h2 []
  replace hS1 := hS1.trans hS2
  clear hS2
  obtain ⟨k1, rfl, s1⟩ := h1
  obtain ⟨k2, rfl, s2⟩ := h2
  obtain ⟨p1, c1, rfl, -⟩ := id s1
  obtain ⟨p2, c2, rfl, -⟩ := id s2
  refine WL_eff (OE_buildSlice (vs := [(0, .agg #[.int .i64 4, .int .i64 0, str [100, 97, 121], .slice p1 0 c1]), (1, .agg #[.int .i64 1, .int .i64 3, str [], .slice p2 0 c2])]) rfl (buildSN2 _ _ _ _ _ _ _ _ _ _ _ _)) rfl ?_
  rintro bv w3 hN
  have hbv : SlV [] w3 bv [Nd.mk 4 0 [100, 97, 121] [], Nd.mk 1 3 [] []] := hN.slvG (X := []) (css := [ndC (Nd.mk 4 0 [100, 97, 121] []) _, ndC (Nd.mk 1 3 [] []) _]) (by simp) rfl rfl rfl (reps2 (y0 := .mk 4 0 [100, 97, 121] []) (y1 := .mk 1 3 [] []) s1 s2) (by simp [maxLen])
  have hT := NewSl.stp hN
  clear hN
  replace hS1 := hS1.trans hT
  obtain ⟨p, c, rfl, -⟩ := id hbv
  apply WL_build (vs := [(0, .int .i64 7), (2, str [100, 97, 121, 115]), (3, .slice p 2 c)]) rfl (buildN023 _ _ _ _ _) rfl
  refine WL_eff (OE_call rfl (evs1 rfl) (Expression_any _ xA _ (by omega) ⟨_, rfl, hbv⟩ (hF.up hS1))) rfl ?_
  rintro _ w4 ⟨va, rfl, ha, hS4⟩
  rw [ea]
  replace ha := ha [] (by simp)
  rw [ea, if_pos rfl, na4] at ha
  replace hS1 := hS1.trans hS4
  clear hS4
  refine W ?_
  refine WL_eff (OE_call rfl (evs1 rfl) (field15_any [101, 120, 116, 114, 97] _)) rfl ?_
  rintro q1 w5 ⟨h1, hS5⟩
  refine W ?_
  refine WL_eff (OE_call rfl (evs1 rfl) (number15_any 2 _)) rfl ?_
  rintro q2 w6 ⟨h2, hS6⟩
  refine W ?_
  refine WL_eff (OE_call rfl (evs3 rfl rfl rfl) (binary15_any [] [62] _ _ _ _ _ (by simp) ((h1 []).up hS6) (h2 []))) rfl ?_
  rintro q3 w7 ⟨h3, hS7⟩
  refine W ?_
  apply WL_build (vs := [(0, .int .i64 2), (1, .int .i64 1)]) rfl (buildN01 _ _) rfl
  refine WL_eff (OE_call rfl (evs3 rfl rfl rfl) (binary15_any [] [97, 110, 100] _ _ _ (.mk 2 1 [] []) _ (by simp) h3 ⟨.slice none 0 0, rfl, nilSlv _ _⟩)) rfl ?_
  rintro q4 w8 ⟨h4, hS8⟩
  have hS := (((hS1.trans hS5).trans hS6).trans hS7).trans hS8
  replace ha := (((ha.up hS5).up hS6).up hS7).up hS8
  clear hS1 hS5 hS6 hS7 hS8 h1 h2 h3
  refine W ?_
  refine WL_eff (OE_call rfl (evs1 rfl) (Expression_any _ xB _ (by omega) h4 (hF.up hS))) rfl ?_
  rintro _ w9 ⟨vb, rfl, hb, hS9⟩
  rw [eb]
  replace hb := hb [] (by simp)
  rw [eb, if_pos rfl, nb4] at hb
  replace ha := ha.up hS9
  replace hS := hS.trans hS9
  clear hS9
  refine W ?_
  refine WL_eff (OE_call rfl (evs1 rfl) (field15_any [97, 109, 111, 117, 110, 116] _)) rfl ?_
  rintro q1 w5 ⟨h1, hS5⟩
  refine W ?_
  refine WL_eff (OE_call rfl (evs1 rfl) (number15_any 1 _)) rfl ?_
  rintro q2 w6 ⟨h2, hS6⟩
  refine W ?_
  refine WL_eff (OE_call rfl (evs3 rfl rfl rfl) (binary15_any [] [45] _ _ _ _ _ (by simp) ((h1 []).up hS6) (h2 []))) rfl ?_
  rintro q3 w7 ⟨h3, hS7⟩
  have hSS := (hS5.trans hS6).trans hS7
  replace ha := ha.up hSS
  replace hb := hb.up hSS
  replace hS := hS.trans hSS
  clear hSS hS5 hS6 hS7 h1 h2
  refine W ?_
  refine WL_eff (OE_call rfl (evs1 rfl) (Expression_any _ xC _ (by omega) h3 (hF.up hS))) rfl ?_
  rintro _ w9 ⟨vc, rfl, hc, hS9⟩
  rw [ec]
  replace hc := hc [] (by simp)
  rw [ec, if_pos rfl, nc4] at hc
  replace ha := ha.up hS9
  replace hb := hb.up hS9
  replace hS := hS.trans hS9
  clear hS9
  refine W ?_
  refine WL_eff (OE_call rfl (evs1 rfl) (Verify_any _ _ _ ha)) rfl ?_
  rintro _ w10 ⟨rfl, hS10⟩
  replace ha := ha.up hS10
  replace hb := hb.up hS10
  replace hc := hc.up hS10
  replace hS := hS.trans hS10
  clear hS10
  rw [show verM [⟨4, 0⟩, ⟨1, 3⟩, ⟨15, 0⟩, ⟨24, 0⟩] = (3, 0) by decide]
  repeat' (first | refine W1 ?_ | (exfalso; omega) | refine WL_split rfl rfl (fun hg => ?_) (fun hg => ?_) | refine WL_splitB rfl rfl (fun hg => ?_) (fun hg => ?_) | refine WC_cond rfl (fun hc => ?_) (fun hc => ?_) | refine WC_condB rfl (fun hc => ?_) (fun hc => ?_))
  apply WL_build (vs := [(0, .int .i64 4), (1, .int .i64 2)]) rfl (buildI _ _) rfl
  refine W ?_
  apply WL_build (vs := [(0, .int .i64 1), (1, .int .i64 2)]) rfl (buildI _ _) rfl
  refine W ?_
  apply WL_build (vs := [(0, .int .i64 10)]) rfl (buildI0 _) rfl
  refine W ?_
  apply WL_build (vs := [(0, .int .i64 12)]) rfl (buildI0 _) rfl
  refine W ?_
  apply WL_build (vs := [(0, .int .i64 14), (1, .int .i64 7)]) rfl (buildI _ _) rfl
  refine W ?_
  apply WL_build (vs := [(0, .int .i64 2), (1, .int .i64 1)]) rfl (buildI _ _) rfl
  refine W ?_
  apply WL_build (vs := [(0, .int .i64 13), (1, .int .i64 8)]) rfl (buildI _ _) rfl
  refine W ?_
  apply WL_build (vs := [(0, .int .i64 2)]) rfl (buildI0 _) rfl
  refine W ?_
  apply WL_build (vs := [(0, .int .i64 24)]) rfl (buildI0 _) rfl
  refine W ?_
  refine WL_eff (OE_buildSlice (vs := [(0, agg (Ins.mk 4 2)), (1, agg (Ins.mk 1 2)), (2, agg (Ins.mk 10 0)), (3, agg (Ins.mk 12 0)), (4, agg (Ins.mk 14 7)), (5, agg (Ins.mk 2 1)), (6, agg (Ins.mk 13 8)), (7, agg (Ins.mk 2 0)), (8, agg (Ins.mk 24 0))]) rfl (buildIns9 _ _ _ _ _ _ _ _ _ )) rfl ?_
  rintro want w11 hN
  have s_want : SlV [] w11 want ([(Ins.mk 4 2), (Ins.mk 1 2), (Ins.mk 10 0), (Ins.mk 12 0), (Ins.mk 14 7), (Ins.mk 2 1), (Ins.mk 13 8), (Ins.mk 2 0), (Ins.mk 24 0)] : List Ins) := hN.slv (by simp) rfl rfl (by simp [maxLen])
  have hT := NewSl.stp hN
  clear hN
  replace ha := ha.up hT
  replace hb := hb.up hT
  replace hc := hc.up hT
  replace hS := hS.trans hT
  clear hT
  refine W ?_
  apply WL_build (vs := [(0, .int .i64 4)]) rfl (buildI0 _) rfl
  refine W ?_
  apply WL_build (vs := [(0, .int .i64 1), (1, .int .i64 3)]) rfl (buildI _ _) rfl
  refine W ?_
  apply WL_build (vs := [(0, .int .i64 15)]) rfl (buildI0 _) rfl
  refine W ?_
  apply WL_build (vs := [(0, .int .i64 24)]) rfl (buildI0 _) rfl
  refine W ?_
  refine WL_eff (OE_buildSlice (vs := [(0, agg (Ins.mk 4 0)), (1, agg (Ins.mk 1 3)), (2, agg (Ins.mk 15 0)), (3, agg (Ins.mk 24 0))]) rfl (buildIns4 _ _ _ _ )) rfl ?_
  rintro wa w12 hN
  have s_wa : SlV [] w12 wa ([(Ins.mk 4 0), (Ins.mk 1 3), (Ins.mk 15 0), (Ins.mk 24 0)] : List Ins) := hN.slv (by simp) rfl rfl (by simp [maxLen])
  have hT := NewSl.stp hN
  clear hN
  replace ha := ha.up hT
  replace hb := hb.up hT
  replace hc := hc.up hT
  replace s_want := s_want.up hT
  replace hS := hS.trans hT
  clear hT
  refine W ?_
  refine WL_eff (OE_call rfl (evs2 rfl rfl) (SameCode_any _ _ _ _ _ ha s_wa)) rfl ?_
  rintro _ w13 ⟨rfl, hT⟩
  replace hb := hb.up hT
  replace hc := hc.up hT
  replace s_want := s_want.up hT
  replace hS := hS.trans hT
  clear hT
  repeat' (first | refine W1 ?_ | (exfalso; omega) | refine WL_split rfl rfl (fun hg => ?_) (fun hg => ?_) | refine WL_splitB rfl rfl (fun hg => ?_) (fun hg => ?_) | refine WC_cond rfl (fun hc => ?_) (fun hc => ?_) | refine WC_condB rfl (fun hc => ?_) (fun hc => ?_))
  refine WL_eff (OE_call rfl (evs2 rfl rfl) (SameCode_any _ _ _ _ _ hb s_want)) rfl ?_
  rintro _ w14 ⟨rfl, hT⟩
  replace hc := hc.up hT
  replace hS := hS.trans hT
  clear hT
  repeat' (first | refine W1 ?_ | (exfalso; omega) | refine WL_split rfl rfl (fun hg => ?_) (fun hg => ?_) | refine WL_splitB rfl rfl (fun hg => ?_) (fun hg => ?_) | refine WC_cond rfl (fun hc => ?_) (fun hc => ?_) | refine WC_condB rfl (fun hc => ?_) (fun hc => ?_))
  apply WL_build (vs := [(0, .int .i64 4), (1, .int .i64 6)]) rfl (buildI _ _) rfl
  refine W ?_
  apply WL_build (vs := [(0, .int .i64 1), (1, .int .i64 1)]) rfl (buildI _ _) rfl
  refine W ?_
  apply WL_build (vs := [(0, .int .i64 6)]) rfl (buildI0 _) rfl
  refine W ?_
  apply WL_build (vs := [(0, .int .i64 24)]) rfl (buildI0 _) rfl
  refine W ?_
  refine WL_eff (OE_buildSlice (vs := [(0, agg (Ins.mk 4 6)), (1, agg (Ins.mk 1 1)), (2, agg (Ins.mk 6 0)), (3, agg (Ins.mk 24 0))]) rfl (buildIns4 _ _ _ _ )) rfl ?_
  rintro wc w15 hN
  have s_wc : SlV [] w15 wc ([(Ins.mk 4 6), (Ins.mk 1 1), (Ins.mk 6 0), (Ins.mk 24 0)] : List Ins) := hN.slv (by simp) rfl rfl (by simp [maxLen])
  have hT := NewSl.stp hN
  clear hN
  replace hc := hc.up hT
  replace hS := hS.trans hT
  clear hT
  refine W ?_
  refine WL_eff (OE_call rfl (evs2 rfl rfl) (SameCode_any _ _ _ _ _ hc s_wc)) rfl ?_
  rintro _ w16 ⟨rfl, hT⟩
  replace hS := hS.trans hT
  clear hT
  repeat' (first | refine W1 ?_ | (exfalso; omega) | refine WL_split rfl rfl (fun hg => ?_) (fun hg => ?_) | refine WL_splitB rfl rfl (fun hg => ?_) (fun hg => ?_) | refine WC_cond rfl (fun hc => ?_) (fun hc => ?_) | refine WC_condB rfl (fun hc => ?_) (fun hc => ?_))
  apply WL_build (vs := [(0, .int .i64 1), (1, .int .i64 1)]) rfl (buildI _ _) rfl
  refine WL_eff OE_alloc rfl ?_
  rintro _ w17 ⟨b10, rfl, hb10, e10, hT⟩
  have q10 := hb10
  refine WL_eff0 (OE_storeA (us := Flat.enc (Ins.mk 1 1)) rfl rfl rfl rfl (Flat.one _) e10 rfl) ?_
  rintro _ w18 ⟨hT2, e10'⟩
  replace hS := hS.trans (hT.own hT2 (fun b hb => .inr (by simp at hb; omega)))
  clear hT hT2 e10
  refine W ?_
  apply WL_build (vs := [(0, .int .i64 24)]) rfl (buildI0 _) rfl
  refine WL_eff OE_alloc rfl ?_
  rintro _ w19 ⟨b11, rfl, hb11, e11, hT⟩
  have l10 := e10'.lt
  replace e10' := e10'.up hT
  refine WL_eff0 (OE_storeA (us := Flat.enc (Ins.mk 24 0)) rfl rfl rfl rfl (Flat.one _) e11 rfl) ?_
  rintro _ w20 ⟨hT2, e11'⟩
  replace e10' := e10'.ext hT2 (by simp; omega)
  replace hS := hS.trans (hT.own hT2 (fun b hb => .inr (by simp at hb; omega)))
  clear hT hT2 e11
  refine W ?_
  refine WL_eff (OE_call rfl (evs1 rfl) (bad_any _ [] _ (nilSlv _ _) (by decide))) rfl ?_
  rintro _ w21 ⟨rfl, hT⟩
  replace e10' := e10'.up hT
  replace e11' := e11'.up hT
  replace hS := hS.trans hT
  clear hT
  refine W ?_
  refine WL_eff (OE_buildSlice (vs := [(0, agg (Ins.mk 24 0))]) rfl (buildIns1 _ )) rfl ?_
  rintro x1 w22 hN
  have s_x1 : SlV [] w22 x1 ([(Ins.mk 24 0)] : List Ins) := hN.slv (by simp) rfl rfl (by simp [maxLen])
  have hT := NewSl.stp hN
  clear hN
  replace e10' := e10'.up hT
  replace e11' := e11'.up hT
  replace hS := hS.trans hT
  clear hT
  refine W ?_
  refine WL_eff (OE_call rfl (evs1 rfl) (bad_any _ _ _ s_x1 (by decide))) rfl ?_
  rintro _ w23 ⟨rfl, hT⟩
  replace e10' := e10'.up hT
  replace e11' := e11'.up hT
  replace hS := hS.trans hT
  clear hT
  refine W ?_
  apply WL_build (vs := [(0, .int .i64 1), (1, .int .i64 2)]) rfl (buildI _ _) rfl
  refine W ?_
  refine WL_eff (OE_buildSlice (vs := [(0, agg (Ins.mk 1 1)), (1, agg (Ins.mk 1 2)), (2, agg (Ins.mk 24 0))]) rfl (buildIns3 _ _ _ )) rfl ?_
  rintro x2 w24 hN
  have s_x2 : SlV [] w24 x2 ([(Ins.mk 1 1), (Ins.mk 1 2), (Ins.mk 24 0)] : List Ins) := hN.slv (by simp) rfl rfl (by simp [maxLen])
  have hT := NewSl.stp hN
  clear hN
  replace e10' := e10'.up hT
  replace e11' := e11'.up hT
  replace hS := hS.trans hT
  clear hT
  refine W ?_
  refine WL_eff (OE_call rfl (evs1 rfl) (bad_any _ _ _ s_x2 (by decide))) rfl ?_
  rintro _ w25 ⟨rfl, hT⟩
  replace e10' := e10'.up hT
  replace e11' := e11'.up hT
  replace hS := hS.trans hT
  clear hT
  refine W ?_
  apply WL_build (vs := [(0, .int .i64 2), (1, .int .i64 1)]) rfl (buildI _ _) rfl
  refine W ?_
  apply WL_build (vs := [(0, .int .i64 14), (1, .int .i64 1)]) rfl (buildI _ _) rfl
  refine W ?_
  refine WL_eff (OE_buildSlice (vs := [(0, agg (Ins.mk 2 1)), (1, agg (Ins.mk 14 1)), (2, agg (Ins.mk 24 0))]) rfl (buildIns3 _ _ _ )) rfl ?_
  rintro x3 w26 hN
  have s_x3 : SlV [] w26 x3 ([(Ins.mk 2 1), (Ins.mk 14 1), (Ins.mk 24 0)] : List Ins) := hN.slv (by simp) rfl rfl (by simp [maxLen])
  have hT := NewSl.stp hN
  clear hN
  replace e10' := e10'.up hT
  replace e11' := e11'.up hT
  replace hS := hS.trans hT
  clear hT
  refine W ?_
  refine WL_eff (OE_call rfl (evs1 rfl) (bad_any _ _ _ s_x3 (by decide))) rfl ?_
  rintro _ w27 ⟨rfl, hT⟩
  replace e10' := e10'.up hT
  replace e11' := e11'.up hT
  replace hS := hS.trans hT
  clear hT
  refine W ?_
  apply WL_build (vs := [(0, .int .i64 13), (1, .int .i64 3)]) rfl (buildI _ _) rfl
  refine W ?_
  apply WL_build (vs := [(0, .int .i64 8)]) rfl (buildI0 _) rfl
  refine W ?_
  refine WL_eff (OE_buildSlice (vs := [(0, agg (Ins.mk 1 1)), (1, agg (Ins.mk 13 3)), (2, agg (Ins.mk 8 0)), (3, agg (Ins.mk 24 0))]) rfl (buildIns4 _ _ _ _ )) rfl ?_
  rintro x4 w28 hN
  have s_x4 : SlV [] w28 x4 ([(Ins.mk 1 1), (Ins.mk 13 3), (Ins.mk 8 0), (Ins.mk 24 0)] : List Ins) := hN.slv (by simp) rfl rfl (by simp [maxLen])
  have hT := NewSl.stp hN
  clear hN
  replace e10' := e10'.up hT
  replace e11' := e11'.up hT
  replace hS := hS.trans hT
  clear hT
  refine W ?_
  refine WL_eff (OE_call rfl (evs1 rfl) (bad_any _ _ _ s_x4 (by decide))) rfl ?_
  rintro _ w29 ⟨rfl, hT⟩
  replace e10' := e10'.up hT
  replace e11' := e11'.up hT
  replace hS := hS.trans hT
  clear hT
  refine W ?_
  first | refine WQ_ret1 rfl rfl ?_ | refine WQ_ret2 rfl rfl rfl ?_ | refine WQ_ret3 rfl rfl rfl rfl ?_ | refine WQ_ret0 rfl ?_ | refine WQ_end0 rfl ?_
  exact .mk ⟨rfl, hS⟩
end Go.Proofs.YtgpibcgebpgmiaaDoor
/-
The wrap of a law whose row lists a variable: what the contract is handed: the condition on the variable, and the world's shape.
-/
namespace Go.Eng
open Go Go.RowKit Go.Proofs Go.ChangeShapes Go.WideShapes Go.Deep
set_option linter.unusedVariables false
section
variable {H : Type} {enc : TypeId × Value → H}
theorem ret_and_shaped {a : Assume} {C : Checked} {os : Os} {f : FuncId} {fn : Func} {s : ChangeSpec} {conds : List PathCond} {apart fresh handsOn again : Bool} {X : World → Array Value → Prop}
    (hX : ∀ (w w' : World) (args : Array Value), w.heap = w'.heap → X w args → X w' args)
    (own : ownKnob C.prog.godebug = none) (started : os.Started) (noInit : C.prog.inits.idxOf? f = none) (hfn : C.prog.funcs[f]? = some fn)
    (witness : ∃ (w : World) (tape : Tape) (i : Input), w.os = os ∧ (w.forCall tape i).Shaped C.prog ∧ i.vars = [] ∧ Input.okWide C.prog (w.forCall tape i) .any w.heap.size f i ∧
      ((s.pre enc C.prog fn conds apart (w.forCall tape i).memory i.args ∧ X (w.forCall tape i).memory i.args) ∧ sizedMet enc C.prog fn (OpenSpec.ofChange s) apart (w.forCall tape i).memory i.args) ∧ a.holds C.prog (lone (Frame.enter C.prog f i.args .normal) [] (w.forCall tape i)))
    (contract : ∀ (W : World) (base : Nat) (args : Array Value) (ds gs : List (DataW H)) (before : List MemPlace),
      (∀ (j : Nat) t v, fn.params[j]? = some t → args[j]? = some v → Value.okWide C.prog W .any base t v) →
      DataW.Whole enc C.prog fn.params.toList s.vars apart W args.toList ds gs before →
      (DataW.weightsEach C.prog (fn.params.toList ++ s.plain.varTypes C.prog) (ds ++ gs)).all (· ≤ reachBytes) = true → X W args → W.ShapedOpen C.prog →
      Calls C.prog f args W fun e W' => ∃ v, e = .returned v ∧ s.post enc C.prog fn apart fresh handsOn again W args v W') :
    ReturnsInHanded a C os f .any (fun w args => (s.pre enc C.prog fn conds apart w args ∧ X w args) ∧ sizedMet enc C.prog fn (OpenSpec.ofChange s) apart w args) (s.post enc C.prog fn apart fresh handsOn again) := by
  refine returnsInHanded_of_calls own started noInit witness ?_
  intro w tape i _ hsh _ hok hpre hholds
  obtain ⟨_, _, _, fn', hfn', _, _, _, _, hval⟩ := hok
  have e : fn' = fn := Option.some.inj (hfn'.symm.trans hfn)
  subst e
  obtain ⟨⟨⟨ds, gs, before, hw, hc⟩, hx⟩, hz⟩ := hpre
  have hw' := DataW.Whole.of_heap (w' := w.forCall tape i) (by rfl) hw
  refine (contract (w.forCall tape i) w.heap.size i.args ds gs before hval hw' (hz.weights hw) (hX _ _ _ (by rfl) hx) hsh).mono fun e W' ⟨v, he, hp⟩ => ?_
  subst he
  exact ChangeSpec.post_blind hp
/-- a listed array of strings: its cells -/
theorem laid_strs {P : Program} {W : World} {name : String} {g t e n : Nat} {ss : List Str} (hg : P.globalNamed name = some g) (ht : (P.globals[g]?).map (·.type) = some t) (hu : P.underlying t = some (.array n e)) (he : P.underlying e = some .string) (hc : P.cellsOf e = 1)
    (hn : ss.length = n) (hh : ((([(name, DataW.agg (ss.map (fun s => DataW.lit (.string s))))] : List (String × DataW Unit)).all fun x => x.2.handleName?.isNone)) = true) (h : laidMetH P [(name, .agg (ss.map (fun s => DataW.lit (.string s))))] W) :
    ∀ i (hi : i < ss.length), W.cell? ⟨g, i, none⟩ = some (str ss[i]) := by
  rw [MakeChecks.laidMetH_plain _ _ _ hh] at h
  obtain ⟨ps, ⟨g0, t0, cs0, f0, p0, q0, hg0, ht0, hv0, hd0, _, _⟩, _, _⟩ := h
  obtain rfl := Option.some.inj (hg.symm.trans hg0)
  obtain rfl := Option.some.inj (ht.symm.trans ht0)
  obtain ⟨xs, m1, rfl, hx1, hlen, hn3, hel⟩ := DataW.trod_array hu hd0
  intro i hi
  have h1 := hel i (by omega)
  rw [hc, Nat.mul_one] at h1
  have hxi : xs[i]? = some (xs[i]'(by omega)) := List.getElem?_eq_getElem (by omega)
  rw [hxi] at h1
  obtain ⟨s, e1, e2, _⟩ := DataW.trod_string he h1
  have e3 : DataW.agg (ss.map (fun s => DataW.lit (.string s))) = (DataW.agg (xs.map (·.1)) : DataW Unit) := congrArg Prod.fst hx1
  simp only [DataW.agg.injEq] at e3
  have e4 : (DataW.lit (.string ss[i]) : DataW Unit) = (xs[i]'(by omega)).1 := by
    have h2 := congrArg (fun l => l[i]?) e3
    simp only [List.getElem?_map, hxi, List.getElem?_eq_getElem hi, Option.map_some, Option.some.injEq] at h2
    exact h2
  rw [e2] at e4
  simp only [DataW.lit.injEq, Lit.string.injEq] at e4
  have hv := World.var?_cell hg0 hv0 i
  rw [hv]
  have h5 : cs0.toList[i]? = some (.string s) := by
    have h6 := congrArg (fun l => l[0]?) e1
    simpa [List.getElem?_take, List.getElem?_drop] using h6
  rw [← Array.getElem?_toList, h5]
  congr 1
  simp only [str, e4]
end
end Go.Eng

namespace Go.Proofs.YtgpibcgebpgmiaaDoor
open Go Go.Eng Go.RowKit Go.Proofs Go.ChangeShapes Go.WideShapes Go.Deep
set_option linter.unusedVariables false

theorem law_own : ownKnob Tryd.prog.godebug = none := by kernel_rfl
theorem law_laid : laidOutB Tryd.prog = true := by kernel_rfl
theorem flds_of_laid {W : World} (h : laidMetH Tryd.prog [("rollbook/types.fields", Rows.laid_rollbook_types_fields)] W) : SlV [] W flds fieldNames := by
  have hc := laid_strs (g := 0) (t := 122) (e := 9) (n := 7) (ss := fieldNames) (by kernel_rfl) (by kernel_rfl) Tryd.underlying122 Tryd.underlying9 (by kernel_rfl) rfl (by kernel_rfl) h
  have hlt : 0 < W.heap.size := block_lt_of_cell (a := ⟨0, 0, none⟩) (hc 0 (by decide))
  refine ⟨some ⟨0, 0, none⟩, 7, rfl, by decide, by decide, (fun h => by cases h), fun i hi => ⟨0, 0, [str fieldNames[i]], rfl, hlt, by simp, rfl, fun j u hu => ?_⟩⟩
  have hj : j = 0 := by
    have := (List.getElem?_eq_some_iff.1 hu).1
    simp at this
    exact this
  subst hj
  simp at hu
  subst hu
  have := hc i hi
  simpa [GoRep.k, Flat.k] using this
section
variable {H : Type} {enc : TypeId × Value → H} {w : World} {base : Nat} {spare : Nat → Bool} {held : Bool}
set_option maxRecDepth 100000 in
theorem open_i64 {r : Reach} {b0 : Nat} {v : Value} {d : DataW H} {p : List MemPlace} (hv : Value.okWide Tryd.prog w r b0 3 v) (h : DataW.Trod enc Tryd.prog w base spare held 3 v d p) : ∃ z : Int, v = .int .i64 z ∧ I64 z := by
  obtain ⟨z, rfl, _, _, hw⟩ := open_int Tryd.underlying3 hv h
  exact ⟨z, rfl, by simpa [I64, Lit.wf, IntKind.min, IntKind.max, IntKind.signed, IntKind.bits] using hw⟩
set_option maxRecDepth 100000 in
theorem ints_read {r : Reach} {b0 : Nat} {v : Value} {d : DataW H} {p : List MemPlace} (hv : Value.okWide Tryd.prog w r b0 22 v) (h : DataW.Trod enc Tryd.prog w base spare held 22 v d p) :
    ∃ l : List Int, SlV [] w v l ∧ (∀ x ∈ l, I64 x) ∧ dlen d = l.length := by
  obtain ⟨fuel, h⟩ := h
  obtain ⟨u, l, hu, hs, hok, hln⟩ := slv_ints Tryd.underlying22 (by kernel_rfl) Tryd.underlying3 h
  obtain ⟨a, m, c, rfl⟩ := okWide_slice Tryd.underlying22 hv
  have hu' : Value.slice a m c = u := by simpa [Value.cells] using hu
  subst hu'
  exact ⟨l, hs, hok, hln⟩
set_option maxRecDepth 100000 in
theorem inss_read {r : Reach} {b0 : Nat} {v : Value} {d : DataW H} {p : List MemPlace} (hv : Value.okWide Tryd.prog w r b0 40 v) (h : DataW.Trod enc Tryd.prog w base spare held 40 v d p) :
    ∃ l : List Ins, SlV [] w v l ∧ (∀ x ∈ l, I64 x.op ∧ I64 x.n) ∧ dlen d = l.length := by
  obtain ⟨fuel, h⟩ := h
  obtain ⟨u, l, hu, hs, hok, hln⟩ := slv_of_trod (α := Ins) (ok := fun x => I64 x.op ∧ I64 x.n) Tryd.underlying40 (by kernel_rfl) (by decide) (fun n cs y hl hy => by
    obtain ⟨zs, h1, rfl, h2⟩ := intStruct_spec (k := 2) (by kernel_rfl) hl hy
    match zs, h1 with
    | [a, b], _ => exact ⟨⟨a, b⟩, rfl, by simpa using h2⟩) h
  obtain ⟨a, m, c, rfl⟩ := okWide_slice Tryd.underlying40 hv
  have hu' : Value.slice a m c = u := by simpa [Value.cells] using hu
  subst hu'
  exact ⟨l, hs, hok, hln⟩
end
end Go.Proofs.YtgpibcgebpgmiaaDoor

namespace Go.Eng
open Go Go.RowKit Go.Proofs Go.ChangeShapes Go.WideShapes Go.Deep
set_option linter.unusedVariables false
section
variable {H : Type} {enc : TypeId × Value → H} {P : Program} {w : World} {base : Nat} {spare : Nat → Bool} {held : Bool}
theorem slv_of_trodG {α : Type} [GoRep α] {t e : TypeId} {fuel : Nat} {cs : List Value} {x : DataW H × List MemPlace} (ht : P.underlying t = some (.slice e)) (hC : P.cellsOf e = GoRep.k α) (hpos : 0 < GoRep.k α)
    (hread : ∀ n cs' d q, SizeOf.sizeOf d < SizeOf.sizeOf x.1 → cs'.length = GoRep.k α → DataW.trod enc P w base spare held n e cs' = some (d, q) → ∃ a : α, GoRep.rep [] w a cs')
    (h : DataW.trod enc P w base spare held fuel t cs = some x) : ∃ (v : Value) (xs : List α), cs = [v] ∧ SlV [] w v xs ∧ dlen x.1 = xs.length := by
  rcases open_slice ht h with ⟨rfl, rfl⟩ | ⟨a, len, cap, m, n, D, Pl, rfl, hb, hl, hm, hmm, hx, hi⟩
  · exact ⟨_, [], rfl, ⟨none, 0, rfl, Nat.le_refl _, by simp [maxLen], fun _ => rfl, fun i h => absurd h (Nat.not_lt_zero _)⟩, rfl⟩
  · have hlm : len ≤ m := by rw [hmm]; split <;> omega
    have hall : ∀ i : Fin len, ∃ (y : α) (cs' : List Value), GoRep.rep [] w y cs' ∧ cs'.length = GoRep.k α ∧ ∀ j u, cs'[j]? = some u → w.cell? (a.add (i * GoRep.k α + j)) = some u := by
      intro i
      obtain ⟨cs', hc, htr⟩ := hi i (by omega)
      rw [hC] at hc
      obtain ⟨_, hcl, hat⟩ := World.cells?_some hc
      have hsz : SizeOf.sizeOf (D i) < SizeOf.sizeOf x.1 := by
        rw [hx]
        have hmem : D i ∈ (List.range len).map D := List.mem_map.2 ⟨i, List.mem_range.2 i.2, rfl⟩
        have := List.sizeOf_lt_of_mem hmem
        simp only [DataW.slice.sizeOf_spec]
        omega
      obtain ⟨y, hr⟩ := hread n cs' _ _ hsz hcl htr
      refine ⟨y, cs', hr, hcl, fun j u hu => ?_⟩
      have hj : j < GoRep.k α := by
        have := (List.getElem?_eq_some_iff.1 hu).1
        omega
      have := hat j hj
      rw [hu] at this
      rw [← this, Go.Deep.add_add]
    let f : Fin len → α := fun i => (hall i).choose
    have hf : ∀ i : Fin len, ∃ (cs' : List Value), GoRep.rep [] w (f i) cs' ∧ cs'.length = GoRep.k α ∧ ∀ j u, cs'[j]? = some u → w.cell? (a.add (i * GoRep.k α + j)) = some u := fun i => (hall i).choose_spec
    refine ⟨_, List.ofFn f, rfl, ⟨some a, cap, by simp, by simpa using hl, hm, by simp, fun i hi' => ?_⟩, by rw [hx]; simp [dlen]⟩
    have hi'' : i < len := by simpa using hi'
    obtain ⟨cs', hr, hcl, hat⟩ := hf ⟨i, hi''⟩
    obtain ⟨cs0, hr0, hcl0, hat0⟩ := hf ⟨0, by omega⟩
    have hc1 := hat0 0 (cs0[0]'(by omega)) (List.getElem?_eq_getElem _)
    have hc0 := hat 0 (cs'[0]'(by omega)) (List.getElem?_eq_getElem _)
    have hsp : a.spot = none := by
      have e0 : a.add ((⟨0, by omega⟩ : Fin len).val * GoRep.k α + 0) = a := by simp [Addr.add]
      rw [e0] at hc1
      unfold World.cell? at hc1
      split at hc1
      · cases hs : a.spot with
        | none => rfl
        | some s => simp [hs] at hc1
      · cases hc1
    obtain ⟨b, o, sp⟩ := a
    cases hsp
    refine ⟨b, o, cs', rfl, ?_, by simp, ?_, fun j u hu => ?_⟩
    · have := block_lt_of_cell (a := (⟨b, o, none⟩ : Addr).add (i * GoRep.k α + 0)) hc0
      simpa [addr_add] using this
    · rw [List.getElem_ofFn]; exact hr
    · have := hat j u hu
      rw [addr_add] at this
      rw [show o + i * GoRep.k α + j = o + (i * GoRep.k α + j) from Nat.add_assoc _ _ _]
      exact this
end
end Go.Eng
namespace Go.Proofs.YtgpibcgebpgmiaaDoor
open Go Go.Eng Go.RowKit Go.Proofs Go.ChangeShapes Go.WideShapes Go.Deep
set_option linter.unusedVariables false
section
variable {H : Type} {enc : TypeId × Value → H} {w : World} {base : Nat} {spare : Nat → Bool} {held : Bool}
theorem k3 : Tryd.prog.cellsOf 3 = 1 := by kernel_rfl
theorem k9 : Tryd.prog.cellsOf 9 = 1 := by kernel_rfl
theorem k22 : Tryd.prog.cellsOf 23 = 1 := by kernel_rfl
theorem k24 : Tryd.prog.cellsOf 25 = 4 := by kernel_rfl
set_option maxRecDepth 100000 in
theorem nd_trod : ∀ (k fuel : Nat) (cs : List Value) (x : DataW H × List MemPlace), SizeOf.sizeOf x.1 ≤ k → DataW.trod enc Tryd.prog w base spare held fuel 25 cs = some x → ∃ y : Nd, NRep [] w y cs := by
  intro k
  induction k with
  | zero =>
    intro fuel cs x hk h
    obtain ⟨xs, n, rfl, hx, hlen, hxl, hf⟩ := DataW.trod_struct Tryd.underlying25 h
    rw [hx] at hk
    simp at hk
  | succ k ih =>
    intro fuel cs x hk h
    obtain ⟨xs, n, rfl, hx, hlen, hxl, hf⟩ := DataW.trod_struct Tryd.underlying25 h
    rw [k24] at hlen
    have h0 : DataW.trod enc Tryd.prog w base spare held n 3 ((cs.drop 0).take (Tryd.prog.cellsOf 3)) = xs[0]? := hf 0 _ rfl
    have h1 : DataW.trod enc Tryd.prog w base spare held n 3 ((cs.drop 1).take (Tryd.prog.cellsOf 3)) = xs[1]? := hf 1 _ rfl
    have h2 : DataW.trod enc Tryd.prog w base spare held n 9 ((cs.drop 2).take (Tryd.prog.cellsOf 9)) = xs[2]? := hf 2 _ rfl
    have h3 : DataW.trod enc Tryd.prog w base spare held n 23 ((cs.drop 3).take (Tryd.prog.cellsOf 23)) = xs[3]? := hf 3 _ rfl
    rw [k3] at h0 h1
    rw [k9] at h2
    rw [k22] at h3
    match cs, hlen, xs, hxl with
    | [c0, c1, c2, c3], _, [y0, y1, y2, y3], _ =>
      simp only [List.drop, List.take] at h0 h1 h2 h3
      obtain ⟨a, ha, -, -⟩ := DataW.trod_int Tryd.underlying3 h0
      obtain ⟨b, hb, -, -⟩ := DataW.trod_int Tryd.underlying3 h1
      obtain ⟨s, hs, -, -⟩ := DataW.trod_string Tryd.underlying9 h2
      have hsz : SizeOf.sizeOf y3.1 < SizeOf.sizeOf x.1 := by
        rw [hx]
        simp
        omega
      obtain ⟨v, kids, hv, hk, -⟩ := slv_of_trodG (α := Nd) Tryd.underlying23 k24 (by decide) (fun n cs' d q hd hl htr => ih n cs' (d, q) (by simp only; omega) htr) h3
      simp only [List.cons.injEq, and_true] at ha hb hs hv
      subst ha hb hs hv
      refine ⟨.mk a b s.data.toList kids, ?_⟩
      exact slv_nrep hk
set_option maxRecDepth 100000 in
theorem nd_read {r : Reach} {b0 : Nat} {v : Value} {d : DataW H} {p : List MemPlace} (hv : Value.okWide Tryd.prog w r b0 25 v) (h : DataW.Trod enc Tryd.prog w base spare held 25 v d p) :
    ∃ x : Nd, NdV [] w v x := by
  obtain ⟨cs, rfl, hsz⟩ := okWide_struct Tryd.underlying25 hv
  obtain ⟨fuel, h⟩ := h
  obtain ⟨y, hy⟩ := nd_trod _ _ _ _ (Nat.le_refl _) h
  obtain ⟨kv, hc, hs⟩ := nrep_slv hy
  refine ⟨y, kv, ?_, hs⟩
  have hc' : cs.toList = [.int .i64 y.kind, .int .i64 y.num, str y.word, kv] := hc
  rw [← Array.toArray_toList (xs := cs), hc']
end
end Go.Proofs.YtgpibcgebpgmiaaDoor

namespace Go.Proofs.YtgpibcgebpgmiaaDoor
open Go Go.Eng Go.RowKit
set_option linter.unusedVariables false

/-! ### what a valid code is -/
structure Good (code : List Ins) (st : List (Option Shp)) (i : Nat) (s nx : Shp) : Prop where
  at_ : st.getD i none = some s
  next : nextM (code.getD i ⟨0, 0⟩) s = some nx
  stop : (code.getD i ⟨0, 0⟩).op = 24 → i + 1 = st.length ∧ s.length = 1
  jump : (code.getD i ⟨0, 0⟩).op = 13 ∨ (code.getD i ⟨0, 0⟩).op = 14 → (i : Int) < (code.getD i ⟨0, 0⟩).n ∧ (code.getD i ⟨0, 0⟩).n < st.length ∧ st.getD (code.getD i ⟨0, 0⟩).n.toNat none = some nx
  on : (code.getD i ⟨0, 0⟩).op ≠ 24 → (code.getD i ⟨0, 0⟩).op ≠ 13 → i + 1 < st.length ∧ st.getD (i + 1) none = some nx
theorem reach_keeps {st st' : List (Option Shp)} {t : Int} {nx : Shp} (h : reachM st t nx = some st') : (∀ i s, st.getD i none = some s → st'.getD i none = some s) ∧ 0 ≤ t ∧ t < st.length ∧ st'.getD t.toNat none = some nx := by
  unfold reachM at h
  split at h
  · rename_i hr
    split at h
    · rename_i s0 hs0
      split at h
      · rename_i he
        subst he
        cases h
        exact ⟨fun i s h => h, hr.1, hr.2, hs0⟩
      · cases h
    · rename_i hn
      cases h
      refine ⟨fun i s h => ?_, hr.1, hr.2, ?_⟩
      · by_cases hi : t.toNat = i
        · subst hi; rw [hn] at h; cases h
        · have : (st.set t.toNat (some nx)).getD i none = st.getD i none := by
            simp [List.getD, hi]
          rw [this]; exact h
      · have : t.toNat < st.length := by omega
        simp [List.getD, this]
  · cases h
theorem Good.keeps {code : List Ins} {st st' : List (Option Shp)} {i : Nat} {s nx : Shp} (h : Good code st i s nx) (hk : ∀ i s, st.getD i none = some s → st'.getD i none = some s) (hl : st'.length = st.length) : Good code st' i s nx :=
  ⟨hk _ _ h.at_, h.next, fun h1 => by rw [hl]; exact h.stop h1, fun h1 => by rw [hl]; exact ⟨(h.jump h1).1, (h.jump h1).2.1, hk _ _ (h.jump h1).2.2⟩, fun h1 h2 => by rw [hl]; exact ⟨(h.on h1 h2).1, hk _ _ (h.on h1 h2).2⟩⟩
theorem step_good {code : List Ins} {st st' : List (Option Shp)} {i : Nat} (h : stepM st i (code.getD i ⟨0, 0⟩) = some st') : (∀ i s, st.getD i none = some s → st'.getD i none = some s) ∧ st'.length = st.length ∧ ∃ s nx, Good code st' i s nx := by
  unfold stepM at h
  cases hs : st.getD i none with
  | none => rw [hs] at h; cases h
  | some s =>
    rw [hs] at h
    dsimp only at h
    cases hn : nextM (code.getD i ⟨0, 0⟩) s with
    | none => rw [hn] at h; cases h
    | some nx =>
      rw [hn] at h
      dsimp only at h
      by_cases h24 : (code.getD i ⟨0, 0⟩).op = 24
      · rw [if_pos h24] at h
        split at h
        · rename_i hc
          cases h
          exact ⟨fun _ _ h => h, rfl, s, nx, hs, hn, fun _ => hc, fun h => by omega, fun h => absurd h24 h⟩
        · cases h
      rw [if_neg h24] at h
      by_cases h13 : (code.getD i ⟨0, 0⟩).op = 13
      · rw [if_pos h13] at h
        split at h
        · rename_i hc
          obtain ⟨k1, k2, k3, k4⟩ := reach_keeps h
          have hl := reachM_len h
          exact ⟨k1, hl, s, nx, k1 _ _ hs, hn, fun h => absurd h h24, fun _ => ⟨hc, by omega, k4⟩, fun _ h => absurd h13 h⟩
        · cases h
      rw [if_neg h13] at h
      by_cases h14 : (code.getD i ⟨0, 0⟩).op = 14
      · rw [if_pos h14] at h
        split at h
        · rename_i hc
          obtain ⟨s1, r1, r2⟩ := Option.bind_eq_some_iff.1 h
          obtain ⟨k1, k2, k3, k4⟩ := reach_keeps r1
          obtain ⟨m1, m2, m3, m4⟩ := reach_keeps r2
          have hl := reachM_len r1
          have hl2 := reachM_len r2
          exact ⟨fun i s h => m1 _ _ (k1 _ _ h), by omega, s, nx, m1 _ _ (k1 _ _ hs), hn, fun h => absurd h h24, fun _ => ⟨hc, by omega, m1 _ _ k4⟩, fun _ _ => ⟨by omega, m4⟩⟩
        · cases h
      rw [if_neg h14] at h
      obtain ⟨k1, k2, k3, k4⟩ := reach_keeps h
      have hl := reachM_len h
      exact ⟨k1, hl, s, nx, k1 _ _ hs, hn, fun h => absurd h h24, fun h => absurd h (not_or.2 ⟨h13, h14⟩), fun _ _ => ⟨by omega, k4⟩⟩
theorem run_good {code : List Ins} {st0 : List (Option Shp)} : ∀ (k : Nat) (st : List (Option Shp)), runM code k st0 = some st → (∀ i s, st0.getD i none = some s → st.getD i none = some s) ∧ st.length = st0.length ∧ ∀ i, i < k → ∃ s nx, Good code st i s nx
  | 0, st, h => by cases h; exact ⟨fun _ _ h => h, rfl, fun i hi => by omega⟩
  | k + 1, st, h => by
    obtain ⟨s1, h1, h2⟩ := Option.bind_eq_some_iff.1 h
    obtain ⟨a1, a2, a3⟩ := run_good k s1 h1
    obtain ⟨b1, b2, b3⟩ := step_good h2
    refine ⟨fun i s h => b1 _ _ (a1 _ _ h), by omega, fun i hi => ?_⟩
    by_cases hk : i = k
    · subst hk; exact b3
    · obtain ⟨s, nx, hg⟩ := a3 i (by omega)
      exact ⟨s, nx, hg.keeps b1 b2⟩
/-- a valid code has a shape at each instruction -/
theorem ver_good {code : List Ins} {t : Int} (h : verM code = (t, 0)) : 0 < code.length ∧ code.length ≤ 200 ∧ ∃ st : List (Option Shp), st.length = code.length ∧ OkSt st ∧ (∀ s, some s ∈ st → s.length ≤ 16) ∧ st.getD 0 none = some [] ∧ st.getD (code.length - 1) none = some [t] ∧ ∀ i, i < code.length → ∃ s nx, Good code st i s nx := by
  unfold verM at h
  by_cases hl : code.length = 0 ∨ code.length > 200
  · rw [if_pos hl] at h; cases h
  rw [if_neg hl] at h
  cases hr : runM code code.length (some [] :: List.replicate (code.length - 1) none) with
  | none => rw [hr] at h; cases h
  | some st =>
    rw [hr] at h
    dsimp only at h
    obtain ⟨a1, a2, a3⟩ := run_good _ _ hr
    have h0 : OkSt ((some []) :: List.replicate (code.length - 1) none) := by
      intro s hs
      simp at hs
      subst hs
      intro k hk; cases hk
    have hlen : st.length = code.length := by rw [a2]; simp; omega
    have h16 : ∀ (k : Nat) (st : List (Option Shp)), runM code k (some [] :: List.replicate (code.length - 1) none) = some st → ∀ s, some s ∈ st → s.length ≤ 16 := by
      intro k
      induction k with
      | zero =>
        intro st h s hs
        cases h
        simp at hs
        subst hs
        simp
      | succ k ih =>
        intro st h
        obtain ⟨s1, h1, h2⟩ := Option.bind_eq_some_iff.1 h
        exact step16 (ih s1 h1) h2
    refine ⟨by omega, by omega, st, hlen, (run_ok h0 _ _ hr).1, h16 _ _ hr, a1 0 [] rfl, ?_, a3⟩
    obtain ⟨s, nx, hg⟩ := a3 (code.length - 1) (by omega)
    have hat := hg.at_
    rw [hat] at h ⊢
    by_cases h24 : (code.getD (code.length - 1) ⟨0, 0⟩).op = 24
    · have := (hg.stop h24).2
      obtain ⟨k, rfl⟩ := List.length_eq_one_iff.1 this
      simp at h
      rw [h]
    · by_cases h13 : (code.getD (code.length - 1) ⟨0, 0⟩).op = 13
      · have := hg.jump (.inl h13)
        omega
      · have := hg.on h24 h13
        omega
end Go.Proofs.YtgpibcgebpgmiaaDoor
/-
The walk engine, part 17: bytes of a string.
-/
namespace Go.Eng
open Go Go.RowKit Go.Proofs
set_option linter.unusedVariables false
instance : Flat UInt8 where
  k := 1
  enc := fun b => [.int .u8 (b.toNat : Int)]
  len := fun _ => rfl
  one := by intro x u hu; simp at hu; subst hu; rfl
section
variable {P : Program} {n : Nat} {e : Env} {w : World} {d : Option Nat} {ty : TypeId} {pos : String} {af : Array Edge} {g : Option (Nat × Bool)}
theorem OE_convS {src dst el : TypeId} {x : Operand} {s : Str} [hs : Und P src .string] [hd : Und P dst (.slice el)] [he : Und P el (.int .u8)] (hx : ev e x = some (str s)) (hl : s.length ≤ 1000000) :
    OE P n ⟨d, .convert src dst x, ty, pos, af, g⟩ e w (fun v w' => (∀ X : List Nat, (∀ b ∈ X, b < w.heap.size) → SlV X w' v s) ∧ Stp [] w w') := by
  refine OE_value (v := .slice (some ⟨w.heap.size, 0, none⟩) s.length (grownCap w s.length 0 el)) (w' := Go.Lib.bytesWorld w el ⟨s.toArray⟩) (fun a ha => ?_) ⟨fun X hX => ?_, ?_⟩
  · have h := Go.Lib.run_convert_string_bytes (P := P) w src dst el ⟨s.toArray⟩ hs.h hd.h he.h
    simp only [str_size] at h
    simp [execOp, ha.ev hx, h]
  · refine ⟨some ⟨w.heap.size, 0, none⟩, _, rfl, grownCap_ge w _ _ _, grownCap_le_maxLen w _ _ _ (by simp [maxLen]; omega), (fun h => by cases h), fun i hi => ⟨w.heap.size, 0, Flat.enc s[i], rfl, ?_, fun h => by have := hX _ h; omega, rfl, fun j u hu => ?_⟩⟩
    · rw [Go.Lib.bytesWorld_size]; omega
    · have hj : j = 0 := by
        have := (List.getElem?_eq_some_iff.1 hu).1
        simp [Flat.enc] at this
        exact this
      subst hj
      have hc := Go.Lib.bytesWorld_cell w el ⟨s.toArray⟩ i (by rw [str_size]; exact hi)
      simp only [Flat.enc, List.getElem?_cons_zero, Option.some.injEq] at hu
      subst hu
      have e1 : (0 + i * GoRep.k UInt8 + 0) = i := by show 0 + i * 1 + 0 = i; omega
      rw [e1, hc]
      simp [List.getD, hi]
  · refine ⟨rfl, rfl, rfl, ?_, fun b hb _ => Go.Lib.bytesWorld_at_old w el _ b hb⟩
    rw [Go.Lib.bytesWorld_size]; omega
end
end Go.Eng
/-
  DERIVED: THE SHELF's CONTRACTS AT THIS DUMP, IN PLAIN WORDS (tools/lay-plain.mjs out of 'TrydShelf.lean', which tools/lay-shelf.mjs wrote): THE SAME DECLARATIONS UNDER THE SAME NAMES: 'import', 'namespace', 'open', 'def', 'theorem' AND NOTHING ELSE: no command of the shelf's: FOR A HAND-IN. Each laying: the table of numbers ('.._ren') and one theorem, a field a fact of the dump's own or the kernel's comparison; each contract: ONE APPLICATION.
-/
namespace Go.Proofs
open Go.Shelf
def Tryd.lays128_ren : Go.Shelf.Ren := ⟨fun | 128 => 109 | n => n, fun | 51 => 163 | 3 => 3 | 4 => 4 | 46 => 125 | 5 => 5 | 9 => 9 | n => n, fun | n => n⟩
theorem Tryd.lays128 : Go.Proofs.Lays.n128 Tryd.prog Tryd.lays128_ren := {
  mixed := by kernel_rfl
  f128 := Tryd.func109.trans (congrArg some (by kernel_rfl))
  t3 := Tryd.underlying3
  a3 := Tryd.isAgg3
  z3 := Tryd.sizeOf3
  v3 := Tryd.zeroValue3
  t4 := Tryd.underlying4
  a4 := Tryd.isAgg4
  z4 := Tryd.sizeOf4
  v4 := Tryd.zeroValue4
  t5 := Tryd.underlying5
  a5 := Tryd.isAgg5
  z5 := Tryd.sizeOf5
  v5 := Tryd.zeroValue5
  t9 := Tryd.underlying9
  a9 := Tryd.isAgg9
  z9 := Tryd.sizeOf9
  v9 := Tryd.zeroValue9
  t46 := Tryd.underlying125
  a46 := Tryd.isAgg125
  z46 := Tryd.sizeOf125
  v46 := Tryd.zeroValue125
  t51 := Tryd.underlying163
  a51 := Tryd.isAgg163
  z51 := Tryd.sizeOf163
  v51 := Tryd.zeroValue163 }
/-- bits.Len32: "Len32 returns the minimum number of bits required to represent x; the result is 0 for x == 0.": IT RETURNS 'Lib.bitLen x'; the world is as it was. ('h0', 'h1': x is a uint32.) (LAID: no walk: one application.) -/
theorem Tryd.bits_Len32 (x : Int) (w : World) (h0 : 0 ≤ x) (h1 : x ≤ 4294967295) :
    Calls Tryd.prog 109 #[.int .u32 x] w fun e w' => e = .returned (.int .i64 (Lib.bitLen x.toNat)) ∧ w' = w := Any.bits_Len32 Tryd.lays128 x w h0 h1
def Tryd.lays125_ren : Go.Shelf.Ren := ⟨fun | 125 => 78 | 128 => 109 | 129 => 110 | n => n, fun | 46 => 125 | 3 => 3 | 51 => 163 | 53 => 133 | 4 => 4 | 5 => 5 | 9 => 9 | n => n, fun | n => n⟩
theorem Tryd.lays125 : Go.Proofs.Lays.n125 Tryd.prog Tryd.lays125_ren := {
  mixed := by kernel_rfl
  f125 := Tryd.func78.trans (congrArg some (by kernel_rfl))
  f128 := Tryd.func109.trans (congrArg some (by kernel_rfl))
  f129 := Tryd.func110.trans (congrArg some (by kernel_rfl))
  t3 := Tryd.underlying3
  a3 := Tryd.isAgg3
  z3 := Tryd.sizeOf3
  v3 := Tryd.zeroValue3
  t4 := Tryd.underlying4
  a4 := Tryd.isAgg4
  z4 := Tryd.sizeOf4
  v4 := Tryd.zeroValue4
  t5 := Tryd.underlying5
  a5 := Tryd.isAgg5
  z5 := Tryd.sizeOf5
  v5 := Tryd.zeroValue5
  t9 := Tryd.underlying9
  a9 := Tryd.isAgg9
  z9 := Tryd.sizeOf9
  v9 := Tryd.zeroValue9
  t46 := Tryd.underlying125
  a46 := Tryd.isAgg125
  z46 := Tryd.sizeOf125
  v46 := Tryd.zeroValue125
  t51 := Tryd.underlying163
  a51 := Tryd.isAgg163
  z51 := Tryd.sizeOf163
  v51 := Tryd.zeroValue163
  t53 := Tryd.underlying133
  a53 := Tryd.isAgg133
  z53 := Tryd.sizeOf133
  v53 := Tryd.zeroValue133 }
/-- bits.Len: "Len returns the minimum number of bits required to represent x; the result is 0 for x == 0.": IT RETURNS 'Lib.bitLen x'; the world is as it was. (A uint has 64 bits in the model.) ITS CALLEE bits.Len64 IS MET BY ITS OWN CONTRACT OFF THE SHELF (lay that first). (LAID: no walk: one application.) -/
theorem Tryd.bits_Len (x : Int) (w : World) (h0 : 0 ≤ x) (h1 : x ≤ 18446744073709551615) :
    Calls Tryd.prog 78 #[.int .u64 x] w fun e w' => e = .returned (.int .i64 (Lib.bitLen x.toNat)) ∧ w' = w := Any.bits_Len Tryd.lays125 x w h0 h1
def Tryd.lays129_ren : Go.Shelf.Ren := ⟨fun | 129 => 110 | n => n, fun | 53 => 133 | 3 => 3 | 4 => 4 | 46 => 125 | 5 => 5 | 9 => 9 | n => n, fun | n => n⟩
theorem Tryd.lays129 : Go.Proofs.Lays.n129 Tryd.prog Tryd.lays129_ren := {
  mixed := by kernel_rfl
  f129 := Tryd.func110.trans (congrArg some (by kernel_rfl))
  t3 := Tryd.underlying3
  a3 := Tryd.isAgg3
  z3 := Tryd.sizeOf3
  v3 := Tryd.zeroValue3
  t4 := Tryd.underlying4
  a4 := Tryd.isAgg4
  z4 := Tryd.sizeOf4
  v4 := Tryd.zeroValue4
  t5 := Tryd.underlying5
  a5 := Tryd.isAgg5
  z5 := Tryd.sizeOf5
  v5 := Tryd.zeroValue5
  t9 := Tryd.underlying9
  a9 := Tryd.isAgg9
  z9 := Tryd.sizeOf9
  v9 := Tryd.zeroValue9
  t46 := Tryd.underlying125
  a46 := Tryd.isAgg125
  z46 := Tryd.sizeOf125
  v46 := Tryd.zeroValue125
  t53 := Tryd.underlying133
  a53 := Tryd.isAgg133
  z53 := Tryd.sizeOf133
  v53 := Tryd.zeroValue133 }
/-- bits.Len64: "Len64 returns the minimum number of bits required to represent x; the result is 0 for x == 0.": IT RETURNS 'Lib.bitLen x'; the world is as it was. ('h0', 'h1': x is a uint64.) (LAID: no walk: one application.) -/
theorem Tryd.bits_Len64 (x : Int) (w : World) (h0 : 0 ≤ x) (h1 : x ≤ 18446744073709551615) :
    Calls Tryd.prog 110 #[.int .u64 x] w fun e w' => e = .returned (.int .i64 (Lib.bitLen x.toNat)) ∧ w' = w := Any.bits_Len64 Tryd.lays129 x w h0 h1
def Tryd.lays217_ren : Go.Shelf.Ren := ⟨fun | 217 => 134 | 266 => 138 | n => n, fun | 9 => 9 | 5 => 5 | 3 => 3 | n => n, fun | n => n⟩
theorem Tryd.lays217 : Go.Proofs.Lays.n217 Tryd.prog Tryd.lays217_ren := {
  mixed := by kernel_rfl
  f217 := Tryd.func134.trans (congrArg some (by kernel_rfl))
  f266 := Tryd.func138.trans (congrArg some (by kernel_rfl))
  t3 := Tryd.underlying3
  a3 := Tryd.isAgg3
  z3 := Tryd.sizeOf3
  v3 := Tryd.zeroValue3
  t5 := Tryd.underlying5
  a5 := Tryd.isAgg5
  z5 := Tryd.sizeOf5
  v5 := Tryd.zeroValue5
  t9 := Tryd.underlying9
  a9 := Tryd.isAgg9
  z9 := Tryd.sizeOf9
  v9 := Tryd.zeroValue9 }
open Go.RowKit Go.Lib in
/-- internal/stringslite.IndexByte (what strings.IndexByte calls): IT RETURNS 'Lib.indexByte s c'; the world is as it was. (LAID: no walk: one application.) -/
theorem Tryd.stringslite_IndexByte (s : ByteArray) (c : Int) (w : World) :
    Calls Tryd.prog 134 #[.string s, .int .u8 c] w fun e w' => e = .returned (.int .i64 (Lib.indexByte s.data.toList c.toNat.toUInt8)) ∧ w' = w := Any.stringslite_IndexByte Tryd.lays217 s c w
def Tryd.lays224_ren : Go.Shelf.Ren := ⟨fun | 224 => 136 | n => n, fun | 3 => 3 | n => n, fun | n => n⟩
theorem Tryd.lays224 : Go.Proofs.Lays.n224 Tryd.prog Tryd.lays224_ren := {
  mixed := by kernel_rfl
  f224 := Tryd.func136.trans (congrArg some (by kernel_rfl))
  t3 := Tryd.underlying3
  a3 := Tryd.isAgg3
  z3 := Tryd.sizeOf3
  v3 := Tryd.zeroValue3 }
open Go.RowKit Go.Lib in
/-- internal/bytealg.Cutover: "Cutover reports the number of failures of IndexByte we should tolerate before switching over to Index. n is the number of bytes processed so far.": on amd64: (n + 16) / 8. (LAID: no walk: one application.) -/
theorem Tryd.bytealg_Cutover (n : Int) (h0 : 0 ≤ n) (h1 : n < 4611686018427387904) (w : World) :
    Calls Tryd.prog 136 #[.int .i64 n] w fun e w' => e = .returned (.int .i64 ((n + 16) / 8)) ∧ w' = w := Any.bytealg_Cutover Tryd.lays224 n h0 h1 w
def Tryd.lays314_ren : Go.Shelf.Ren := ⟨fun | 314 => 139 | n => n, fun | 9 => 9 | 51 => 163 | 3 => 3 | 4 => 4 | 5 => 5 | 46 => 125 | n => n, fun | n => n⟩
theorem Tryd.lays314 : Go.Proofs.Lays.n314 Tryd.prog Tryd.lays314_ren := {
  mixed := by kernel_rfl
  f314 := Tryd.func139.trans (congrArg some (by kernel_rfl))
  t3 := Tryd.underlying3
  a3 := Tryd.isAgg3
  z3 := Tryd.sizeOf3
  v3 := Tryd.zeroValue3
  t4 := Tryd.underlying4
  a4 := Tryd.isAgg4
  z4 := Tryd.sizeOf4
  v4 := Tryd.zeroValue4
  t5 := Tryd.underlying5
  a5 := Tryd.isAgg5
  z5 := Tryd.sizeOf5
  v5 := Tryd.zeroValue5
  t9 := Tryd.underlying9
  a9 := Tryd.isAgg9
  z9 := Tryd.sizeOf9
  v9 := Tryd.zeroValue9
  t46 := Tryd.underlying125
  a46 := Tryd.isAgg125
  z46 := Tryd.sizeOf125
  v46 := Tryd.zeroValue125
  t51 := Tryd.underlying163
  a51 := Tryd.isAgg163
  z51 := Tryd.sizeOf163
  v51 := Tryd.zeroValue163 }
open Go.RowKit Go.Lib in
/-- hashStr: "returns the hash and the appropriate multiplicative factor for use in Rabin-Karp algorithm": THE HASH OF ALL OF sep, AND 16777619 ^ len(sep), both in uint32. (LAID: no walk: one application.) -/
theorem Tryd.bytealg_hashStr (sep : ByteArray) (hs : sep.size < 4294967281) (w : World) :
    Calls Tryd.prog 139 #[.string sep] w fun e w' => e = .returned (.tuple #[.int .u32 (RK.H sep.data.toList % 4294967296), .int .u32 (16777619 ^ sep.size % 4294967296)]) ∧ w' = w := Any.bytealg_hashStr Tryd.lays314 sep hs w
def Tryd.lays267_ren : Go.Shelf.Ren := ⟨fun | 267 => 137 | 314 => 139 | n => n, fun | 9 => 9 | 3 => 3 | 146 => 188 | 51 => 163 | 4 => 4 | 5 => 5 | 46 => 125 | n => n, fun | n => n⟩
theorem Tryd.lays267 : Go.Proofs.Lays.n267 Tryd.prog Tryd.lays267_ren := {
  mixed := by kernel_rfl
  f267 := Tryd.func137.trans (congrArg some (by kernel_rfl))
  f314 := Tryd.func139.trans (congrArg some (by kernel_rfl))
  t3 := Tryd.underlying3
  a3 := Tryd.isAgg3
  z3 := Tryd.sizeOf3
  v3 := Tryd.zeroValue3
  t4 := Tryd.underlying4
  a4 := Tryd.isAgg4
  z4 := Tryd.sizeOf4
  v4 := Tryd.zeroValue4
  t5 := Tryd.underlying5
  a5 := Tryd.isAgg5
  z5 := Tryd.sizeOf5
  v5 := Tryd.zeroValue5
  t9 := Tryd.underlying9
  a9 := Tryd.isAgg9
  z9 := Tryd.sizeOf9
  v9 := Tryd.zeroValue9
  t46 := Tryd.underlying125
  a46 := Tryd.isAgg125
  z46 := Tryd.sizeOf125
  v46 := Tryd.zeroValue125
  t51 := Tryd.underlying163
  a51 := Tryd.isAgg163
  z51 := Tryd.sizeOf163
  v51 := Tryd.zeroValue163
  t146 := Tryd.underlying188
  a146 := Tryd.isAgg188
  z146 := Tryd.sizeOf188
  v146 := Tryd.zeroValue188 }
open Go.RowKit Go.Lib in
theorem Tryd.bytealg_IndexRabinKarp (s sep : ByteArray) (h1 : 1 ≤ sep.size) (h2 : sep.size ≤ s.size) (hs : s.size < 4294967281) (w : World) :
    Calls Tryd.prog 137 #[.string s, .string sep] w fun e w' => e = .returned (.int .i64 (Lib.index s.data.toList sep.data.toList)) ∧ w' = w := Any.bytealg_IndexRabinKarp Tryd.lays267 s sep h1 h2 hs w
def Tryd.lays219_ren : Go.Shelf.Ren := ⟨fun | 219 => 133 | 217 => 134 | 225 => 135 | 224 => 136 | 267 => 137 | 266 => 138 | 314 => 139 | n => n, fun | 9 => 9 | 3 => 3 | 4 => 4 | 5 => 5 | 46 => 125 | 146 => 188 | 51 => 163 | n => n, fun | 1 => 1 | n => n⟩
theorem Tryd.lays219 : Go.Proofs.Lays.n219 Tryd.prog Tryd.lays219_ren := {
  mixed := by kernel_rfl
  f217 := Tryd.func134.trans (congrArg some (by kernel_rfl))
  f219 := Tryd.func133.trans (congrArg some (by kernel_rfl))
  f224 := Tryd.func136.trans (congrArg some (by kernel_rfl))
  f225 := Tryd.func135.trans (congrArg some (by kernel_rfl))
  f266 := Tryd.func138.trans (congrArg some (by kernel_rfl))
  f267 := Tryd.func137.trans (congrArg some (by kernel_rfl))
  f314 := Tryd.func139.trans (congrArg some (by kernel_rfl))
  t3 := Tryd.underlying3
  a3 := Tryd.isAgg3
  z3 := Tryd.sizeOf3
  v3 := Tryd.zeroValue3
  t4 := Tryd.underlying4
  a4 := Tryd.isAgg4
  z4 := Tryd.sizeOf4
  v4 := Tryd.zeroValue4
  t5 := Tryd.underlying5
  a5 := Tryd.isAgg5
  z5 := Tryd.sizeOf5
  v5 := Tryd.zeroValue5
  t9 := Tryd.underlying9
  a9 := Tryd.isAgg9
  z9 := Tryd.sizeOf9
  v9 := Tryd.zeroValue9
  t46 := Tryd.underlying125
  a46 := Tryd.isAgg125
  z46 := Tryd.sizeOf125
  v46 := Tryd.zeroValue125
  t51 := Tryd.underlying163
  a51 := Tryd.isAgg163
  z51 := Tryd.sizeOf163
  v51 := Tryd.zeroValue163
  t146 := Tryd.underlying188
  a146 := Tryd.isAgg188
  z146 := Tryd.sizeOf188
  v146 := Tryd.zeroValue188
  g1 := by kernel_rfl }
open Go.RowKit Go.Lib in
/-- internal/stringslite.Index (what strings.Index calls) AT A substr OF ONE BYTE c: IT RETURNS 'Lib.indexByte s c'; the world is as it was. (LAID: no walk: one application.) -/
theorem Tryd.stringslite_Index_one (s : ByteArray) (c : UInt8) (w : World) :
    Calls Tryd.prog 133 #[.string s, .string ⟨#[c]⟩] w fun e w' => e = .returned (.int .i64 (Lib.indexByte s.data.toList c)) ∧ w' = w := Any.stringslite_Index_one Tryd.lays219 s c w
open Go.RowKit Go.Lib in
/-- internal/stringslite.Index (what strings.Index calls) AT A substr OF WHATEVER LENGTH: IT RETURNS 'Lib.index s substr'; the world is as it was. 'm': what internal/bytealg.MaxLen holds: whatever. (LAID: no walk: one application.) -/
theorem Tryd.stringslite_Index (s sub : ByteArray) (m : Int) (w : World) (hs : s.size < 4294967281) (hm : w.cell? ⟨1, 0, none⟩ = some (.int .i64 m)) :
    Calls Tryd.prog 133 #[.string s, .string sub] w fun e w' => e = .returned (.int .i64 (Lib.index s.data.toList sub.data.toList)) ∧ w' = w := Any.stringslite_Index Tryd.lays219 s sub m w hs hm
def Tryd.lays143_ren : Go.Shelf.Ren := ⟨fun | 143 => 130 | 219 => 133 | 217 => 134 | 225 => 135 | 224 => 136 | 267 => 137 | 266 => 138 | 314 => 139 | n => n, fun | 9 => 9 | 3 => 3 | 4 => 4 | 5 => 5 | 46 => 125 | 146 => 188 | 51 => 163 | n => n, fun | 1 => 1 | n => n⟩
theorem Tryd.lays143 : Go.Proofs.Lays.n143 Tryd.prog Tryd.lays143_ren := {
  mixed := by kernel_rfl
  f143 := Tryd.func130.trans (congrArg some (by kernel_rfl))
  f217 := Tryd.func134.trans (congrArg some (by kernel_rfl))
  f219 := Tryd.func133.trans (congrArg some (by kernel_rfl))
  f224 := Tryd.func136.trans (congrArg some (by kernel_rfl))
  f225 := Tryd.func135.trans (congrArg some (by kernel_rfl))
  f266 := Tryd.func138.trans (congrArg some (by kernel_rfl))
  f267 := Tryd.func137.trans (congrArg some (by kernel_rfl))
  f314 := Tryd.func139.trans (congrArg some (by kernel_rfl))
  t3 := Tryd.underlying3
  a3 := Tryd.isAgg3
  z3 := Tryd.sizeOf3
  v3 := Tryd.zeroValue3
  t4 := Tryd.underlying4
  a4 := Tryd.isAgg4
  z4 := Tryd.sizeOf4
  v4 := Tryd.zeroValue4
  t5 := Tryd.underlying5
  a5 := Tryd.isAgg5
  z5 := Tryd.sizeOf5
  v5 := Tryd.zeroValue5
  t9 := Tryd.underlying9
  a9 := Tryd.isAgg9
  z9 := Tryd.sizeOf9
  v9 := Tryd.zeroValue9
  t46 := Tryd.underlying125
  a46 := Tryd.isAgg125
  z46 := Tryd.sizeOf125
  v46 := Tryd.zeroValue125
  t51 := Tryd.underlying163
  a51 := Tryd.isAgg163
  z51 := Tryd.sizeOf163
  v51 := Tryd.zeroValue163
  t146 := Tryd.underlying188
  a146 := Tryd.isAgg188
  z146 := Tryd.sizeOf188
  v146 := Tryd.zeroValue188
  g1 := by kernel_rfl }
open Go.RowKit Go.Lib in
/-- strings.Index: "Index returns the index of the first instance of substr in s, or -1 if substr is not present in s.": AT A substr OF ONE BYTE c: IT RETURNS 'Lib.indexByte s c'; the world is as it was. (LAID: no walk: one application.) -/
theorem Tryd.strings_Index_one (s : ByteArray) (c : UInt8) (w : World) :
    Calls Tryd.prog 130 #[.string s, .string ⟨#[c]⟩] w fun e w' => e = .returned (.int .i64 (Lib.indexByte s.data.toList c)) ∧ w' = w := Any.strings_Index_one Tryd.lays143 s c w
open Go.RowKit Go.Lib in
/-- strings.Index: "Index returns the index of the first instance of substr in s, or -1 if substr is not present in s.": IT RETURNS 'Lib.index s substr'; the world is as it was. (LAID: no walk: one application.) -/
theorem Tryd.strings_Index (s sub : ByteArray) (m : Int) (w : World) (hs : s.size < 4294967281) (hm : w.cell? ⟨1, 0, none⟩ = some (.int .i64 m)) :
    Calls Tryd.prog 130 #[.string s, .string sub] w fun e w' => e = .returned (.int .i64 (Lib.index s.data.toList sub.data.toList)) ∧ w' = w := Any.strings_Index Tryd.lays143 s sub m w hs hm
def Tryd.lays144_ren : Go.Shelf.Ren := ⟨fun | 144 => 111 | 143 => 130 | 219 => 133 | 217 => 134 | 225 => 135 | 224 => 136 | 267 => 137 | 266 => 138 | 314 => 139 | n => n, fun | 9 => 9 | 4 => 4 | 3 => 3 | 5 => 5 | 46 => 125 | 146 => 188 | 51 => 163 | n => n, fun | 1 => 1 | n => n⟩
theorem Tryd.lays144 : Go.Proofs.Lays.n144 Tryd.prog Tryd.lays144_ren := {
  mixed := by kernel_rfl
  f143 := Tryd.func130.trans (congrArg some (by kernel_rfl))
  f144 := Tryd.func111.trans (congrArg some (by kernel_rfl))
  f217 := Tryd.func134.trans (congrArg some (by kernel_rfl))
  f219 := Tryd.func133.trans (congrArg some (by kernel_rfl))
  f224 := Tryd.func136.trans (congrArg some (by kernel_rfl))
  f225 := Tryd.func135.trans (congrArg some (by kernel_rfl))
  f266 := Tryd.func138.trans (congrArg some (by kernel_rfl))
  f267 := Tryd.func137.trans (congrArg some (by kernel_rfl))
  f314 := Tryd.func139.trans (congrArg some (by kernel_rfl))
  t3 := Tryd.underlying3
  a3 := Tryd.isAgg3
  z3 := Tryd.sizeOf3
  v3 := Tryd.zeroValue3
  t4 := Tryd.underlying4
  a4 := Tryd.isAgg4
  z4 := Tryd.sizeOf4
  v4 := Tryd.zeroValue4
  t5 := Tryd.underlying5
  a5 := Tryd.isAgg5
  z5 := Tryd.sizeOf5
  v5 := Tryd.zeroValue5
  t9 := Tryd.underlying9
  a9 := Tryd.isAgg9
  z9 := Tryd.sizeOf9
  v9 := Tryd.zeroValue9
  t46 := Tryd.underlying125
  a46 := Tryd.isAgg125
  z46 := Tryd.sizeOf125
  v46 := Tryd.zeroValue125
  t51 := Tryd.underlying163
  a51 := Tryd.isAgg163
  z51 := Tryd.sizeOf163
  v51 := Tryd.zeroValue163
  t146 := Tryd.underlying188
  a146 := Tryd.isAgg188
  z146 := Tryd.sizeOf188
  v146 := Tryd.zeroValue188
  g1 := by kernel_rfl }
open Go.RowKit Go.Lib in
/-- strings.Contains: "Contains reports whether substr is within s.": AT A substr OF ONE BYTE c: IT RETURNS 'decide (0 ≤ Lib.indexByte s c)'; the world is as it was. (LAID: no walk: one application.) -/
theorem Tryd.strings_Contains_one (s : ByteArray) (c : UInt8) (w : World) :
    Calls Tryd.prog 111 #[.string s, .string ⟨#[c]⟩] w fun e w' => e = .returned (.bool (decide (0 ≤ Lib.indexByte s.data.toList c))) ∧ w' = w := Any.strings_Contains_one Tryd.lays144 s c w
open Go.RowKit Go.Lib in
/-- strings.Contains: "Contains reports whether substr is within s.": IT RETURNS 'Lib.contains s substr'; the world is as it was. (LAID: no walk: one application.) -/
theorem Tryd.strings_Contains (s sub : ByteArray) (m : Int) (w : World) (hs : s.size < 4294967281) (hm : w.cell? ⟨1, 0, none⟩ = some (.int .i64 m)) :
    Calls Tryd.prog 111 #[.string s, .string sub] w fun e w' => e = .returned (.bool (Lib.contains s.data.toList sub.data.toList)) ∧ w' = w := Any.strings_Contains Tryd.lays144 s sub m w hs hm
def Tryd.laysM219_ren : Go.Shelf.Ren := ⟨fun | 219 => 133 | 217 => 134 | 225 => 135 | 224 => 136 | 267 => 137 | 266 => 138 | 314 => 139 | n => n, fun | 9 => 9 | 3 => 3 | 4 => 4 | 5 => 5 | 46 => 125 | 146 => 188 | 51 => 163 | n => n, fun | 1 => 1 | n => n⟩
theorem Tryd.laysM219 : Go.Proofs.LaysM.n219 Tryd.prog Tryd.laysM219_ren := {
  mixed := by kernel_rfl
  f217 := Tryd.func134.trans (congrArg some (by kernel_rfl))
  f219 := Tryd.func133.trans (congrArg some (by kernel_rfl))
  f224 := Tryd.func136.trans (congrArg some (by kernel_rfl))
  f225 := Tryd.func135.trans (congrArg some (by kernel_rfl))
  f266 := Tryd.func138.trans (congrArg some (by kernel_rfl))
  f267 := Tryd.func137.trans (congrArg some (by kernel_rfl))
  f314 := Tryd.func139.trans (congrArg some (by kernel_rfl))
  t3 := Tryd.underlying3
  a3 := Tryd.isAgg3
  z3 := Tryd.sizeOf3
  v3 := Tryd.zeroValue3
  t4 := Tryd.underlying4
  a4 := Tryd.isAgg4
  z4 := Tryd.sizeOf4
  v4 := Tryd.zeroValue4
  t5 := Tryd.underlying5
  a5 := Tryd.isAgg5
  z5 := Tryd.sizeOf5
  v5 := Tryd.zeroValue5
  t9 := Tryd.underlying9
  a9 := Tryd.isAgg9
  z9 := Tryd.sizeOf9
  v9 := Tryd.zeroValue9
  t46 := Tryd.underlying125
  a46 := Tryd.isAgg125
  z46 := Tryd.sizeOf125
  v46 := Tryd.zeroValue125
  t51 := Tryd.underlying163
  a51 := Tryd.isAgg163
  z51 := Tryd.sizeOf163
  v51 := Tryd.zeroValue163
  t146 := Tryd.underlying188
  a146 := Tryd.isAgg188
  z146 := Tryd.sizeOf188
  v146 := Tryd.zeroValue188
  g1 := by kernel_rfl
  i3 := by kernel_rfl
  i4 := by kernel_rfl
  i5 := by kernel_rfl
  i9 := by kernel_rfl
  i46 := by kernel_rfl
  i51 := by kernel_rfl
  i146 := by kernel_rfl
  m1 := by kernel_rfl
  s1_3 := fun w h => Go.Proofs.cell_of_shapedOpen_int (zero := #[.int .i64 0]) (t := 3) h (of_decide_eq_true (by kernel_rfl)) (by kernel_rfl) rfl (by kernel_rfl) (by kernel_rfl) Tryd.underlying3 }
open Go.RowKit Go.Lib in
theorem Tryd.stringslite_Index_shaped (s sub : ByteArray) (w : World) (h : w.ShapedOpen Tryd.prog) (hs : s.size < 4294967281) :
    Calls Tryd.prog 133 #[.string s, .string sub] w fun e w' => e = .returned (.int .i64 (Lib.index s.data.toList sub.data.toList)) ∧ w' = w := Any.stringslite_Index_shaped Tryd.laysM219 s sub w h hs
def Tryd.laysM143_ren : Go.Shelf.Ren := ⟨fun | 143 => 130 | 219 => 133 | 217 => 134 | 225 => 135 | 224 => 136 | 267 => 137 | 266 => 138 | 314 => 139 | n => n, fun | 9 => 9 | 3 => 3 | 4 => 4 | 5 => 5 | 46 => 125 | 146 => 188 | 51 => 163 | n => n, fun | 1 => 1 | n => n⟩
theorem Tryd.laysM143 : Go.Proofs.LaysM.n143 Tryd.prog Tryd.laysM143_ren := {
  mixed := by kernel_rfl
  f143 := Tryd.func130.trans (congrArg some (by kernel_rfl))
  f217 := Tryd.func134.trans (congrArg some (by kernel_rfl))
  f219 := Tryd.func133.trans (congrArg some (by kernel_rfl))
  f224 := Tryd.func136.trans (congrArg some (by kernel_rfl))
  f225 := Tryd.func135.trans (congrArg some (by kernel_rfl))
  f266 := Tryd.func138.trans (congrArg some (by kernel_rfl))
  f267 := Tryd.func137.trans (congrArg some (by kernel_rfl))
  f314 := Tryd.func139.trans (congrArg some (by kernel_rfl))
  t3 := Tryd.underlying3
  a3 := Tryd.isAgg3
  z3 := Tryd.sizeOf3
  v3 := Tryd.zeroValue3
  t4 := Tryd.underlying4
  a4 := Tryd.isAgg4
  z4 := Tryd.sizeOf4
  v4 := Tryd.zeroValue4
  t5 := Tryd.underlying5
  a5 := Tryd.isAgg5
  z5 := Tryd.sizeOf5
  v5 := Tryd.zeroValue5
  t9 := Tryd.underlying9
  a9 := Tryd.isAgg9
  z9 := Tryd.sizeOf9
  v9 := Tryd.zeroValue9
  t46 := Tryd.underlying125
  a46 := Tryd.isAgg125
  z46 := Tryd.sizeOf125
  v46 := Tryd.zeroValue125
  t51 := Tryd.underlying163
  a51 := Tryd.isAgg163
  z51 := Tryd.sizeOf163
  v51 := Tryd.zeroValue163
  t146 := Tryd.underlying188
  a146 := Tryd.isAgg188
  z146 := Tryd.sizeOf188
  v146 := Tryd.zeroValue188
  g1 := by kernel_rfl
  i3 := by kernel_rfl
  i4 := by kernel_rfl
  i5 := by kernel_rfl
  i9 := by kernel_rfl
  i46 := by kernel_rfl
  i51 := by kernel_rfl
  i146 := by kernel_rfl
  m1 := by kernel_rfl
  s1_3 := fun w h => Go.Proofs.cell_of_shapedOpen_int (zero := #[.int .i64 0]) (t := 3) h (of_decide_eq_true (by kernel_rfl)) (by kernel_rfl) rfl (by kernel_rfl) (by kernel_rfl) Tryd.underlying3 }
open Go.RowKit Go.Lib in
theorem Tryd.strings_Index_shaped (s sub : ByteArray) (w : World) (h : w.ShapedOpen Tryd.prog) (hs : s.size < 4294967281) :
    Calls Tryd.prog 130 #[.string s, .string sub] w fun e w' => e = .returned (.int .i64 (Lib.index s.data.toList sub.data.toList)) ∧ w' = w := Any.strings_Index_shaped Tryd.laysM143 s sub w h hs
def Tryd.laysM144_ren : Go.Shelf.Ren := ⟨fun | 144 => 111 | 143 => 130 | 219 => 133 | 217 => 134 | 225 => 135 | 224 => 136 | 267 => 137 | 266 => 138 | 314 => 139 | n => n, fun | 9 => 9 | 4 => 4 | 3 => 3 | 5 => 5 | 46 => 125 | 146 => 188 | 51 => 163 | n => n, fun | 1 => 1 | n => n⟩
theorem Tryd.laysM144 : Go.Proofs.LaysM.n144 Tryd.prog Tryd.laysM144_ren := {
  mixed := by kernel_rfl
  f143 := Tryd.func130.trans (congrArg some (by kernel_rfl))
  f144 := Tryd.func111.trans (congrArg some (by kernel_rfl))
  f217 := Tryd.func134.trans (congrArg some (by kernel_rfl))
  f219 := Tryd.func133.trans (congrArg some (by kernel_rfl))
  f224 := Tryd.func136.trans (congrArg some (by kernel_rfl))
  f225 := Tryd.func135.trans (congrArg some (by kernel_rfl))
  f266 := Tryd.func138.trans (congrArg some (by kernel_rfl))
  f267 := Tryd.func137.trans (congrArg some (by kernel_rfl))
  f314 := Tryd.func139.trans (congrArg some (by kernel_rfl))
  t3 := Tryd.underlying3
  a3 := Tryd.isAgg3
  z3 := Tryd.sizeOf3
  v3 := Tryd.zeroValue3
  t4 := Tryd.underlying4
  a4 := Tryd.isAgg4
  z4 := Tryd.sizeOf4
  v4 := Tryd.zeroValue4
  t5 := Tryd.underlying5
  a5 := Tryd.isAgg5
  z5 := Tryd.sizeOf5
  v5 := Tryd.zeroValue5
  t9 := Tryd.underlying9
  a9 := Tryd.isAgg9
  z9 := Tryd.sizeOf9
  v9 := Tryd.zeroValue9
  t46 := Tryd.underlying125
  a46 := Tryd.isAgg125
  z46 := Tryd.sizeOf125
  v46 := Tryd.zeroValue125
  t51 := Tryd.underlying163
  a51 := Tryd.isAgg163
  z51 := Tryd.sizeOf163
  v51 := Tryd.zeroValue163
  t146 := Tryd.underlying188
  a146 := Tryd.isAgg188
  z146 := Tryd.sizeOf188
  v146 := Tryd.zeroValue188
  g1 := by kernel_rfl
  i3 := by kernel_rfl
  i4 := by kernel_rfl
  i5 := by kernel_rfl
  i9 := by kernel_rfl
  i46 := by kernel_rfl
  i51 := by kernel_rfl
  i146 := by kernel_rfl
  m1 := by kernel_rfl
  s1_3 := fun w h => Go.Proofs.cell_of_shapedOpen_int (zero := #[.int .i64 0]) (t := 3) h (of_decide_eq_true (by kernel_rfl)) (by kernel_rfl) rfl (by kernel_rfl) (by kernel_rfl) Tryd.underlying3 }
open Go.RowKit Go.Lib in
theorem Tryd.strings_Contains_shaped (s sub : ByteArray) (w : World) (h : w.ShapedOpen Tryd.prog) (hs : s.size < 4294967281) :
    Calls Tryd.prog 111 #[.string s, .string sub] w fun e w' => e = .returned (.bool (Lib.contains s.data.toList sub.data.toList)) ∧ w' = w := Any.strings_Contains_shaped Tryd.laysM144 s sub w h hs
def Tryd.lays189_ren : Go.Shelf.Ren := ⟨fun | 189 => 35 | 125 => 78 | 257 => 77 | 128 => 109 | 129 => 110 | 294 => 100 | 295 => 101 | 296 => 102 | 297 => 103 | 298 => 104 | 299 => 105 | 216 => 106 | 300 => 107 | 301 => 108 | 328 => 124 | 329 => 125 | 330 => 126 | 331 => 127 | 332 => 128 | 215 => 129 | 343 => 132 | n => n, fun | 28 => 22 | 3 => 3 | 46 => 125 | 0 => 0 | 51 => 163 | 53 => 133 | 4 => 4 | 183 => 155 | 182 => 154 | 131 => 160 | 5 => 5 | 9 => 9 | 218 => 174 | 222 => 177 | 228 => 184 | 229 => 185 | n => n, fun | n => n⟩
theorem Tryd.lays189 : Go.Proofs.Lays.n189 Tryd.prog Tryd.lays189_ren := {
  mixed := by kernel_rfl
  f125 := Tryd.func78.trans (congrArg some (by kernel_rfl))
  f128 := Tryd.func109.trans (congrArg some (by kernel_rfl))
  f129 := Tryd.func110.trans (congrArg some (by kernel_rfl))
  f189 := Tryd.func35.trans (congrArg some (by kernel_rfl))
  f215 := Tryd.func129.trans (congrArg some (by kernel_rfl))
  f216 := Tryd.func106.trans (congrArg some (by kernel_rfl))
  f257 := Tryd.func77.trans (congrArg some (by kernel_rfl))
  f294 := Tryd.func100.trans (congrArg some (by kernel_rfl))
  f295 := Tryd.func101.trans (congrArg some (by kernel_rfl))
  f296 := Tryd.func102.trans (congrArg some (by kernel_rfl))
  f297 := Tryd.func103.trans (congrArg some (by kernel_rfl))
  f298 := Tryd.func104.trans (congrArg some (by kernel_rfl))
  f299 := Tryd.func105.trans (congrArg some (by kernel_rfl))
  f300 := Tryd.func107.trans (congrArg some (by kernel_rfl))
  f301 := Tryd.func108.trans (congrArg some (by kernel_rfl))
  f328 := Tryd.func124.trans (congrArg some (by kernel_rfl))
  f329 := Tryd.func125.trans (congrArg some (by kernel_rfl))
  f330 := Tryd.func126.trans (congrArg some (by kernel_rfl))
  f331 := Tryd.func127.trans (congrArg some (by kernel_rfl))
  f332 := Tryd.func128.trans (congrArg some (by kernel_rfl))
  f343 := Tryd.func132.trans (congrArg some (by kernel_rfl))
  t0 := Tryd.underlying0
  a0 := Tryd.isAgg0
  z0 := Tryd.sizeOf0
  v0 := Tryd.zeroValue0
  t3 := Tryd.underlying3
  a3 := Tryd.isAgg3
  z3 := Tryd.sizeOf3
  v3 := Tryd.zeroValue3
  t4 := Tryd.underlying4
  a4 := Tryd.isAgg4
  z4 := Tryd.sizeOf4
  v4 := Tryd.zeroValue4
  t5 := Tryd.underlying5
  a5 := Tryd.isAgg5
  z5 := Tryd.sizeOf5
  v5 := Tryd.zeroValue5
  t9 := Tryd.underlying9
  a9 := Tryd.isAgg9
  z9 := Tryd.sizeOf9
  v9 := Tryd.zeroValue9
  t28 := Tryd.underlying22
  a28 := Tryd.isAgg22
  z28 := Tryd.sizeOf22
  v28 := Tryd.zeroValue22
  t46 := Tryd.underlying125
  a46 := Tryd.isAgg125
  z46 := Tryd.sizeOf125
  v46 := Tryd.zeroValue125
  t51 := Tryd.underlying163
  a51 := Tryd.isAgg163
  z51 := Tryd.sizeOf163
  v51 := Tryd.zeroValue163
  t53 := Tryd.underlying133
  a53 := Tryd.isAgg133
  z53 := Tryd.sizeOf133
  v53 := Tryd.zeroValue133
  t131 := Tryd.underlying160
  a131 := Tryd.isAgg160
  z131 := Tryd.sizeOf160
  v131 := Tryd.zeroValue160
  t182 := Tryd.underlying154
  a182 := Tryd.isAgg154
  z182 := Tryd.sizeOf154
  v182 := Tryd.zeroValue154
  t183 := Tryd.underlying155
  a183 := Tryd.isAgg155
  z183 := Tryd.sizeOf155
  v183 := Tryd.zeroValue155
  t218 := Tryd.underlying174
  a218 := Tryd.isAgg174
  z218 := Tryd.sizeOf174
  v218 := Tryd.zeroValue174
  t222 := Tryd.underlying177
  a222 := Tryd.isAgg177
  z222 := Tryd.sizeOf177
  v222 := Tryd.zeroValue177
  t228 := Tryd.underlying184
  a228 := Tryd.isAgg184
  z228 := Tryd.sizeOf184
  v228 := Tryd.zeroValue184
  t229 := Tryd.underlying185
  a229 := Tryd.isAgg185
  z229 := Tryd.sizeOf185
  v229 := Tryd.zeroValue185 }
open Go.Sort Go.RowKit in
theorem Tryd.slices_Sort_int (blk off cap : Nat) (zs : List Int) (w : World) (hH : Holds (Value.int .i64) w blk off zs.toArray) (hblk : blk < w.heap.size) (hsz : zs.length < 4611686018427387904) :
    Calls Tryd.prog 35 #[.slice (some ⟨blk, off, none⟩) zs.length cap] w fun e w' =>
      e = .returned (.tuple #[]) ∧ ∃ n os, w' = grow (putRow (Value.int .i64) (Sort.ahead w n) blk off (zs.mergeSort fun x y => decide (x ≤ y)).toArray) os := Any.slices_Sort_int Tryd.lays189 blk off cap zs w hH hblk hsz
def Tryd.laysNm220_ren : Go.Shelf.Ren := ⟨fun | 20 => 36 | n => n, fun | 22 => 22 | 3 => 3 | 4 => 4 | 0 => 0 | n => n, fun | n => n⟩
theorem Tryd.laysNm220 : Go.Proofs.Lays2.n20 Tryd.prog Tryd.laysNm220_ren := {
  mixed := by kernel_rfl
  f20 := Tryd.func36.trans (congrArg some (by kernel_rfl))
  t0 := Tryd.underlying0
  a0 := Tryd.isAgg0
  z0 := Tryd.sizeOf0
  v0 := Tryd.zeroValue0
  t3 := Tryd.underlying3
  a3 := Tryd.isAgg3
  z3 := Tryd.sizeOf3
  v3 := Tryd.zeroValue3
  t4 := Tryd.underlying4
  a4 := Tryd.isAgg4
  z4 := Tryd.sizeOf4
  v4 := Tryd.zeroValue4
  t22 := Tryd.underlying22
  a22 := Tryd.isAgg22
  z22 := Tryd.sizeOf22
  v22 := Tryd.zeroValue22
  i3 := by kernel_rfl }
open Go.RowKit Go.Lib Go.Sort in
/-- slices.Compact at []int, over an array: the library's two loops are walked. (LAID: no walk: one application.) -/
theorem Tryd.slices_Compact_int_arr (blk off cap : Nat) (d : Array Int) (w : World) (hH : Holds encI w blk off d) (hsz : d.size ≤ 9223372036854775807) (hcap : d.size ≤ cap) :
    Calls Tryd.prog 36 #[.slice (some ⟨blk, off, none⟩) d.size cap] w fun e w' => e = .returned (.slice (some ⟨blk, off, none⟩) (compactUpTo d d.size).length cap) ∧ ∃ q, w' = putRow encI (Sort.ahead w q) blk off (compactUpTo d d.size ++ List.replicate (d.size - (compactUpTo d d.size).length) 0).toArray := Any.slices_Compact_int_arr Tryd.laysNm220 blk off cap d w hH hsz hcap
open Go.RowKit Go.Lib Go.Sort in
/-- slices.Compact at []int: "Compact replaces consecutive runs of equal elements with a single copy. This is like the uniq command found on Unix. Compact modifies the contents of the slice s and returns the modified slice, which may have a smaller length. Compact zeroes the elements between the new length and the original length. The result preserves the nilness of s.": IT RETURNS THE SLICE CUT TO 'Lib.compact zs'; ITS CELLS HOLD 'Lib.compact zs', THEN ZERO VALUES up to the old length; all else is as it was, but for the count of draws. IN THE WORDS OF slices.Sort's CONTRACT ('Holds', 'putRow'): so the everyday 'slices.Sort(xs); xs = slices.Compact(xs)' goes from the one contract to the other. It asks 'zs.length ≤ cap' (every slice's: the reslicing 's[:k]' looks at it). Length 0, nil: '.._empty'. (LAID: no walk: one application.) -/
theorem Tryd.slices_Compact_int (blk off cap : Nat) (zs : List Int) (w : World) (hH : Holds (Value.int .i64) w blk off zs.toArray) (hsz : zs.length ≤ 9223372036854775807) (hcap : zs.length ≤ cap) :
    Calls Tryd.prog 36 #[.slice (some ⟨blk, off, none⟩) zs.length cap] w fun e w' => e = .returned (.slice (some ⟨blk, off, none⟩) (Lib.compact zs).length cap) ∧ ∃ q, w' = putRow (Value.int .i64) (Sort.ahead w q) blk off (Lib.compact zs ++ List.replicate (zs.length - (Lib.compact zs).length) 0).toArray := Any.slices_Compact_int Tryd.laysNm220 blk off cap zs w hH hsz hcap
open Go.RowKit Go.Lib Go.Sort in
/-- The same at a slice of length 0, a nil one too: it comes back as it is. (LAID: no walk: one application.) -/
theorem Tryd.slices_Compact_int_empty (a : Option Addr) (cap : Nat) (w : World) :
    Calls Tryd.prog 36 #[.slice a 0 cap] w fun e w' => e = .returned (.slice a 0 cap) ∧ w' = w := Any.slices_Compact_int_empty Tryd.laysNm220 a cap w
def Tryd.laysNm237_ren : Go.Shelf.Ren := ⟨fun | 37 => 129 | n => n, fun | 3 => 3 | 4 => 4 | n => n, fun | n => n⟩
theorem Tryd.laysNm237 : Go.Proofs.Lays2.n37 Tryd.prog Tryd.laysNm237_ren := {
  mixed := by kernel_rfl
  f37 := Tryd.func129.trans (congrArg some (by kernel_rfl))
  t3 := Tryd.underlying3
  a3 := Tryd.isAgg3
  z3 := Tryd.sizeOf3
  v3 := Tryd.zeroValue3
  t4 := Tryd.underlying4
  a4 := Tryd.isAgg4
  z4 := Tryd.sizeOf4
  v4 := Tryd.zeroValue4 }
open Go.RowKit Go.Lib in
/-- cmp.isNaN[int]: 'x != x': false. (LAID: no walk: one application.) -/
theorem Tryd.cmp_isNaN_int2 (x : Int) (w : World) :
    Calls Tryd.prog 129 #[.int .i64 x] w fun e w' => e = .returned (.bool false) ∧ w' = w := Any.cmp_isNaN_int2 Tryd.laysNm237 x w
def Tryd.laysNm231_ren : Go.Shelf.Ren := ⟨fun | 31 => 106 | 37 => 129 | n => n, fun | 3 => 3 | 4 => 4 | n => n, fun | n => n⟩
theorem Tryd.laysNm231 : Go.Proofs.Lays2.n31 Tryd.prog Tryd.laysNm231_ren := {
  mixed := by kernel_rfl
  f31 := Tryd.func106.trans (congrArg some (by kernel_rfl))
  f37 := Tryd.func129.trans (congrArg some (by kernel_rfl))
  t3 := Tryd.underlying3
  a3 := Tryd.isAgg3
  z3 := Tryd.sizeOf3
  v3 := Tryd.zeroValue3
  t4 := Tryd.underlying4
  a4 := Tryd.isAgg4
  z4 := Tryd.sizeOf4
  v4 := Tryd.zeroValue4 }
open Go.RowKit Go.Lib in
/-- cmp.Less[int]: "Less reports whether x is less than y.": 'x < y'; the world is as it was. (LAID: no walk: one application.) -/
theorem Tryd.cmp_Less_int2 (x y : Int) (w : World) :
    Calls Tryd.prog 106 #[.int .i64 x, .int .i64 y] w fun e w' => e = .returned (.bool (decide (x < y))) ∧ w' = w := Any.cmp_Less_int2 Tryd.laysNm231 x y w
open Go.RowKit Go.Lib Go.Sort in
/-- slices.Compact at []int, of an argument: the slice cut to 'Lib.compact (elements)'; the n cells hold that, then zeros. (LAID: no walk: one application.) -/
theorem Tryd.slices_Compact_int_cells (b off n c : Nat) (zs : List Int) (w : World) (hz : n ≤ zs.length) (hbig : n ≤ 9223372036854775807) (hcap : n ≤ c) (hc : ∀ j, j < zs.length → w.cell? ⟨b, off + j, none⟩ = some (.int .i64 (zs.getD j 0))) (hf : ∀ j, j < n → w.frozen? ⟨b, off + j, none⟩ = false) :
    Calls Tryd.prog 36 #[.slice (some ⟨b, off, none⟩) n c] w fun e w' => e = .returned (.slice (some ⟨b, off, none⟩) (Lib.compact (zs.take n)).length c) ∧ ∃ q, w' = (w.drewN q).setCells b off ((Lib.compact (zs.take n) ++ List.replicate (n - (Lib.compact (zs.take n)).length) 0).map (Value.int .i64)) := Any.slices_Compact_int_cells Tryd.laysNm220 b off n c zs w hz hbig hcap hc hf
open Go.RowKit Go.Sort in
/-- .. and plain. (LAID: no walk: one application.) -/
theorem Tryd.slices_Sort_int_none (p : Option Addr) (cap : Nat) (w : World) :
    Calls Tryd.prog 35 #[.slice p 0 cap] w fun e w' => e = .returned (.tuple #[]) ∧ w' = w := Any.slices_Sort_int_none Tryd.lays189 p cap w
def Tryd.laysSlK4_ren : Go.Shelf.Ren := ⟨fun | 4 => 81 | n => n, fun | 22 => 38 | 4 => 4 | 5 => 5 | n => n, fun | n => n⟩
theorem Tryd.laysSlK4 : Go.Proofs.SlLaysK.n4 Tryd.prog Tryd.laysSlK4_ren := {
  mixed := by kernel_rfl
  f4 := Tryd.func81.trans (congrArg some (by kernel_rfl))
  t4 := Tryd.underlying4
  a4 := Tryd.isAgg4
  z4 := Tryd.sizeOf4
  v4 := Tryd.zeroValue4
  t22 := Tryd.underlying38
  a22 := Tryd.isAgg38
  z22 := Tryd.sizeOf38
  v22 := Tryd.zeroValue38
  t5 := Tryd.underlying5
  i5 := by kernel_rfl }
open Go.RowKit Go.Lib in
/-- bytes.Clone: "Clone returns a copy of b[:len(b)]. The result may have additional unused capacity.": OF A SLICE THAT IS NOT nil IT RETURNS A SLICE THAT IS NOT nil, OF THE SAME BYTES, IN MEMORY OF THE CALL's OWN: in the how-to's words (6f): 'w'.ownsRow B e 1 v' n cells' · 'Below B w w'', B the heap's size at the call. b AT WHATEVER ADDRESS, its cells as 'open_ints' hands them ('a.add i'; the numbers 'xs'). No byte: no cell is asked for. (LAID: no walk: one application.) -/
theorem Tryd.bytes_Clone_at (a : Addr) (n c : Nat) (xs : List Int) (w : World) (hx : xs.length = n) (hbig : n ≤ 140737488355328) (hc : ∀ i, i < n → w.cell? (a.add i) = some (.int .u8 (xs.getD i 0))) :
    Calls Tryd.prog 81 #[.slice (some a) n c] w fun e w' => ∃ v', e = .returned v' ∧ w'.ownsRow w.heap.size 5 1 v' n (xs.map (Value.int .u8)) ∧ v' ≠ .slice none 0 0 ∧ Below w.heap.size w w' := Any.bytes_Clone_at Tryd.laysSlK4 a n c xs w hx hbig hc
open Go.RowKit Go.Lib in
/-- "Clone(nil) returns nil.": the world is as it was. (LAID: no walk: one application.) -/
theorem Tryd.bytes_Clone_nil (n c : Nat) (w : World) :
    Calls Tryd.prog 81 #[.slice none n c] w fun e w' => e = .returned (.slice none 0 0) ∧ w' = w := Any.bytes_Clone_nil Tryd.laysSlK4 n c w
end Go.Proofs

namespace Go.Proofs.YtgpibcgebpgmiaaDoor
open Go Go.Eng Go.RowKit
set_option linter.unusedVariables false

/-! ### names -/
def resC : Str := [32, 114, 117, 108, 101, 32, 102, 114, 111, 109, 32, 111, 110, 32, 105, 102, 32, 100, 117, 101, 32, 117, 110, 108, 101, 115, 115, 32, 101, 108, 115, 101, 32, 111, 114, 32, 97, 110, 100, 32, 110, 111, 116, 32, 116, 114, 117, 101, 32, 102, 97, 108, 115, 101, 32, 116, 104, 101, 110, 32, 101, 110, 100, 32, 100, 97, 121, 115, 32, 119, 101, 101, 107, 115, 32, 109, 111, 110, 116, 104, 115, 32, 99, 111, 117, 114, 116, 100, 97, 121, 115, 32, 110, 101, 120, 116, 32, 112, 114, 101, 118, 32, 108, 97, 116, 101, 114, 32, 101, 97, 114, 108, 105, 101, 114, 32, 98, 101, 116, 119, 101, 101, 110, 32]
def resW : List Str := [[114, 117, 108, 101], [102, 114, 111, 109], [111, 110], [105, 102], [100, 117, 101], [117, 110, 108, 101, 115, 115], [101, 108, 115, 101], [111, 114], [97, 110, 100], [110, 111, 116], [116, 114, 117, 101], [102, 97, 108, 115, 101], [116, 104, 101, 110], [101, 110, 100], [100, 97, 121, 115], [119, 101, 101, 107, 115], [109, 111, 110, 116, 104, 115], [99, 111, 117, 114, 116, 100, 97, 121, 115], [110, 101, 120, 116], [112, 114, 101, 118], [108, 97, 116, 101, 114], [101, 97, 114, 108, 105, 101, 114], [98, 101, 116, 119, 101, 101, 110]]
theorem index_iff : ∀ (s sub : List UInt8), 0 ≤ Lib.index s sub ↔ ∃ i, i ≤ s.length ∧ sub.isPrefixOf (s.drop i) = true
  | [], sub => by
    unfold Lib.index
    cases sub with
    | nil => simp
    | cons a l => simp
  | b :: l, sub => by
    have ih := index_iff l sub
    have hge := Lib.index_ge l sub
    unfold Lib.index
    by_cases hp : sub.isPrefixOf (b :: l) = true
    · rw [if_pos hp]
      exact ⟨fun _ => ⟨0, by omega, hp⟩, fun _ => by omega⟩
    · rw [if_neg hp]
      have e : (0 : Int) ≤ (if (Lib.index l sub == -1) = true then -1 else Lib.index l sub + 1) ↔ 0 ≤ Lib.index l sub := by
        by_cases h1 : Lib.index l sub = -1
        · rw [if_pos (by simpa using h1)]; omega
        · rw [if_neg (by simpa using h1)]; omega
      rw [e, ih]
      constructor
      · rintro ⟨i, hi, h⟩
        exact ⟨i + 1, by simpa using hi, h⟩
      · rintro ⟨i, hi, h⟩
        cases i with
        | zero => exact absurd h hp
        | succ i => exact ⟨i, by simpa using hi, h⟩
theorem take_word : ∀ (t r : List UInt8), (∀ c ∈ t, c ≠ 32) → (t ++ [32]).isPrefixOf r = true → r.takeWhile (fun c => decide (c ≠ 32)) = t
  | [], r, _, h => by
    cases r with
    | nil => simp at h
    | cons a l =>
      simp [List.isPrefixOf] at h
      subst h
      rfl
  | c :: t, r, hc, h => by
    cases r with
    | nil => simp at h
    | cons a l =>
      simp only [List.cons_append, List.isPrefixOf, Bool.and_eq_true, beq_iff_eq] at h
      obtain ⟨rfl, h⟩ := h
      have h1 := hc c (by simp)
      rw [List.takeWhile_cons_of_pos (by simpa using h1), take_word t l (fun x hx => hc x (by simp [hx])) h]
theorem res_words : ∀ i ∈ List.range (resC.length + 1), (resC.drop i).head? = some 32 → (resC.drop (i + 1)).takeWhile (fun c => decide (c ≠ 32)) ∈ resW ∨ (resC.drop (i + 1)).takeWhile (fun c => decide (c ≠ 32)) = [] := by decide +kernel
theorem res_has : ∀ t ∈ resW, Lib.contains resC (32 :: t ++ [32]) = true := by decide +kernel
theorem res_iff {t : Str} (h0 : t ≠ []) (hc : ∀ c ∈ t, c ≠ 32) : Lib.contains resC (32 :: t ++ [32]) = decide (t ∈ resW) := by
  by_cases ht : t ∈ resW
  · rw [res_has t ht, decide_eq_true ht]
  · rw [decide_eq_false ht]
    unfold Lib.contains
    rw [decide_eq_false_iff_not, index_iff]
    rintro ⟨i, hi, h⟩
    cases hd : resC.drop i with
    | nil => rw [hd] at h; simp at h
    | cons a l =>
      rw [hd] at h
      simp only [List.cons_append, List.isPrefixOf, Bool.and_eq_true, beq_iff_eq] at h
      obtain ⟨rfl, h⟩ := h
      have hl : resC.drop (i + 1) = l := by
        have := congrArg List.tail hd
        simpa [List.tail_drop] using this
      have hw := take_word t l hc h
      have := res_words i (List.mem_range.2 (by omega)) (by rw [hd]; rfl)
      rw [hl, hw] at this
      exact this.elim ht h0
end Go.Proofs.YtgpibcgebpgmiaaDoor

namespace Go.Proofs.YtgpibcgebpgmiaaDoor
open Go Go.Eng Go.RowKit
set_option linter.unusedVariables false

abbrev lett (c : Int) : Prop := (97 ≤ c ∧ c ≤ 122) ∨ (48 ≤ c ∧ c ≤ 57)
def nameOk (s : Str) : Bool := decide (0 < s.length ∧ s.length ≤ 12 ∧ 97 ≤ byte s 0 ∧ byte s 0 ≤ 122 ∧ ∀ i, i < s.length → lett (byte s i))
/-- a string is a name -/
def namedT (s : Str) : Bool := nameOk s && decide (s ∉ resW ∧ s ∉ fieldNames)
theorem contains_any (a b : Str) (m : Int) (w : World) (ha : a.length < 4294967281) (hm : w.cell? ⟨1, 0, none⟩ = some (.int .i64 m)) :
    Calls Tryd.prog 111 #[str a, str b] w (Ret fun r w' => r = .bool (Lib.contains a b) ∧ Stp [] w w') := by
  refine (Tryd.strings_Contains ⟨a.toArray⟩ ⟨b.toArray⟩ m w (by rw [str_size]; exact ha) hm).mono ?_
  rintro e w' ⟨rfl, rfl⟩
  exact .mk ⟨rfl, Stp.refl _ _⟩
theorem idx_memS {l : List Str} {s : Str} : 0 ≤ idx (isS s) l ↔ s ∈ l := by
  unfold idx
  cases h : l.findIdx? (isS s) with
  | none =>
    rw [List.findIdx?_eq_none_iff] at h
    simp only
    constructor
    · intro h1; omega
    · intro h1
      have := h s h1
      simp [isS] at this
  | some i =>
    obtain ⟨hi, hp, _⟩ := List.findIdx?_eq_some_iff_getElem.1 h
    simp only
    constructor
    · intro _
      have : l[i] = s := by simpa [isS] using hp
      rw [← this]; exact List.getElem_mem hi
    · intro _; omega
theorem containsS_any (X : List Nat) (v : Value) (l : List Str) (a : Str) (w : World) (hs : SlV X w v l) :
    Calls Tryd.prog 112 #[v, str a] w (Ret fun r w' => r = .bool (decide (a ∈ l)) ∧ Stp [] w w') := by
  refine calls_of_WC2 (n := 9) Tryd.func112 rfl rfl rfl ?_
  refine W ?_
  refine WL_eff (OE_call rfl (evs2 rfl rfl) (index_any X v l a _ hs)) rfl ?_
  rintro _ w1 ⟨rfl, hS⟩
  refine W ?_
  first | refine WQ_ret1 rfl rfl ?_ | refine WQ_ret2 rfl rfl rfl ?_ | refine WQ_ret3 rfl rfl rfl rfl ?_ | refine WQ_ret0 rfl ?_ | refine WQ_end0 rfl ?_
  exact .mk ⟨by congr 1; exact decide_eq_decide.2 idx_memS, hS⟩
theorem named_any (s : Str) (m : Int) (w : World) (hF : SlV [] w flds fieldNames) (hm : w.cell? ⟨1, 0, none⟩ = some (.int .i64 m)) :
    Calls Tryd.prog 79 #[str s] w (Ret fun r w' => r = .bool (namedT s) ∧ Stp [] w w') := by
  refine calls_of_WC1 (n := 55) Tryd.func79 rfl rfl rfl ?_
  refine W ?_
  by_cases h0 : s.length ≠ 0 ∧ s.length ≤ 12 ∧ 97 ≤ byte s 0 ∧ byte s 0 ≤ 122
  case neg =>
    have hn : namedT s = false := by
      unfold namedT nameOk
      rw [decide_eq_false (fun h => h0 ⟨by omega, h.2.1, h.2.2.1, h.2.2.2.1⟩)]
      rfl
    by_cases hl : s.length ≠ 0
    · repeat' (first | refine W1 ?_ | (exfalso; omega) | refine WL_split rfl rfl (fun hg => ?_) (fun hg => ?_) | refine WL_splitB rfl rfl (fun hg => ?_) (fun hg => ?_) | refine WC_cond rfl (fun hc => ?_) (fun hc => ?_) | refine WC_condB rfl (fun hc => ?_) (fun hc => ?_))
      · first | refine WQ_ret1 rfl rfl ?_ | refine WQ_ret2 rfl rfl rfl ?_ | refine WQ_ret3 rfl rfl rfl rfl ?_ | refine WQ_ret0 rfl ?_ | refine WQ_end0 rfl ?_
        exact .mk ⟨by rw [hn], Stp.refl _ _⟩
      · first | refine WQ_ret1 rfl rfl ?_ | refine WQ_ret2 rfl rfl rfl ?_ | refine WQ_ret3 rfl rfl rfl rfl ?_ | refine WQ_ret0 rfl ?_ | refine WQ_end0 rfl ?_
        exact .mk ⟨by rw [hn], Stp.refl _ _⟩
      refine WL_indexT (i := 0) rfl rfl rfl (by omega) rfl ?_
      repeat' (first | refine W1 ?_ | (exfalso; omega) | refine WL_split rfl rfl (fun hg => ?_) (fun hg => ?_) | refine WL_splitB rfl rfl (fun hg => ?_) (fun hg => ?_) | refine WC_cond rfl (fun hc => ?_) (fun hc => ?_) | refine WC_condB rfl (fun hc => ?_) (fun hc => ?_))
      · first | refine WQ_ret1 rfl rfl ?_ | refine WQ_ret2 rfl rfl rfl ?_ | refine WQ_ret3 rfl rfl rfl rfl ?_ | refine WQ_ret0 rfl ?_ | refine WQ_end0 rfl ?_
        exact .mk ⟨by rw [hn], Stp.refl _ _⟩
      refine WL_indexT (i := 0) rfl rfl rfl (by omega) rfl ?_
      repeat' (first | refine W1 ?_ | (exfalso; omega) | refine WL_split rfl rfl (fun hg => ?_) (fun hg => ?_) | refine WL_splitB rfl rfl (fun hg => ?_) (fun hg => ?_) | refine WC_cond rfl (fun hc => ?_) (fun hc => ?_) | refine WC_condB rfl (fun hc => ?_) (fun hc => ?_))
      first | refine WQ_ret1 rfl rfl ?_ | refine WQ_ret2 rfl rfl rfl ?_ | refine WQ_ret3 rfl rfl rfl rfl ?_ | refine WQ_ret0 rfl ?_ | refine WQ_end0 rfl ?_
      exact .mk ⟨by rw [hn], Stp.refl _ _⟩
    · obtain rfl : s = [] := List.length_eq_zero_iff.1 (by omega)
      repeat' (first | refine W1 ?_ | (exfalso; omega) | refine WL_split rfl rfl (fun hg => ?_) (fun hg => ?_) | refine WL_splitB rfl rfl (fun hg => ?_) (fun hg => ?_) | refine WC_cond rfl (fun hc => ?_) (fun hc => ?_) | refine WC_condB rfl (fun hc => ?_) (fun hc => ?_))
      first | refine WQ_ret1 rfl rfl ?_ | refine WQ_ret2 rfl rfl rfl ?_ | refine WQ_ret3 rfl rfl rfl rfl ?_ | refine WQ_ret0 rfl ?_ | refine WQ_end0 rfl ?_
      exact .mk ⟨by rw [hn], Stp.refl _ _⟩
  obtain ⟨h1, h2, h3, h4⟩ := h0
  have hne : ¬ s = [] := fun h => by rw [h] at h1; exact h1 rfl
  repeat' (first | refine W1 ?_ | (exfalso; omega) | refine WL_split rfl rfl (fun hg => ?_) (fun hg => ?_) | refine WL_splitB rfl rfl (fun hg => ?_) (fun hg => ?_) | refine WC_cond rfl (fun hc => ?_) (fun hc => ?_) | refine WC_condB rfl (fun hc => ?_) (fun hc => ?_))
  · exact absurd (by assumption) hne
  refine WL_indexT (i := 0) rfl rfl rfl (by omega) rfl ?_
  repeat' (first | refine W1 ?_ | (exfalso; omega) | refine WL_split rfl rfl (fun hg => ?_) (fun hg => ?_) | refine WL_splitB rfl rfl (fun hg => ?_) (fun hg => ?_) | refine WC_cond rfl (fun hc => ?_) (fun hc => ?_) | refine WC_condB rfl (fun hc => ?_) (fun hc => ?_))
  refine WL_indexT (i := 0) rfl rfl rfl (by omega) rfl ?_
  repeat' (first | refine W1 ?_ | (exfalso; omega) | refine WL_split rfl rfl (fun hg => ?_) (fun hg => ?_) | refine WL_splitB rfl rfl (fun hg => ?_) (fun hg => ?_) | refine WC_cond rfl (fun hc => ?_) (fun hc => ?_) | refine WC_condB rfl (fun hc => ?_) (fun hc => ?_))
  refine WL_eff (OE_convS rfl (by omega)) rfl ?_
  rintro bv w1 ⟨hb, hS⟩
  replace hb := hb [] (by simp)
  have hmx := hb.max
  repeat' (first | refine W1 ?_ | (exfalso; omega) | refine WL_split rfl rfl (fun hg => ?_) (fun hg => ?_) | refine WL_splitB rfl rfl (fun hg => ?_) (fun hg => ?_) | refine WC_cond rfl (fun hc => ?_) (fun hc => ?_) | refine WC_condB rfl (fun hc => ?_) (fun hc => ?_))
  refine WC_loop (σ := Nat) (fun i => [(0, str s), (23, bv), (24, .int .i64 (s.length : Int)), (25, .int .i64 (i : Int))]) (fun i w' => i ≤ s.length ∧ Stp [] w1 w' ∧ ∀ j, j < i → lett (byte s j)) (fun i => s.length - i) 0 ⟨rfl, rfl, rfl, rfl, trivial⟩ ⟨Nat.zero_le _, Stp.refl _ _, fun j hj => absurd hj (Nat.not_lt_zero _)⟩ ?_
  rintro i w2 ⟨hi, hS2, hall⟩
  try dsimp only at hi hall ⊢
  replace hb := hb.up hS2
  replace hS := hS.trans hS2
  by_cases hlt : i < s.length
  · have hbi : byte s i = (s[i].toNat : Int) := Go.Eng.byte_at hlt
    by_cases hle : (97 ≤ (s[i].toNat : Int) ∧ (s[i].toNat : Int) ≤ 122) ∨ (48 ≤ (s[i].toNat : Int) ∧ (s[i].toNat : Int) ≤ 57)
    · have hall' : ∀ j, j < i + 1 → lett (byte s j) := fun j hj => by
        by_cases e : j = i
        · subst e; rw [hbi]; exact hle
        · exact hall j (by omega)
      repeat' (first | refine W1 ?_ | (exfalso; omega) | refine WL_split rfl rfl (fun hg => ?_) (fun hg => ?_) | refine WL_splitB rfl rfl (fun hg => ?_) (fun hg => ?_) | refine WC_cond rfl (fun hc => ?_) (fun hc => ?_) | refine WC_condB rfl (fun hc => ?_) (fun hc => ?_))
      all_goals exact WQ_loop (i + 1) ⟨rfl, rfl, rfl, rfl, trivial⟩ ⟨hlt, hS2, hall'⟩ (Nat.sub_lt_sub_left hlt (Nat.lt_succ_self i))
    · have hn : namedT s = false := by
        unfold namedT nameOk
        rw [decide_eq_false (fun h => hle (by have := h.2.2.2.2 i hlt; rw [hbi] at this; exact this))]
        rfl
      repeat' (first | refine W1 ?_ | (exfalso; omega) | refine WL_split rfl rfl (fun hg => ?_) (fun hg => ?_) | refine WL_splitB rfl rfl (fun hg => ?_) (fun hg => ?_) | refine WC_cond rfl (fun hc => ?_) (fun hc => ?_) | refine WC_condB rfl (fun hc => ?_) (fun hc => ?_))
      all_goals
        first | refine WQ_ret1 rfl rfl ?_ | refine WQ_ret2 rfl rfl rfl ?_ | refine WQ_ret3 rfl rfl rfl rfl ?_ | refine WQ_ret0 rfl ?_ | refine WQ_end0 rfl ?_
        exact .mk ⟨by rw [hn], hS⟩
  obtain rfl : i = s.length := by omega
  have hok : nameOk s = true := decide_eq_true ⟨by omega, h2, h3, h4, hall⟩
  have hsp : ∀ c ∈ s, c ≠ 32 := fun c hc h => by
    obtain ⟨j, hj, rfl⟩ := List.getElem_of_mem hc
    have h5 := hall j hj
    rw [Go.Eng.byte_at hj, h] at h5
    exact absurd h5 (by decide)
  have hrl : resC.length < 4294967281 := by
    have : resC.length ≤ 200 := by decide +kernel
    omega
  have hres : Lib.contains resC ([32] ++ s ++ [32]) = decide (s ∈ resW) := res_iff hne hsp
  repeat' (first | refine W1 ?_ | (exfalso; omega) | refine WL_split rfl rfl (fun hg => ?_) (fun hg => ?_) | refine WL_splitB rfl rfl (fun hg => ?_) (fun hg => ?_) | refine WC_cond rfl (fun hc => ?_) (fun hc => ?_) | refine WC_condB rfl (fun hc => ?_) (fun hc => ?_))
  refine WL_addT rfl rfl (by simp; omega) rfl ?_
  repeat' (first | refine W1 ?_ | (exfalso; omega) | refine WL_split rfl rfl (fun hg => ?_) (fun hg => ?_) | refine WL_splitB rfl rfl (fun hg => ?_) (fun hg => ?_) | refine WC_cond rfl (fun hc => ?_) (fun hc => ?_) | refine WC_condB rfl (fun hc => ?_) (fun hc => ?_))
  refine WL_addT rfl rfl (by simp; omega) rfl ?_
  repeat' (first | refine W1 ?_ | (exfalso; omega) | refine WL_split rfl rfl (fun hg => ?_) (fun hg => ?_) | refine WL_splitB rfl rfl (fun hg => ?_) (fun hg => ?_) | refine WC_cond rfl (fun hc => ?_) (fun hc => ?_) | refine WC_condB rfl (fun hc => ?_) (fun hc => ?_))
  refine WL_eff (OE_call rfl (evs2 rfl rfl) (contains_any resC ([32] ++ s ++ [32]) m _ hrl (hS.cell (by simp) hm))) rfl ?_
  rintro _ w3 ⟨rfl, hS3⟩
  rw [hres]
  replace hS := hS.trans hS3
  by_cases hr : s ∈ resW
  · have hn : namedT s = false := by
      unfold namedT
      rw [decide_eq_false (fun h => h.1 hr), Bool.and_false]
    rw [decide_eq_true hr]
    repeat' (first | refine W1 ?_ | (exfalso; omega) | refine WL_split rfl rfl (fun hg => ?_) (fun hg => ?_) | refine WL_splitB rfl rfl (fun hg => ?_) (fun hg => ?_) | refine WC_cond rfl (fun hc => ?_) (fun hc => ?_) | refine WC_condB rfl (fun hc => ?_) (fun hc => ?_))
    first | refine WQ_ret1 rfl rfl ?_ | refine WQ_ret2 rfl rfl rfl ?_ | refine WQ_ret3 rfl rfl rfl rfl ?_ | refine WQ_ret0 rfl ?_ | refine WQ_end0 rfl ?_
    exact .mk ⟨by rw [hn], hS⟩
  rw [decide_eq_false hr]
  repeat' (first | refine W1 ?_ | (exfalso; omega) | refine WL_split rfl rfl (fun hg => ?_) (fun hg => ?_) | refine WL_splitB rfl rfl (fun hg => ?_) (fun hg => ?_) | refine WC_cond rfl (fun hc => ?_) (fun hc => ?_) | refine WC_condB rfl (fun hc => ?_) (fun hc => ?_))
  refine WL_sliceA rfl rfl ?_
  refine W ?_
  refine WL_eff (OE_call rfl (evs2 rfl rfl) (containsS_any [] _ fieldNames s _ (hF.up hS))) rfl ?_
  rintro _ w4 ⟨rfl, hS4⟩
  repeat' (first | refine W1 ?_ | (exfalso; omega) | refine WL_split rfl rfl (fun hg => ?_) (fun hg => ?_) | refine WL_splitB rfl rfl (fun hg => ?_) (fun hg => ?_) | refine WC_cond rfl (fun hc => ?_) (fun hc => ?_) | refine WC_condB rfl (fun hc => ?_) (fun hc => ?_))
  first | refine WQ_ret1 rfl rfl ?_ | refine WQ_ret2 rfl rfl rfl ?_ | refine WQ_ret3 rfl rfl rfl rfl ?_ | refine WQ_ret0 rfl ?_ | refine WQ_end0 rfl ?_
  refine .mk ⟨?_, hS.trans hS4⟩
  unfold namedT
  rw [hok]
  by_cases hf : s ∈ fieldNames <;> simp [hr, hf]
end Go.Proofs.YtgpibcgebpgmiaaDoor

namespace Go.Proofs.YtgpibcgebpgmiaaDoor
open Go Go.Eng Go.RowKit
set_option linter.unusedVariables false

theorem reserved_words : wordsOf [114, 117, 108, 101, 32, 102, 114, 111, 109, 32, 111, 110, 32, 105, 102, 32, 100, 117, 101, 32, 117, 110, 108, 101, 115, 115, 32, 101, 108, 115, 101, 32, 111, 114, 32, 97, 110, 100, 32, 110, 111, 116, 32, 116, 114, 117, 101, 32, 102, 97, 108, 115, 101, 32, 116, 104, 101, 110, 32, 101, 110, 100, 32, 100, 97, 121, 115, 32, 119, 101, 101, 107, 115, 32, 109, 111, 110, 116, 104, 115, 32, 99, 111, 117, 114, 116, 100, 97, 121, 115, 32, 110, 101, 120, 116, 32, 112, 114, 101, 118, 32, 108, 97, 116, 101, 114, 32, 101, 97, 114, 108, 105, 101, 114, 32, 98, 101, 116, 119, 101, 101, 110, 32, 100, 97, 121, 32, 115, 101, 114, 118, 101, 100, 32, 101, 120, 116, 114, 97, 32, 98, 121, 32, 116, 111, 32, 99, 111, 117, 114, 116, 32, 97, 109, 111, 117, 110, 116] = resW ++ fieldNames := by decide +kernel
theorem Reserved_any (X : List Nat) (w : World) (hX : ∀ b ∈ X, b < w.heap.size) : Calls Tryd.prog 117 #[] w (Ret fun r w' => Row X w' w.heap.size 9 r (resW ++ fieldNames) ∧ Stp [] w w') := by
  refine calls_of_WC0 (n := 2) Tryd.func117 rfl rfl ?_
  refine W ?_
  refine WL_eff (OE_call rfl (evs1 rfl) (words_any X [114, 117, 108, 101, 32, 102, 114, 111, 109, 32, 111, 110, 32, 105, 102, 32, 100, 117, 101, 32, 117, 110, 108, 101, 115, 115, 32, 101, 108, 115, 101, 32, 111, 114, 32, 97, 110, 100, 32, 110, 111, 116, 32, 116, 114, 117, 101, 32, 102, 97, 108, 115, 101, 32, 116, 104, 101, 110, 32, 101, 110, 100, 32, 100, 97, 121, 115, 32, 119, 101, 101, 107, 115, 32, 109, 111, 110, 116, 104, 115, 32, 99, 111, 117, 114, 116, 100, 97, 121, 115, 32, 110, 101, 120, 116, 32, 112, 114, 101, 118, 32, 108, 97, 116, 101, 114, 32, 101, 97, 114, 108, 105, 101, 114, 32, 98, 101, 116, 119, 101, 101, 110, 32, 100, 97, 121, 32, 115, 101, 114, 118, 101, 100, 32, 101, 120, 116, 114, 97, 32, 98, 121, 32, 116, 111, 32, 99, 111, 117, 114, 116, 32, 97, 109, 111, 117, 110, 116] _ hX (by decide +kernel))) rfl ?_
  rintro v w1 ⟨hr, hS⟩
  rw [reserved_words] at hr
  refine W ?_
  first | refine WQ_ret1 rfl rfl ?_ | refine WQ_ret2 rfl rfl rfl ?_ | refine WQ_ret3 rfl rfl rfl rfl ?_ | refine WQ_ret0 rfl ?_ | refine WQ_end0 rfl ?_
  exact .mk ⟨hr, hS⟩
theorem Named14_any (s : Str) (w : World) : Calls Tryd.prog 90 #[str s] w (Ret fun r w' => r = .bool (namedT s) ∧ Stp [] w w') := by
  refine calls_of_WC1 (n := 60) Tryd.func90 rfl rfl rfl ?_
  refine W ?_
  by_cases h0 : s.length ≠ 0 ∧ s.length ≤ 12 ∧ 97 ≤ byte s 0 ∧ byte s 0 ≤ 122
  case neg =>
    have hn : namedT s = false := by
      unfold namedT nameOk
      rw [decide_eq_false (fun h => h0 ⟨by omega, h.2.1, h.2.2.1, h.2.2.2.1⟩)]
      rfl
    by_cases hl : s.length ≠ 0
    · repeat' (first | refine W1 ?_ | (exfalso; omega) | refine WL_split rfl rfl (fun hg => ?_) (fun hg => ?_) | refine WL_splitB rfl rfl (fun hg => ?_) (fun hg => ?_) | refine WC_cond rfl (fun hc => ?_) (fun hc => ?_) | refine WC_condB rfl (fun hc => ?_) (fun hc => ?_))
      · first | refine WQ_ret1 rfl rfl ?_ | refine WQ_ret2 rfl rfl rfl ?_ | refine WQ_ret3 rfl rfl rfl rfl ?_ | refine WQ_ret0 rfl ?_ | refine WQ_end0 rfl ?_
        exact .mk ⟨by rw [hn], Stp.refl _ _⟩
      refine WL_indexT (i := 0) rfl rfl rfl (by omega) rfl ?_
      repeat' (first | refine W1 ?_ | (exfalso; omega) | refine WL_split rfl rfl (fun hg => ?_) (fun hg => ?_) | refine WL_splitB rfl rfl (fun hg => ?_) (fun hg => ?_) | refine WC_cond rfl (fun hc => ?_) (fun hc => ?_) | refine WC_condB rfl (fun hc => ?_) (fun hc => ?_))
      · first | refine WQ_ret1 rfl rfl ?_ | refine WQ_ret2 rfl rfl rfl ?_ | refine WQ_ret3 rfl rfl rfl rfl ?_ | refine WQ_ret0 rfl ?_ | refine WQ_end0 rfl ?_
        exact .mk ⟨by rw [hn], Stp.refl _ _⟩
      refine WL_indexT (i := 0) rfl rfl rfl (by omega) rfl ?_
      repeat' (first | refine W1 ?_ | (exfalso; omega) | refine WL_split rfl rfl (fun hg => ?_) (fun hg => ?_) | refine WL_splitB rfl rfl (fun hg => ?_) (fun hg => ?_) | refine WC_cond rfl (fun hc => ?_) (fun hc => ?_) | refine WC_condB rfl (fun hc => ?_) (fun hc => ?_))
      first | refine WQ_ret1 rfl rfl ?_ | refine WQ_ret2 rfl rfl rfl ?_ | refine WQ_ret3 rfl rfl rfl rfl ?_ | refine WQ_ret0 rfl ?_ | refine WQ_end0 rfl ?_
      exact .mk ⟨by rw [hn], Stp.refl _ _⟩
    · repeat' (first | refine W1 ?_ | (exfalso; omega) | refine WL_split rfl rfl (fun hg => ?_) (fun hg => ?_) | refine WL_splitB rfl rfl (fun hg => ?_) (fun hg => ?_) | refine WC_cond rfl (fun hc => ?_) (fun hc => ?_) | refine WC_condB rfl (fun hc => ?_) (fun hc => ?_))
      first | refine WQ_ret1 rfl rfl ?_ | refine WQ_ret2 rfl rfl rfl ?_ | refine WQ_ret3 rfl rfl rfl rfl ?_ | refine WQ_ret0 rfl ?_ | refine WQ_end0 rfl ?_
      exact .mk ⟨by rw [hn], Stp.refl _ _⟩
  obtain ⟨h1, h2, h3, h4⟩ := h0
  repeat' (first | refine W1 ?_ | (exfalso; omega) | refine WL_split rfl rfl (fun hg => ?_) (fun hg => ?_) | refine WL_splitB rfl rfl (fun hg => ?_) (fun hg => ?_) | refine WC_cond rfl (fun hc => ?_) (fun hc => ?_) | refine WC_condB rfl (fun hc => ?_) (fun hc => ?_))
  refine WL_indexT (i := 0) rfl rfl rfl (by omega) rfl ?_
  repeat' (first | refine W1 ?_ | (exfalso; omega) | refine WL_split rfl rfl (fun hg => ?_) (fun hg => ?_) | refine WL_splitB rfl rfl (fun hg => ?_) (fun hg => ?_) | refine WC_cond rfl (fun hc => ?_) (fun hc => ?_) | refine WC_condB rfl (fun hc => ?_) (fun hc => ?_))
  refine WL_indexT (i := 0) rfl rfl rfl (by omega) rfl ?_
  repeat' (first | refine W1 ?_ | (exfalso; omega) | refine WL_split rfl rfl (fun hg => ?_) (fun hg => ?_) | refine WL_splitB rfl rfl (fun hg => ?_) (fun hg => ?_) | refine WC_cond rfl (fun hc => ?_) (fun hc => ?_) | refine WC_condB rfl (fun hc => ?_) (fun hc => ?_))
  refine WC_loop (σ := Nat) (fun i => [(0, str s), (3, .int .i64 (i : Int))]) (fun i w' => i ≤ s.length ∧ w' = w ∧ ∀ j, j < i → lett (byte s j)) (fun i => s.length - i) 0 ⟨rfl, rfl, trivial⟩ ⟨Nat.zero_le _, rfl, fun j hj => absurd hj (Nat.not_lt_zero _)⟩ ?_
  rintro i w2 ⟨hi, rfl, hall⟩
  try dsimp only at hi hall ⊢
  by_cases hlt : ¬ s.length ≤ i
  · by_cases hle : (97 ≤ byte s i ∧ byte s i ≤ 122) ∨ (48 ≤ byte s i ∧ byte s i ≤ 57)
    · have hall' : ∀ j, j < i + 1 → lett (byte s j) := fun j hj => by
        by_cases e : j = i
        · subst e; exact hle
        · exact hall j (by omega)
      repeat' (first | refine W1 ?_ | (exfalso; omega) | refine WL_split rfl rfl (fun hg => ?_) (fun hg => ?_) | refine WL_splitB rfl rfl (fun hg => ?_) (fun hg => ?_) | refine WC_cond rfl (fun hc => ?_) (fun hc => ?_) | refine WC_condB rfl (fun hc => ?_) (fun hc => ?_))
      all_goals exact WQ_loop (i + 1) ⟨rfl, rfl, trivial⟩ ⟨by omega, rfl, hall'⟩ (by omega)
    · have hn : namedT s = false := by
        unfold namedT nameOk
        rw [decide_eq_false (fun h => hle (h.2.2.2.2 i (by omega)))]
        rfl
      repeat' (first | refine W1 ?_ | (exfalso; omega) | refine WL_split rfl rfl (fun hg => ?_) (fun hg => ?_) | refine WL_splitB rfl rfl (fun hg => ?_) (fun hg => ?_) | refine WC_cond rfl (fun hc => ?_) (fun hc => ?_) | refine WC_condB rfl (fun hc => ?_) (fun hc => ?_))
      all_goals
        first | refine WQ_ret1 rfl rfl ?_ | refine WQ_ret2 rfl rfl rfl ?_ | refine WQ_ret3 rfl rfl rfl rfl ?_ | refine WQ_ret0 rfl ?_ | refine WQ_end0 rfl ?_
        exact .mk ⟨by rw [hn], Stp.refl _ _⟩
  obtain rfl : i = s.length := by omega
  have hok : nameOk s = true := decide_eq_true ⟨by omega, h2, h3, h4, hall⟩
  repeat' (first | refine W1 ?_ | (exfalso; omega) | refine WL_split rfl rfl (fun hg => ?_) (fun hg => ?_) | refine WL_splitB rfl rfl (fun hg => ?_) (fun hg => ?_) | refine WC_cond rfl (fun hc => ?_) (fun hc => ?_) | refine WC_condB rfl (fun hc => ?_) (fun hc => ?_))
  refine WL_eff (OE_call rfl evs0 (Reserved_any [] _ (by simp))) rfl ?_
  rintro rv w3 ⟨hr, hS⟩
  refine W ?_
  refine WL_eff (OE_call rfl (evs2 rfl rfl) (place14_any [] rv _ s _ hr.slv0)) rfl ?_
  rintro _ w4 ⟨rfl, hS4⟩
  refine W ?_
  first | refine WQ_ret1 rfl rfl ?_ | refine WQ_ret2 rfl rfl rfl ?_ | refine WQ_ret3 rfl rfl rfl rfl ?_ | refine WQ_ret0 rfl ?_ | refine WQ_end0 rfl ?_
  refine .mk ⟨?_, hS.trans hS4⟩
  unfold namedT
  rw [hok, Bool.true_and]
  congr 1
  refine decide_eq_decide.2 ?_
  rw [← Int.not_le, idx_memS, List.mem_append, not_or]
/-- the error of an expression that must have a type -/
def mustF (x : Nd) (want : Int) : Int := if nestN x ≤ 12 then (if typeT x = 0 then 21 else if typeT x = want then 0 else 21) else 2
theorem must_any (v : Value) (x : Nd) (want : Int) (w : World) (hx : NdV [] w v x) (hF : SlV [] w flds fieldNames) : Calls Tryd.prog 80 #[v, .int .i64 want] w (Ret fun r w' => r = .int .i64 (mustF x want) ∧ Stp [] w w') := by
  obtain ⟨kv, rfl, hs⟩ := hx
  refine calls_of_WC2 (n := 20) Tryd.func80 rfl rfl rfl ?_
  refine W ?_
  refine WL_eff (OE_box rfl) rfl ?_
  rintro _ w1 ⟨b, rfl, hb, hblk, hS⟩
  replace hblk : Blk w1 b _ (ndC x kv) := hblk
  refine W ?_
  refine WL_eff (OE_call rfl (evs1 rfl) (Of_any [] [] _ x _ ⟨kv, rfl, hs.up hS⟩ (hF.up hS))) rfl ?_
  rintro _ w2 ⟨rfl, hS2⟩
  replace hS := hS.trans hS2
  unfold mustF
  by_cases hn : nestN x ≤ 12
  · rw [if_pos hn, if_pos hn, if_pos hn]
    by_cases ht : typeT x = 0
    · rw [if_pos ht, if_pos ht]
      repeat' (first | refine W1 ?_ | (exfalso; omega) | refine WL_split rfl rfl (fun hg => ?_) (fun hg => ?_) | refine WL_splitB rfl rfl (fun hg => ?_) (fun hg => ?_) | refine WC_cond rfl (fun hc => ?_) (fun hc => ?_) | refine WC_condB rfl (fun hc => ?_) (fun hc => ?_))
      first | refine WQ_ret1 rfl rfl ?_ | refine WQ_ret2 rfl rfl rfl ?_ | refine WQ_ret3 rfl rfl rfl rfl ?_ | refine WQ_ret0 rfl ?_ | refine WQ_end0 rfl ?_
      exact .mk ⟨rfl, hS⟩
    · rw [if_neg ht, if_neg ht]
      by_cases hw : typeT x = want
      · rw [if_pos hw]
        repeat' (first | refine W1 ?_ | (exfalso; omega) | refine WL_split rfl rfl (fun hg => ?_) (fun hg => ?_) | refine WL_splitB rfl rfl (fun hg => ?_) (fun hg => ?_) | refine WC_cond rfl (fun hc => ?_) (fun hc => ?_) | refine WC_condB rfl (fun hc => ?_) (fun hc => ?_))
        first | refine WQ_ret1 rfl rfl ?_ | refine WQ_ret2 rfl rfl rfl ?_ | refine WQ_ret3 rfl rfl rfl rfl ?_ | refine WQ_ret0 rfl ?_ | refine WQ_end0 rfl ?_
        exact .mk ⟨rfl, hS⟩
      · rw [if_neg hw]
        repeat' (first | refine W1 ?_ | (exfalso; omega) | refine WL_split rfl rfl (fun hg => ?_) (fun hg => ?_) | refine WL_splitB rfl rfl (fun hg => ?_) (fun hg => ?_) | refine WC_cond rfl (fun hc => ?_) (fun hc => ?_) | refine WC_condB rfl (fun hc => ?_) (fun hc => ?_))
        first | refine WQ_ret1 rfl rfl ?_ | refine WQ_ret2 rfl rfl rfl ?_ | refine WQ_ret3 rfl rfl rfl rfl ?_ | refine WQ_ret0 rfl ?_ | refine WQ_end0 rfl ?_
        exact .mk ⟨rfl, hS⟩
  · rw [if_neg hn, if_neg hn, if_neg hn]
    repeat' (first | refine W1 ?_ | (exfalso; omega) | refine WL_split rfl rfl (fun hg => ?_) (fun hg => ?_) | refine WL_splitB rfl rfl (fun hg => ?_) (fun hg => ?_) | refine WC_cond rfl (fun hc => ?_) (fun hc => ?_) | refine WC_condB rfl (fun hc => ?_) (fun hc => ?_))
    first | refine WQ_ret1 rfl rfl ?_ | refine WQ_ret2 rfl rfl rfl ?_ | refine WQ_ret3 rfl rfl rfl rfl ?_ | refine WQ_ret0 rfl ?_ | refine WQ_end0 rfl ?_
    exact .mk ⟨rfl, hS⟩
end Go.Proofs.YtgpibcgebpgmiaaDoor

namespace Go.Proofs.YtgpibcgebpgmiaaDoor
open Go Go.Eng Go.RowKit
set_option linter.unusedVariables false

/-! ### rules -/
structure Rul where
  name : Str
  frm : Int
  on : Str
  cnd : Nd
  due : Nd
  unl : Str
  els : Str
abbrev rlC (r : Rul) (ki kd : Value) : List Value := [str r.name, .int .i64 r.frm, str r.on, .int .i64 r.cnd.kind, .int .i64 r.cnd.num, str r.cnd.word, ki, .int .i64 r.due.kind, .int .i64 r.due.num, str r.due.word, kd, str r.unl, str r.els]
/-- the value of a rule -/
def RulV (X : List Nat) (w : World) (v : Value) (r : Rul) : Prop := ∃ ki kd, v = .agg (rlC r ki kd).toArray ∧ SlV X w ki r.cnd.kids ∧ SlV X w kd r.due.kids
theorem RulV.up {X : List Nat} {w w' : World} {v : Value} {r : Rul} (h : RulV X w v r) (hS : Stp [] w w') : RulV X w' v r := by
  obtain ⟨ki, kd, rfl, h1, h2⟩ := h
  exact ⟨ki, kd, rfl, h1.up hS, h2.up hS⟩
/-- the names are good -/
def namesT (r : Rul) : Bool := namedT r.name && namedT r.on && (decide (r.unl = []) || namedT r.unl) && (decide (r.els = []) || namedT r.els)
/-- the error of a rule -/
def checkT (r : Rul) : Int := if namesT r = false then 7 else if r.frm < 0 ∨ r.frm > 3652058 then 5 else if mustF r.cnd 2 ≠ 0 then mustF r.cnd 2 else mustF r.due 3
theorem Check14_any (v : Value) (r : Rul) (m : Int) (w : World) (hv : RulV [] w v r) (hF : SlV [] w flds fieldNames) (hm : w.cell? ⟨1, 0, none⟩ = some (.int .i64 m)) :
    Calls Tryd.prog 41 #[v] w (Ret fun r' w' => r' = .int .i64 (checkT r) ∧ Stp [] w w') := by
  obtain ⟨ki, kd, rfl, hi, hd⟩ := hv
  refine calls_of_WC1 (n := 55) Tryd.func41 rfl rfl rfl ?_
  refine W ?_
  refine WL_eff (OE_box rfl) rfl ?_
  rintro _ w1 ⟨b, rfl, hb, hblk, hS⟩
  replace hblk : Blk w1 b _ (rlC r ki kd) := hblk
  refine W ?_
  refine WL_eff (OE_call rfl (evs1 rfl) (named_any r.name m _ (hF.up hS) (hS.cell (by simp) hm))) rfl ?_
  rintro _ w2 ⟨rfl, hT⟩
  replace hblk := hblk.up hT
  replace hS := hS.trans hT
  clear hT
  refine WL_cutQ (σ := Bool) (fun q => [(1, .pointer (some ⟨b, 0, none⟩)), (2, .int .i64 0), (4, .bool q)]) (fun q w' => Blk w' b 51 (rlC r ki kd) ∧ Stp [] w w' ∧ q = !namesT r) ?_ ?_
  · cases hA : namedT r.name with
    | false =>
      refine W ?_
      exact WQ_cut true ⟨rfl, rfl, rfl, trivial⟩ ⟨hblk, hS, by simp [namesT, *]⟩
    | true =>
      refine W ?_
      refine WL_eff (OE_call rfl (evs1 rfl) (named_any r.on m _ (hF.up hS) (hS.cell (by simp) hm))) rfl ?_
      rintro _ w2 ⟨rfl, hT⟩
      replace hblk := hblk.up hT
      replace hS := hS.trans hT
      clear hT
      cases hB : namedT r.on with
      | false =>
        refine W ?_
        exact WQ_cut true ⟨rfl, rfl, rfl, trivial⟩ ⟨hblk, hS, by simp [namesT, *]⟩
      | true =>
        repeat' (first | refine W1 ?_ | (exfalso; omega) | refine WL_split rfl rfl (fun hg => ?_) (fun hg => ?_) | refine WL_splitB rfl rfl (fun hg => ?_) (fun hg => ?_) | refine WC_cond rfl (fun hc => ?_) (fun hc => ?_) | refine WC_condB rfl (fun hc => ?_) (fun hc => ?_))
        · refine WL_eff (OE_call rfl (evs1 rfl) (named_any r.unl m _ (hF.up hS) (hS.cell (by simp) hm))) rfl ?_
          rintro _ w2 ⟨rfl, hT⟩
          replace hblk := hblk.up hT
          replace hS := hS.trans hT
          clear hT
          cases hC : namedT r.unl with
          | false =>
            refine W ?_
            exact WQ_cut true ⟨rfl, rfl, rfl, trivial⟩ ⟨hblk, hS, by simp [namesT, *]⟩
          | true =>
            repeat' (first | refine W1 ?_ | (exfalso; omega) | refine WL_split rfl rfl (fun hg => ?_) (fun hg => ?_) | refine WL_splitB rfl rfl (fun hg => ?_) (fun hg => ?_) | refine WC_cond rfl (fun hc => ?_) (fun hc => ?_) | refine WC_condB rfl (fun hc => ?_) (fun hc => ?_))
            · refine WL_eff (OE_call rfl (evs1 rfl) (named_any r.els m _ (hF.up hS) (hS.cell (by simp) hm))) rfl ?_
              rintro _ w2 ⟨rfl, hT⟩
              replace hblk := hblk.up hT
              replace hS := hS.trans hT
              clear hT
              cases hD : namedT r.els with
              | false =>
                refine W ?_
                exact WQ_cut true ⟨rfl, rfl, rfl, trivial⟩ ⟨hblk, hS, by simp [namesT, *]⟩
              | true =>
                refine W ?_
                exact WQ_cut false ⟨rfl, rfl, rfl, trivial⟩ ⟨hblk, hS, by simp [namesT, *]⟩
            · exact WQ_cut false ⟨rfl, rfl, rfl, trivial⟩ ⟨hblk, hS, by simp [namesT, *]⟩
        · refine WL_eff (OE_call rfl (evs1 rfl) (named_any r.els m _ (hF.up hS) (hS.cell (by simp) hm))) rfl ?_
          rintro _ w2 ⟨rfl, hT⟩
          replace hblk := hblk.up hT
          replace hS := hS.trans hT
          clear hT
          cases hD : namedT r.els with
          | false =>
            refine W ?_
            exact WQ_cut true ⟨rfl, rfl, rfl, trivial⟩ ⟨hblk, hS, by simp [namesT, *]⟩
          | true =>
            refine W ?_
            exact WQ_cut false ⟨rfl, rfl, rfl, trivial⟩ ⟨hblk, hS, by simp [namesT, *]⟩
        · exact WQ_cut false ⟨rfl, rfl, rfl, trivial⟩ ⟨hblk, hS, by simp [namesT, *]⟩
  rintro q w3 ⟨hblk, hS, hq⟩
  try dsimp only at hq ⊢
  unfold checkT
  cases hnm : namesT r with
  | false =>
    rw [hnm] at hq
    subst hq
    refine W ?_
    first | refine WQ_ret1 rfl rfl ?_ | refine WQ_ret2 rfl rfl rfl ?_ | refine WQ_ret3 rfl rfl rfl rfl ?_ | refine WQ_ret0 rfl ?_ | refine WQ_end0 rfl ?_
    exact .mk ⟨rfl, hS⟩
  | true =>
    rw [hnm] at hq
    subst hq
    refine W ?_
    by_cases hr : r.frm < 0 ∨ r.frm > 3652058
    · repeat' (first | refine W1 ?_ | (exfalso; omega) | refine WL_split rfl rfl (fun hg => ?_) (fun hg => ?_) | refine WL_splitB rfl rfl (fun hg => ?_) (fun hg => ?_) | refine WC_cond rfl (fun hc => ?_) (fun hc => ?_) | refine WC_condB rfl (fun hc => ?_) (fun hc => ?_))
      all_goals
        first | refine WQ_ret1 rfl rfl ?_ | refine WQ_ret2 rfl rfl rfl ?_ | refine WQ_ret3 rfl rfl rfl rfl ?_ | refine WQ_ret0 rfl ?_ | refine WQ_end0 rfl ?_
        exact .mk ⟨by rw [if_neg (by decide), if_pos hr], hS⟩
    repeat' (first | refine W1 ?_ | (exfalso; omega) | refine WL_split rfl rfl (fun hg => ?_) (fun hg => ?_) | refine WL_splitB rfl rfl (fun hg => ?_) (fun hg => ?_) | refine WC_cond rfl (fun hc => ?_) (fun hc => ?_) | refine WC_condB rfl (fun hc => ?_) (fun hc => ?_))
    apply WL_pure (PR_loadN_blk (us := ndC r.cnd ki) rfl rfl hblk rfl rfl) rfl
    refine W ?_
    refine WL_eff (OE_call rfl (evs2 rfl rfl) (must_any _ r.cnd 2 _ ⟨ki, rfl, hi.up hS⟩ (hF.up hS))) rfl ?_
    rintro _ w4 ⟨rfl, hT⟩
    replace hblk := hblk.up hT
    replace hS := hS.trans hT
    clear hT
    by_cases h2 : mustF r.cnd 2 = 0
    · repeat' (first | refine W1 ?_ | (exfalso; omega) | refine WL_split rfl rfl (fun hg => ?_) (fun hg => ?_) | refine WL_splitB rfl rfl (fun hg => ?_) (fun hg => ?_) | refine WC_cond rfl (fun hc => ?_) (fun hc => ?_) | refine WC_condB rfl (fun hc => ?_) (fun hc => ?_))
      apply WL_pure (PR_loadN_blk (us := ndC r.due kd) rfl rfl hblk rfl rfl) rfl
      refine W ?_
      refine WL_eff (OE_call rfl (evs2 rfl rfl) (must_any _ r.due 3 _ ⟨kd, rfl, hd.up hS⟩ (hF.up hS))) rfl ?_
      rintro _ w5 ⟨rfl, hT⟩
      refine W ?_
      first | refine WQ_ret1 rfl rfl ?_ | refine WQ_ret2 rfl rfl rfl ?_ | refine WQ_ret3 rfl rfl rfl rfl ?_ | refine WQ_ret0 rfl ?_ | refine WQ_end0 rfl ?_
      exact .mk ⟨by rw [if_neg (by decide), if_neg hr, if_neg (by simpa using h2)], hS.trans hT⟩
    · repeat' (first | refine W1 ?_ | (exfalso; omega) | refine WL_split rfl rfl (fun hg => ?_) (fun hg => ?_) | refine WL_splitB rfl rfl (fun hg => ?_) (fun hg => ?_) | refine WC_cond rfl (fun hc => ?_) (fun hc => ?_) | refine WC_condB rfl (fun hc => ?_) (fun hc => ?_))
      first | refine WQ_ret1 rfl rfl ?_ | refine WQ_ret2 rfl rfl rfl ?_ | refine WQ_ret3 rfl rfl rfl rfl ?_ | refine WQ_ret0 rfl ?_ | refine WQ_end0 rfl ?_
      exact .mk ⟨by rw [if_neg (by decide), if_neg hr, if_pos h2], hS⟩
end Go.Proofs.YtgpibcgebpgmiaaDoor

namespace Go.Proofs.YtgpibcgebpgmiaaDoor
open Go Go.Eng Go.RowKit
set_option linter.unusedVariables false

def names4 : List Str := [[97], [98], [99, 49, 48], [97, 110, 115, 119, 101, 114]]
def kinds7 : List Str := [[109, 111, 116, 105, 111, 110], [97, 110, 115, 119, 101, 114], [111, 114, 100, 101, 114], [110, 111, 116, 105, 99, 101], [97, 112, 112, 101, 97, 108], [100, 101, 102, 97, 117, 108, 116, 50], [114, 101, 112, 108, 121]]
theorem Kinds_any (X : List Nat) (w : World) (hX : ∀ b ∈ X, b < w.heap.size) : Calls Tryd.prog 64 #[] w (Ret fun r w' => Row X w' w.heap.size 9 r kinds7 ∧ Stp [] w w') := by
  refine calls_of_WC0 (n := 2) Tryd.func64 rfl rfl ?_
  refine W ?_
  refine WL_eff (OE_call rfl (evs1 rfl) (words_any X [109, 111, 116, 105, 111, 110, 32, 97, 110, 115, 119, 101, 114, 32, 111, 114, 100, 101, 114, 32, 110, 111, 116, 105, 99, 101, 32, 97, 112, 112, 101, 97, 108, 32, 100, 101, 102, 97, 117, 108, 116, 50, 32, 114, 101, 112, 108, 121] _ hX (by decide))) rfl ?_
  rintro v w1 ⟨hr, hS⟩
  rw [show wordsOf [109, 111, 116, 105, 111, 110, 32, 97, 110, 115, 119, 101, 114, 32, 111, 114, 100, 101, 114, 32, 110, 111, 116, 105, 99, 101, 32, 97, 112, 112, 101, 97, 108, 32, 100, 101, 102, 97, 117, 108, 116, 50, 32, 114, 101, 112, 108, 121] = kinds7 by decide +kernel] at hr
  refine W ?_
  first | refine WQ_ret1 rfl rfl ?_ | refine WQ_ret2 rfl rfl rfl ?_ | refine WQ_ret3 rfl rfl rfl rfl ?_ | refine WQ_ret0 rfl ?_ | refine WQ_end0 rfl ?_
  exact .mk ⟨hr, hS⟩
abbrev nil4 : Nd := .mk 0 0 [] []
abbrev nilS : Value := .slice none 0 0
theorem buildRl (a o : Str) (f : Int) (w : World) : (Instr.build 51 #[(0, str a), (1, .int .i64 f), (2, str o)]).run Tryd.prog w = .ok (.agg (rlC ⟨a, f, o, nil4, nil4, [], []⟩ nilS nilS).toArray) w := by kernel_rfl
theorem rlC_one (r : Rul) {X Y : List Nat} {w w' : World} {ki kd : Value} (h1 : SlV X w ki r.cnd.kids) (h2 : SlV Y w' kd r.due.kids) : ∀ c ∈ rlC r ki kd, c.oneCell' = true := by
  intro c hc
  have e1 := h1.one
  have e2 := h2.one
  simp only [rlC, List.mem_cons, List.not_mem_nil, or_false] at hc
  rcases hc with rfl | rfl | rfl | rfl | rfl | rfl | rfl | rfl | rfl | rfl | rfl | rfl | rfl <;> first | rfl | exact e1 | exact e2
theorem names_ok : ∀ s ∈ names4, namedT s = true := by decide +kernel
theorem kinds_ok : ∀ s ∈ kinds7, namedT s = true := by decide +kernel
theorem getD_mem {l : List Str} {q : Nat} (h : q < l.length) : l.getD q [] ∈ l := by
  have : l.getD q [] = l[q] := by simp [List.getD, h]
  rw [this]; exact List.getElem_mem h
theorem check_ok {a o u v : Str} {f : Int} {y x : Nd} (ha : a ∈ names4) (ho : o ∈ kinds7) (hu : u = [] ∨ u ∈ kinds7) (hv : v = [] ∨ v ∈ kinds7) (hf : 0 ≤ f ∧ f < 30) (hy : typeT y = 2) (hy' : nestN y ≤ 3) (hx : typeT x = 3) (hx' : nestN x ≤ 4) :
    checkT ⟨a, 739600 + f, o, y, x, u, v⟩ = 0 := by
  have hn : namesT ⟨a, 739600 + f, o, y, x, u, v⟩ = true := by
    simp only [namesT, names_ok a ha, kinds_ok o ho, Bool.true_and, Bool.and_eq_true, Bool.or_eq_true, decide_eq_true_eq]
    exact ⟨hu.imp id (kinds_ok u), hv.imp id (kinds_ok v)⟩
  have m1 : mustF y 2 = 0 := by unfold mustF; rw [if_pos (by omega), hy]; decide
  have m2 : mustF x 3 = 0 := by unfold mustF; rw [if_pos (by omega), hx]; decide
  unfold checkT
  rw [hn, if_neg (by decide), if_neg (by simp only; omega)]
  simp [m1, m2]
theorem Rule14_any (X : List Nat) (lv : Value) (l : List Int) (w : World) (hs : SlV [] w lv l) (hl : ∀ a ∈ l, I64 a) (hX : ∀ b ∈ X, b < w.heap.size) :
    Calls Tryd.prog 23 #[lv] w (Ret fun r w' => ∃ rl : Rul, RulV X w' r rl ∧ sizeN rl.cnd ≤ 400 ∧ sizeN rl.due ≤ 400 ∧ checkT rl = 0 ∧ Stp [] w w') := by
  obtain ⟨p, c, rfl, -⟩ := id hs
  refine calls_of_WC1 (n := 49) Tryd.func23 rfl rfl rfl ?_
  refine W ?_
  refine WL_eff OE_alloc rfl ?_
  rintro _ w1 ⟨b2, rfl, hb2, e2, hS⟩
  refine W ?_
  apply WL_build (vs := [(0, .slice p l.length c)]) rfl (buildMk _ _ _) rfl
  refine WL_eff (OE_box rfl) rfl ?_
  rintro _ w2 ⟨bm, rfl, hbm, hmk, hT⟩
  replace hmk : Mk w2 bm (.slice p l.length c) 0 := hmk
  have n2 : b2 ≠ bm := by have := e2.lt; omega
  have hbmw : w.heap.size ≤ bm := Nat.le_trans hS.size hbm
  replace e2 := e2.up hT
  have hsl := (hs.up hS).ext (X' := [bm]) hT (by simp) (fun b h => .inr (by simp at h; omega))
  replace hS := hS.trans hT
  clear hT hbm
  refine W ?_
  refine WL_eff (OE_call rfl evs0 (Kinds_any [bm] _ (fun b h => by simp at h; rw [h]; exact hmk.lt))) rfl ?_
  rintro kv wP ⟨hrk, hT⟩
  have hkv := hrk.slv (X := [bm]) (fun b h => by simp at h; rw [h]; exact hmk.lt)
  replace hmk := hmk.up hT
  replace e2 := e2.up hT
  replace hsl := hsl.up hT
  replace hS := hS.trans hT
  clear hT hrk
  refine W ?_
  refine WC_cutQ (σ := Nat × Str × Int × Str) (fun q => [(2, .pointer (some ⟨b2, 0, none⟩)), (3, .pointer (some ⟨bm, 0, none⟩)), (4, kv), (5, .pointer (some ⟨q.1, 0, none⟩))])
    (fun q w' => Mk w' bm (.slice p l.length c) 3 ∧ SlV [q.1, bm] w' (.slice p l.length c) l ∧ SlV [q.1, bm] w' kv kinds7 ∧ (∃ cs : List Value, cs.length = 13 ∧ Blk w' b2 51 cs) ∧ Blk w' q.1 51 (rlC ⟨q.2.1, 739600 + q.2.2.1, q.2.2.2, nil4, nil4, [], []⟩ nilS nilS) ∧ q.2.1 ∈ names4 ∧ (0 ≤ q.2.2.1 ∧ q.2.2.1 < 30) ∧ q.2.2.2 ∈ kinds7 ∧ q.1 ≠ bm ∧ q.1 ≠ b2 ∧ wP.heap.size ≤ q.1 ∧ Stp [bm] wP w') ?_ ?_
  · refine WC_drawn 16 ([bm]) [15] [(1, 0), (5, 0), (8, 0), (9, 0), (0, 17), (2, 17), (3, 0), (4, 1), (6, 17), (7, 0), (10, 17), (11, 0), (12, 1), (13, 0), (14, 2), (15, 2)] rfl mixed (by kernel_rfl) (by kernel_rfl) (by kernel_rfl) (fun w1 hS1 => ?_)
    have hP : Stp [bm] wP w1 := hS1.mono (by simp)
    replace hmk := hmk.up hS1
    replace hsl := hsl.up hS1
    replace hkv := hkv.up hS1
    replace e2 := e2.up hS1
    clear hS1
    refine D ?_
    apply WD_two
    · rfl
    · refine WD1_eff rfl trivial (OE_call rfl (evs1 rfl) (words_any [bm] [97, 32, 98, 32, 99, 49, 48, 32, 97, 110, 115, 119, 101, 114] _ (fun b h => by simp at h; rw [h]; exact hmk.lt) (by decide))) (fun _ _ h => h.2.mono (by simp)) rfl ?_
      rintro wv wq ⟨hrw, hT⟩
      rw [show wordsOf [97, 32, 98, 32, 99, 49, 48, 32, 97, 110, 115, 119, 101, 114] = names4 by decide +kernel] at hrw
      have hw := hrw.slv (X := [bm]) (fun b h => by simp at h; rw [h]; exact hmk.lt)
      replace hmk := hmk.up hT
      replace hsl := hsl.ext hT (by simp) (fun _ h => .inl h)
      replace hkv := hkv.ext hT (by simp) (fun _ h => .inl h)
      replace hP := hP.trans (hT.mono (by simp))
      replace e2 := e2.ext hT (by simp; try exact n2)
      clear hT hrw
      refine D ?_
      apply WD_two
      · rfl
      · refine WD1_eff rfl trivial (OE_call rfl (evs2 rfl rfl) (Next_any bm (.slice p l.length c) l 0 4 _ (by decide) (by decide) hmk (hsl.wk (fun b h => by simp at h; simp [h])) hl)) (fun _ _ h => h.choose_spec.2.2.2.mono (by simp)) rfl ?_
        rintro _ wq ⟨q1, rfl, hq1, hmk, hT⟩
        replace hsl := hsl.ext hT (by simp) (fun _ h => .inl h)
        replace hkv := hkv.ext hT (by simp) (fun _ h => .inl h)
        replace hP := hP.trans (hT.mono (by simp))
        replace e2 := e2.ext hT (by simp; try exact n2)
        replace hw := hw.ext hT (by simp) (fun _ h => .inl h)
        clear hT
        have hq1n : q1 < names4.length := by show q1 < 4; omega
        refine D ?_
        apply WD_two
        · rfl
        · refine WD1_eff rfl trivial (OE_call rfl (evs2 rfl rfl) (Next_any bm (.slice p l.length c) l 1 30 _ (by decide) (by decide) hmk (hsl.wk (fun b h => by simp at h; simp [h])) hl)) (fun _ _ h => h.choose_spec.2.2.2.mono (by simp)) rfl ?_
          rintro _ wq ⟨q2, rfl, hq2, hmk, hT⟩
          replace hsl := hsl.ext hT (by simp) (fun _ h => .inl h)
          replace hkv := hkv.ext hT (by simp) (fun _ h => .inl h)
          replace hP := hP.trans (hT.mono (by simp))
          replace e2 := e2.ext hT (by simp; try exact n2)
          replace hw := hw.ext hT (by simp) (fun _ h => .inl h)
          clear hT
          refine D ?_
          apply WD_two
          · rfl
          · refine WD1_eff rfl trivial (OE_call rfl (evs2 rfl rfl) (Next_any bm (.slice p l.length c) l 2 7 _ (by decide) (by decide) hmk (hsl.wk (fun b h => by simp at h; simp [h])) hl)) (fun _ _ h => h.choose_spec.2.2.2.mono (by simp)) rfl ?_
            rintro _ wq ⟨q3, rfl, hq3, hmk, hT⟩
            replace hsl := hsl.ext hT (by simp) (fun _ h => .inl h)
            replace hkv := hkv.ext hT (by simp) (fun _ h => .inl h)
            replace hP := hP.trans (hT.mono (by simp))
            replace e2 := e2.ext hT (by simp; try exact n2)
            replace hw := hw.ext hT (by simp) (fun _ h => .inl h)
            clear hT
            have hq3n : q3 < kinds7.length := by show q3 < 7; omega
            refine D ?_
            try (refine WF_build rfl trivial (vs := [(0, str names4[q1]), (1, .int .i64 (739600 + (q2 : Int))), (2, str kinds7[q3])]) rfl (buildRl _ _ _) rfl ?_)
            refine D ?_
            refine WD_eff rfl trivial OE_alloc (fun _ _ h => h.choose_spec.2.2.2.mono (by simp)) rfl ?_
            rintro _ wq ⟨b5, rfl, hb5, e5, hT⟩
            have n5 : b5 ≠ bm := by have := hmk.lt; omega
            have n52 : b5 ≠ b2 := by have := e2.lt; omega
            have hb5w : wP.heap.size ≤ b5 := Nat.le_trans hP.size hb5
            replace hmk := hmk.up hT
            replace hsl := hsl.ext (X' := [b5, bm]) hT (by simp) (fun b h => by simp at h; rcases h with rfl | rfl; exact .inr hb5; exact .inl (by simp))
            replace hkv := hkv.ext (X' := [b5, bm]) hT (by simp) (fun b h => by simp at h; rcases h with rfl | rfl; exact .inr hb5; exact .inl (by simp))
            replace hP := hP.trans (hT.mono (by simp))
            replace e2 := e2.ext hT (by simp; try exact n2)
            replace hw := hw.ext hT (by simp) (fun _ h => .inl h)
            clear hT hb5
            refine D ?_
            refine WD_late0 rfl trivial (OE_storeA (us := rlC ⟨names4[q1], 739600 + (q2 : Int), kinds7[q3], nil4, nil4, [], []⟩ nilS nilS) rfl rfl rfl rfl (rlC_one _ (nilSlv [] wq) (nilSlv [] wq)) e5 rfl) rfl ?_
            rintro _ wz ⟨hZ, e5z⟩
            refine D ?_
            refine WQ_cut (b5, names4[q1], (q2 : Int), kinds7[q3]) ⟨rfl, rfl, rfl, rfl, trivial⟩ ⟨hmk.ext hZ (by simp; exact n5.symm), hsl.ext hZ (by simp) (fun _ h => .inl h), hkv.ext hZ (by simp) (fun _ h => .inl h), ⟨_, rfl, e2.ext hZ (by simp; exact n52.symm)⟩, e5z, List.getElem_mem _, by simp only; omega, List.getElem_mem _, n5, n52, hb5w, hP.own hZ (fun b hb => .inr (by simp at hb; omega))⟩
          · refine WD1_eff rfl trivial OE_alloc (fun _ _ h => h.choose_spec.2.2.2.mono (by simp)) rfl ?_
            rintro _ wq ⟨b5, rfl, hb5, e5, hT⟩
            have n5 : b5 ≠ bm := by have := hmk.lt; omega
            have n52 : b5 ≠ b2 := by have := e2.lt; omega
            have hb5w : wP.heap.size ≤ b5 := Nat.le_trans hP.size hb5
            replace hmk := hmk.up hT
            replace hsl := hsl.ext (X' := [b5, bm]) hT (by simp) (fun b h => by simp at h; rcases h with rfl | rfl; exact .inr hb5; exact .inl (by simp))
            replace hkv := hkv.ext (X' := [b5, bm]) hT (by simp) (fun b h => by simp at h; rcases h with rfl | rfl; exact .inr hb5; exact .inl (by simp))
            replace hP := hP.trans (hT.mono (by simp))
            replace e2 := e2.ext hT (by simp; try exact n2)
            replace hw := hw.ext hT (by simp) (fun _ h => .inl h)
            clear hT hb5
            refine D ?_
            refine WD_eff rfl trivial (OE_call rfl (evs2 rfl rfl) (Next_any bm (.slice p l.length c) l 2 7 _ (by decide) (by decide) hmk (hsl.wk (fun b h => by simp at h; simp [h])) hl)) (fun _ _ h => h.choose_spec.2.2.2.mono (by simp)) rfl ?_
            rintro _ wq ⟨q3, rfl, hq3, hmk, hT⟩
            replace hsl := hsl.ext hT (by simp) (fun _ h => .inl h)
            replace hkv := hkv.ext hT (by simp) (fun _ h => .inl h)
            replace hP := hP.trans (hT.mono (by simp))
            replace e2 := e2.ext hT (by simp; try exact n2)
            replace hw := hw.ext hT (by simp) (fun _ h => .inl h)
            replace e5 := e5.ext hT (by simp; try exact n5)
            clear hT
            have hq3n : q3 < kinds7.length := by show q3 < 7; omega
            refine D ?_
            try (refine WF_build rfl trivial (vs := [(0, str names4[q1]), (1, .int .i64 (739600 + (q2 : Int))), (2, str kinds7[q3])]) rfl (buildRl _ _ _) rfl ?_)
            refine D ?_
            refine WD_late0 rfl trivial (OE_storeA (us := rlC ⟨names4[q1], 739600 + (q2 : Int), kinds7[q3], nil4, nil4, [], []⟩ nilS nilS) rfl rfl rfl rfl (rlC_one _ (nilSlv [] wq) (nilSlv [] wq)) e5 rfl) rfl ?_
            rintro _ wz ⟨hZ, e5z⟩
            refine D ?_
            refine WQ_cut (b5, names4[q1], (q2 : Int), kinds7[q3]) ⟨rfl, rfl, rfl, rfl, trivial⟩ ⟨hmk.ext hZ (by simp; exact n5.symm), hsl.ext hZ (by simp) (fun _ h => .inl h), hkv.ext hZ (by simp) (fun _ h => .inl h), ⟨_, rfl, e2.ext hZ (by simp; exact n52.symm)⟩, e5z, List.getElem_mem _, by simp only; omega, List.getElem_mem _, n5, n52, hb5w, hP.own hZ (fun b hb => .inr (by simp at hb; omega))⟩
        · refine WD1_eff rfl trivial OE_alloc (fun _ _ h => h.choose_spec.2.2.2.mono (by simp)) rfl ?_
          rintro _ wq ⟨b5, rfl, hb5, e5, hT⟩
          have n5 : b5 ≠ bm := by have := hmk.lt; omega
          have n52 : b5 ≠ b2 := by have := e2.lt; omega
          have hb5w : wP.heap.size ≤ b5 := Nat.le_trans hP.size hb5
          replace hmk := hmk.up hT
          replace hsl := hsl.ext (X' := [b5, bm]) hT (by simp) (fun b h => by simp at h; rcases h with rfl | rfl; exact .inr hb5; exact .inl (by simp))
          replace hkv := hkv.ext (X' := [b5, bm]) hT (by simp) (fun b h => by simp at h; rcases h with rfl | rfl; exact .inr hb5; exact .inl (by simp))
          replace hP := hP.trans (hT.mono (by simp))
          replace e2 := e2.ext hT (by simp; try exact n2)
          replace hw := hw.ext hT (by simp) (fun _ h => .inl h)
          clear hT hb5
          refine D ?_
          refine WD_eff rfl trivial (OE_call rfl (evs2 rfl rfl) (Next_any bm (.slice p l.length c) l 1 30 _ (by decide) (by decide) hmk (hsl.wk (fun b h => by simp at h; simp [h])) hl)) (fun _ _ h => h.choose_spec.2.2.2.mono (by simp)) rfl ?_
          rintro _ wq ⟨q2, rfl, hq2, hmk, hT⟩
          replace hsl := hsl.ext hT (by simp) (fun _ h => .inl h)
          replace hkv := hkv.ext hT (by simp) (fun _ h => .inl h)
          replace hP := hP.trans (hT.mono (by simp))
          replace e2 := e2.ext hT (by simp; try exact n2)
          replace hw := hw.ext hT (by simp) (fun _ h => .inl h)
          replace e5 := e5.ext hT (by simp; try exact n5)
          clear hT
          refine D ?_
          refine WD_eff rfl trivial (OE_call rfl (evs2 rfl rfl) (Next_any bm (.slice p l.length c) l 2 7 _ (by decide) (by decide) hmk (hsl.wk (fun b h => by simp at h; simp [h])) hl)) (fun _ _ h => h.choose_spec.2.2.2.mono (by simp)) rfl ?_
          rintro _ wq ⟨q3, rfl, hq3, hmk, hT⟩
          replace hsl := hsl.ext hT (by simp) (fun _ h => .inl h)
          replace hkv := hkv.ext hT (by simp) (fun _ h => .inl h)
          replace hP := hP.trans (hT.mono (by simp))
          replace e2 := e2.ext hT (by simp; try exact n2)
          replace hw := hw.ext hT (by simp) (fun _ h => .inl h)
          replace e5 := e5.ext hT (by simp; try exact n5)
          clear hT
          have hq3n : q3 < kinds7.length := by show q3 < 7; omega
          refine D ?_
          try (refine WF_build rfl trivial (vs := [(0, str names4[q1]), (1, .int .i64 (739600 + (q2 : Int))), (2, str kinds7[q3])]) rfl (buildRl _ _ _) rfl ?_)
          refine D ?_
          refine WD_late0 rfl trivial (OE_storeA (us := rlC ⟨names4[q1], 739600 + (q2 : Int), kinds7[q3], nil4, nil4, [], []⟩ nilS nilS) rfl rfl rfl rfl (rlC_one _ (nilSlv [] wq) (nilSlv [] wq)) e5 rfl) rfl ?_
          rintro _ wz ⟨hZ, e5z⟩
          refine D ?_
          refine WQ_cut (b5, names4[q1], (q2 : Int), kinds7[q3]) ⟨rfl, rfl, rfl, rfl, trivial⟩ ⟨hmk.ext hZ (by simp; exact n5.symm), hsl.ext hZ (by simp) (fun _ h => .inl h), hkv.ext hZ (by simp) (fun _ h => .inl h), ⟨_, rfl, e2.ext hZ (by simp; exact n52.symm)⟩, e5z, List.getElem_mem _, by simp only; omega, List.getElem_mem _, n5, n52, hb5w, hP.own hZ (fun b hb => .inr (by simp at hb; omega))⟩
      · refine WD1_eff rfl trivial OE_alloc (fun _ _ h => h.choose_spec.2.2.2.mono (by simp)) rfl ?_
        rintro _ wq ⟨b5, rfl, hb5, e5, hT⟩
        have n5 : b5 ≠ bm := by have := hmk.lt; omega
        have n52 : b5 ≠ b2 := by have := e2.lt; omega
        have hb5w : wP.heap.size ≤ b5 := Nat.le_trans hP.size hb5
        replace hmk := hmk.up hT
        replace hsl := hsl.ext (X' := [b5, bm]) hT (by simp) (fun b h => by simp at h; rcases h with rfl | rfl; exact .inr hb5; exact .inl (by simp))
        replace hkv := hkv.ext (X' := [b5, bm]) hT (by simp) (fun b h => by simp at h; rcases h with rfl | rfl; exact .inr hb5; exact .inl (by simp))
        replace hP := hP.trans (hT.mono (by simp))
        replace e2 := e2.ext hT (by simp; try exact n2)
        replace hw := hw.ext hT (by simp) (fun _ h => .inl h)
        clear hT hb5
        refine D ?_
        refine WD_eff rfl trivial (OE_call rfl (evs2 rfl rfl) (Next_any bm (.slice p l.length c) l 0 4 _ (by decide) (by decide) hmk (hsl.wk (fun b h => by simp at h; simp [h])) hl)) (fun _ _ h => h.choose_spec.2.2.2.mono (by simp)) rfl ?_
        rintro _ wq ⟨q1, rfl, hq1, hmk, hT⟩
        replace hsl := hsl.ext hT (by simp) (fun _ h => .inl h)
        replace hkv := hkv.ext hT (by simp) (fun _ h => .inl h)
        replace hP := hP.trans (hT.mono (by simp))
        replace e2 := e2.ext hT (by simp; try exact n2)
        replace hw := hw.ext hT (by simp) (fun _ h => .inl h)
        replace e5 := e5.ext hT (by simp; try exact n5)
        clear hT
        have hq1n : q1 < names4.length := by show q1 < 4; omega
        refine D ?_
        refine WD_eff rfl trivial (OE_call rfl (evs2 rfl rfl) (Next_any bm (.slice p l.length c) l 1 30 _ (by decide) (by decide) hmk (hsl.wk (fun b h => by simp at h; simp [h])) hl)) (fun _ _ h => h.choose_spec.2.2.2.mono (by simp)) rfl ?_
        rintro _ wq ⟨q2, rfl, hq2, hmk, hT⟩
        replace hsl := hsl.ext hT (by simp) (fun _ h => .inl h)
        replace hkv := hkv.ext hT (by simp) (fun _ h => .inl h)
        replace hP := hP.trans (hT.mono (by simp))
        replace e2 := e2.ext hT (by simp; try exact n2)
        replace hw := hw.ext hT (by simp) (fun _ h => .inl h)
        replace e5 := e5.ext hT (by simp; try exact n5)
        clear hT
        refine D ?_
        refine WD_eff rfl trivial (OE_call rfl (evs2 rfl rfl) (Next_any bm (.slice p l.length c) l 2 7 _ (by decide) (by decide) hmk (hsl.wk (fun b h => by simp at h; simp [h])) hl)) (fun _ _ h => h.choose_spec.2.2.2.mono (by simp)) rfl ?_
        rintro _ wq ⟨q3, rfl, hq3, hmk, hT⟩
        replace hsl := hsl.ext hT (by simp) (fun _ h => .inl h)
        replace hkv := hkv.ext hT (by simp) (fun _ h => .inl h)
        replace hP := hP.trans (hT.mono (by simp))
        replace e2 := e2.ext hT (by simp; try exact n2)
        replace hw := hw.ext hT (by simp) (fun _ h => .inl h)
        replace e5 := e5.ext hT (by simp; try exact n5)
        clear hT
        have hq3n : q3 < kinds7.length := by show q3 < 7; omega
        refine D ?_
        try (refine WF_build rfl trivial (vs := [(0, str names4[q1]), (1, .int .i64 (739600 + (q2 : Int))), (2, str kinds7[q3])]) rfl (buildRl _ _ _) rfl ?_)
        refine D ?_
        refine WD_late0 rfl trivial (OE_storeA (us := rlC ⟨names4[q1], 739600 + (q2 : Int), kinds7[q3], nil4, nil4, [], []⟩ nilS nilS) rfl rfl rfl rfl (rlC_one _ (nilSlv [] wq) (nilSlv [] wq)) e5 rfl) rfl ?_
        rintro _ wz ⟨hZ, e5z⟩
        refine D ?_
        refine WQ_cut (b5, names4[q1], (q2 : Int), kinds7[q3]) ⟨rfl, rfl, rfl, rfl, trivial⟩ ⟨hmk.ext hZ (by simp; exact n5.symm), hsl.ext hZ (by simp) (fun _ h => .inl h), hkv.ext hZ (by simp) (fun _ h => .inl h), ⟨_, rfl, e2.ext hZ (by simp; exact n52.symm)⟩, e5z, List.getElem_mem _, by simp only; omega, List.getElem_mem _, n5, n52, hb5w, hP.own hZ (fun b hb => .inr (by simp at hb; omega))⟩
    · refine WD1_eff rfl trivial OE_alloc (fun _ _ h => h.choose_spec.2.2.2.mono (by simp)) rfl ?_
      rintro _ wq ⟨b5, rfl, hb5, e5, hT⟩
      have n5 : b5 ≠ bm := by have := hmk.lt; omega
      have n52 : b5 ≠ b2 := by have := e2.lt; omega
      have hb5w : wP.heap.size ≤ b5 := Nat.le_trans hP.size hb5
      replace hmk := hmk.up hT
      replace hsl := hsl.ext (X' := [b5, bm]) hT (by simp) (fun b h => by simp at h; rcases h with rfl | rfl; exact .inr hb5; exact .inl (by simp))
      replace hkv := hkv.ext (X' := [b5, bm]) hT (by simp) (fun b h => by simp at h; rcases h with rfl | rfl; exact .inr hb5; exact .inl (by simp))
      replace hP := hP.trans (hT.mono (by simp))
      replace e2 := e2.ext hT (by simp; try exact n2)
      clear hT hb5
      refine D ?_
      refine WD_eff rfl trivial (OE_call rfl (evs1 rfl) (words_any [bm] [97, 32, 98, 32, 99, 49, 48, 32, 97, 110, 115, 119, 101, 114] _ (fun b h => by simp at h; rw [h]; exact hmk.lt) (by decide))) (fun _ _ h => h.2.mono (by simp)) rfl ?_
      rintro wv wq ⟨hrw, hT⟩
      rw [show wordsOf [97, 32, 98, 32, 99, 49, 48, 32, 97, 110, 115, 119, 101, 114] = names4 by decide +kernel] at hrw
      have hw := hrw.slv (X := [bm]) (fun b h => by simp at h; rw [h]; exact hmk.lt)
      replace hmk := hmk.up hT
      replace hsl := hsl.ext hT (by simp) (fun _ h => .inl h)
      replace hkv := hkv.ext hT (by simp) (fun _ h => .inl h)
      replace hP := hP.trans (hT.mono (by simp))
      replace e2 := e2.ext hT (by simp; try exact n2)
      replace e5 := e5.ext hT (by simp; try exact n5)
      clear hT hrw
      refine D ?_
      refine WD_eff rfl trivial (OE_call rfl (evs2 rfl rfl) (Next_any bm (.slice p l.length c) l 0 4 _ (by decide) (by decide) hmk (hsl.wk (fun b h => by simp at h; simp [h])) hl)) (fun _ _ h => h.choose_spec.2.2.2.mono (by simp)) rfl ?_
      rintro _ wq ⟨q1, rfl, hq1, hmk, hT⟩
      replace hsl := hsl.ext hT (by simp) (fun _ h => .inl h)
      replace hkv := hkv.ext hT (by simp) (fun _ h => .inl h)
      replace hP := hP.trans (hT.mono (by simp))
      replace e2 := e2.ext hT (by simp; try exact n2)
      replace hw := hw.ext hT (by simp) (fun _ h => .inl h)
      replace e5 := e5.ext hT (by simp; try exact n5)
      clear hT
      have hq1n : q1 < names4.length := by show q1 < 4; omega
      refine D ?_
      refine WD_eff rfl trivial (OE_call rfl (evs2 rfl rfl) (Next_any bm (.slice p l.length c) l 1 30 _ (by decide) (by decide) hmk (hsl.wk (fun b h => by simp at h; simp [h])) hl)) (fun _ _ h => h.choose_spec.2.2.2.mono (by simp)) rfl ?_
      rintro _ wq ⟨q2, rfl, hq2, hmk, hT⟩
      replace hsl := hsl.ext hT (by simp) (fun _ h => .inl h)
      replace hkv := hkv.ext hT (by simp) (fun _ h => .inl h)
      replace hP := hP.trans (hT.mono (by simp))
      replace e2 := e2.ext hT (by simp; try exact n2)
      replace hw := hw.ext hT (by simp) (fun _ h => .inl h)
      replace e5 := e5.ext hT (by simp; try exact n5)
      clear hT
      refine D ?_
      refine WD_eff rfl trivial (OE_call rfl (evs2 rfl rfl) (Next_any bm (.slice p l.length c) l 2 7 _ (by decide) (by decide) hmk (hsl.wk (fun b h => by simp at h; simp [h])) hl)) (fun _ _ h => h.choose_spec.2.2.2.mono (by simp)) rfl ?_
      rintro _ wq ⟨q3, rfl, hq3, hmk, hT⟩
      replace hsl := hsl.ext hT (by simp) (fun _ h => .inl h)
      replace hkv := hkv.ext hT (by simp) (fun _ h => .inl h)
      replace hP := hP.trans (hT.mono (by simp))
      replace e2 := e2.ext hT (by simp; try exact n2)
      replace hw := hw.ext hT (by simp) (fun _ h => .inl h)
      replace e5 := e5.ext hT (by simp; try exact n5)
      clear hT
      have hq3n : q3 < kinds7.length := by show q3 < 7; omega
      refine D ?_
      try (refine WF_build rfl trivial (vs := [(0, str names4[q1]), (1, .int .i64 (739600 + (q2 : Int))), (2, str kinds7[q3])]) rfl (buildRl _ _ _) rfl ?_)
      refine D ?_
      refine WD_late0 rfl trivial (OE_storeA (us := rlC ⟨names4[q1], 739600 + (q2 : Int), kinds7[q3], nil4, nil4, [], []⟩ nilS nilS) rfl rfl rfl rfl (rlC_one _ (nilSlv [] wq) (nilSlv [] wq)) e5 rfl) rfl ?_
      rintro _ wz ⟨hZ, e5z⟩
      refine D ?_
      refine WQ_cut (b5, names4[q1], (q2 : Int), kinds7[q3]) ⟨rfl, rfl, rfl, rfl, trivial⟩ ⟨hmk.ext hZ (by simp; exact n5.symm), hsl.ext hZ (by simp) (fun _ h => .inl h), hkv.ext hZ (by simp) (fun _ h => .inl h), ⟨_, rfl, e2.ext hZ (by simp; exact n52.symm)⟩, e5z, List.getElem_mem _, by simp only; omega, List.getElem_mem _, n5, n52, hb5w, hP.own hZ (fun b hb => .inr (by simp at hb; omega))⟩
  clear hmk hsl hkv e2
  rintro ⟨b5, a, f, o⟩ w3 ⟨hmk, hsl, hkv, ⟨cs2, hl2, e2⟩, e5, ha, hf, ho, n5, n52, hb5w, hP⟩
  dsimp only at hmk hsl hkv e2 e5 ha hf ho n5 n52 hb5w hP
  have z3 : szD 3 = 13 := by decide
  have z4 : szD 4 = 40 := by decide
  refine W ?_
  refine WL_eff (OE_call rfl (evs2 rfl rfl) (Next_any bm (.slice p l.length c) l 3 3 _ (by decide) (by omega) hmk (hsl.wk (fun b h => by simp at h; simp [h])) hl)) rfl ?_
  rintro _ w4 ⟨q, rfl, hq, hmk, hT⟩
  replace hsl := hsl.ext hT (by simp) (fun _ h => .inl h)
  replace hkv := hkv.ext hT (by simp) (fun _ h => .inl h)
  replace hP := hP.trans hT
  replace e2 := e2.ext hT (by simp; exact n2)
  replace e5 := e5.ext hT (by simp; exact n5)
  clear hT
  refine W ?_
  refine WC_cutQ (σ := Str × Nat) (fun _ => [(2, .pointer (some ⟨b2, 0, none⟩)), (3, .pointer (some ⟨bm, 0, none⟩)), (4, kv), (5, .pointer (some ⟨b5, 0, none⟩))])
    (fun q w' => Mk w' bm (.slice p l.length c) q.2 ∧ q.2 ≤ 5 ∧ SlV [b5, bm] w' (.slice p l.length c) l ∧ SlV [b5, bm] w' kv kinds7 ∧ Blk w' b2 51 cs2 ∧ Blk w' b5 51 (rlC ⟨a, 739600 + f, o, nil4, nil4, q.1, []⟩ nilS nilS) ∧ (q.1 = [] ∨ q.1 ∈ kinds7) ∧ Stp [bm] wP w') ?_ ?_
  · repeat' (first | refine W1 ?_ | (exfalso; omega) | refine WL_split rfl rfl (fun hg => ?_) (fun hg => ?_) | refine WL_splitB rfl rfl (fun hg => ?_) (fun hg => ?_) | refine WC_cond rfl (fun hc => ?_) (fun hc => ?_) | refine WC_condB rfl (fun hc => ?_) (fun hc => ?_))
    · refine WL_eff (OE_call rfl (evs2 rfl rfl) (Next_any bm (.slice p l.length c) l _ 7 _ (by decide) (by omega) hmk (hsl.wk (fun b h => by simp at h; simp [h])) hl)) rfl ?_
      rintro _ w4 ⟨z, rfl, hz, hmk, hT⟩
      replace hsl := hsl.ext hT (by simp) (fun _ h => .inl h)
      replace hkv := hkv.ext hT (by simp) (fun _ h => .inl h)
      replace hP := hP.trans hT
      replace e2 := e2.ext hT (by simp; exact n2)
      replace e5 := e5.ext hT (by simp; exact n5)
      clear hT
      have hqn : z < kinds7.length := by show z < 7; omega
      refine W ?_
      refine WL_eff0 (OE_store1 (u := str kinds7[z]) rfl rfl rfl rfl e5 (by simp)) ?_
      rintro _ w6 ⟨hT, e5⟩
      replace hmk := hmk.ext hT (by simp; exact n5.symm)
      replace hsl := hsl.ext hT (by simp) (fun _ h => .inl h)
      replace hkv := hkv.ext hT (by simp) (fun _ h => .inl h)
      replace hP := hP.own hT (fun b hb => .inr (by simp at hb; omega))
      replace e2 := e2.ext hT (by simp; exact n52.symm)
      clear hT
      refine W ?_
      exact WQ_cut (kinds7[z], _) ⟨rfl, rfl, rfl, rfl, trivial⟩ ⟨hmk, by simp only; omega, hsl, hkv, e2, e5, .inr (List.getElem_mem _), hP⟩
    · exact WQ_cut ([], _) ⟨rfl, rfl, rfl, rfl, trivial⟩ ⟨hmk, by simp only; omega, hsl, hkv, e2, e5, .inl rfl, hP⟩
  clear hmk hsl hkv e2 e5 hP
  rintro ⟨u, iu⟩ w3 ⟨hmk, hiu, hsl, hkv, e2, e5, hu, hP⟩
  dsimp only at hmk hiu hsl hkv e2 e5 hu hP
  refine W ?_
  refine WL_eff (OE_call rfl (evs2 rfl rfl) (Next_any bm (.slice p l.length c) l _ 3 _ (by decide) (by omega) hmk (hsl.wk (fun b h => by simp at h; simp [h])) hl)) rfl ?_
  rintro _ w4 ⟨q, rfl, hq, hmk, hT⟩
  replace hsl := hsl.ext hT (by simp) (fun _ h => .inl h)
  replace hkv := hkv.ext hT (by simp) (fun _ h => .inl h)
  replace hP := hP.trans hT
  replace e2 := e2.ext hT (by simp; exact n2)
  replace e5 := e5.ext hT (by simp; exact n5)
  clear hT
  refine W ?_
  refine WC_cutQ (σ := Str × Nat) (fun _ => [(2, .pointer (some ⟨b2, 0, none⟩)), (3, .pointer (some ⟨bm, 0, none⟩)), (4, kv), (5, .pointer (some ⟨b5, 0, none⟩))])
    (fun q w' => Mk w' bm (.slice p l.length c) q.2 ∧ q.2 ≤ 7 ∧ SlV [b5, bm] w' (.slice p l.length c) l ∧ SlV [b5, bm] w' kv kinds7 ∧ Blk w' b2 51 cs2 ∧ Blk w' b5 51 (rlC ⟨a, 739600 + f, o, nil4, nil4, u, q.1⟩ nilS nilS) ∧ (q.1 = [] ∨ q.1 ∈ kinds7) ∧ Stp [bm] wP w') ?_ ?_
  · repeat' (first | refine W1 ?_ | (exfalso; omega) | refine WL_split rfl rfl (fun hg => ?_) (fun hg => ?_) | refine WL_splitB rfl rfl (fun hg => ?_) (fun hg => ?_) | refine WC_cond rfl (fun hc => ?_) (fun hc => ?_) | refine WC_condB rfl (fun hc => ?_) (fun hc => ?_))
    · refine WL_eff (OE_call rfl (evs2 rfl rfl) (Next_any bm (.slice p l.length c) l _ 7 _ (by decide) (by omega) hmk (hsl.wk (fun b h => by simp at h; simp [h])) hl)) rfl ?_
      rintro _ w4 ⟨z, rfl, hz, hmk, hT⟩
      replace hsl := hsl.ext hT (by simp) (fun _ h => .inl h)
      replace hkv := hkv.ext hT (by simp) (fun _ h => .inl h)
      replace hP := hP.trans hT
      replace e2 := e2.ext hT (by simp; exact n2)
      replace e5 := e5.ext hT (by simp; exact n5)
      clear hT
      have hqn : z < kinds7.length := by show z < 7; omega
      refine W ?_
      refine WL_eff0 (OE_store1 (u := str kinds7[z]) rfl rfl rfl rfl e5 (by simp)) ?_
      rintro _ w6 ⟨hT, e5⟩
      replace hmk := hmk.ext hT (by simp; exact n5.symm)
      replace hsl := hsl.ext hT (by simp) (fun _ h => .inl h)
      replace hkv := hkv.ext hT (by simp) (fun _ h => .inl h)
      replace hP := hP.own hT (fun b hb => .inr (by simp at hb; omega))
      replace e2 := e2.ext hT (by simp; exact n52.symm)
      clear hT
      refine W ?_
      exact WQ_cut (kinds7[z], _) ⟨rfl, rfl, rfl, rfl, trivial⟩ ⟨hmk, by simp only; omega, hsl, hkv, e2, e5, .inr (List.getElem_mem _), hP⟩
    · exact WQ_cut ([], _) ⟨rfl, rfl, rfl, rfl, trivial⟩ ⟨hmk, by simp only; omega, hsl, hkv, e2, e5, .inl rfl, hP⟩
  clear hmk hsl hkv e2 e5 hP
  rintro ⟨v, iv⟩ w3 ⟨hmk, hiv, hsl, hkv, e2, e5, hv, hP⟩
  dsimp only at hmk hiv hsl hkv e2 e5 hv hP
  refine W ?_
  have hX3 : ∀ b ∈ b5 :: b2 :: bm :: X, b < w3.heap.size := fun b hb => by
    have h1 := e5.lt; have h2 := e2.lt; have h3 := hmk.lt; have h4 := hS.size; have h5 := hP.size
    simp only [List.mem_cons] at hb
    rcases hb with rfl | rfl | rfl | h
    · omega
    · omega
    · omega
    · have := hX b h; omega
  refine WL_eff (OE_call rfl (evs2 rfl rfl) ((gens 3 (by decide) (by decide)).2.1 (b5 :: b2 :: bm :: X) _ bm _ l _ _ rfl hmk (hsl.wk (fun b h => by simp at h; simp [h])) hl (by rw [z3]; omega) hX3)) rfl ?_
  clear hX3
  rintro _ w3 ⟨y, iy, ⟨ky, rfl, hy⟩, hsy, ⟨hty, hny⟩, hmk, hiy, hT⟩
  replace hsl := hsl.ext hT (by simp) (fun _ h => .inl h)
  replace hkv := hkv.ext hT (by simp) (fun _ h => .inl h)
  replace hP := hP.trans hT
  replace e2 := e2.ext hT (by simp; exact n2)
  replace e5 := e5.ext hT (by simp; exact n5)
  clear hT
  refine W ?_
  refine WL_eff0 (OE_store (us := ndC y ky) rfl rfl rfl rfl (ndC_one hy) e5 (by simp)) ?_
  rintro _ w3 ⟨hT, e5⟩
  replace e5 : Blk w3 b5 51 (rlC ⟨a, 739600 + f, o, y, nil4, u, v⟩ ky nilS) := e5
  replace hy := hy.ext hT (by simp) (fun _ h => .inl h)
  replace hmk := hmk.ext hT (by simp; exact n5.symm)
  replace hsl := hsl.ext hT (by simp) (fun _ h => .inl h)
  replace hkv := hkv.ext hT (by simp) (fun _ h => .inl h)
  replace hP := hP.own hT (fun b hb => .inr (by simp at hb; omega))
  replace e2 := e2.ext hT (by simp; exact n52.symm)
  clear hT
  refine W ?_
  have hX3 : ∀ b ∈ b5 :: b2 :: bm :: X, b < w3.heap.size := fun b hb => by
    have h1 := e5.lt; have h2 := e2.lt; have h3 := hmk.lt; have h4 := hS.size; have h5 := hP.size
    simp only [List.mem_cons] at hb
    rcases hb with rfl | rfl | rfl | h
    · omega
    · omega
    · omega
    · have := hX b h; omega
  refine WL_eff (OE_call rfl (evs2 rfl rfl) ((gens 4 (by decide) (by decide)).2.2 (b5 :: b2 :: bm :: X) _ bm _ l _ _ rfl hmk (hsl.wk (fun b h => by simp at h; simp [h])) hl (by rw [z4]; omega) hX3)) rfl ?_
  clear hX3
  rintro _ w3 ⟨x, ix, ⟨kx, rfl, hx⟩, hsx, ⟨htx, hnx⟩, hmk, hix, hT⟩
  replace hy := hy.ext hT (by simp) (fun _ h => .inl h)
  replace hsl := hsl.ext hT (by simp) (fun _ h => .inl h)
  replace hkv := hkv.ext hT (by simp) (fun _ h => .inl h)
  replace hP := hP.trans hT
  replace e2 := e2.ext hT (by simp; exact n2)
  replace e5 := e5.ext hT (by simp; exact n5)
  clear hT
  refine W ?_
  refine WL_eff0 (OE_store (us := ndC x kx) rfl rfl rfl rfl (ndC_one hx) e5 (by simp)) ?_
  rintro _ w3 ⟨hT, e5⟩
  replace e5 : Blk w3 b5 51 (rlC ⟨a, 739600 + f, o, y, x, u, v⟩ ky kx) := e5
  replace hy := hy.ext hT (by simp) (fun _ h => .inl h)
  replace hx := hx.ext hT (by simp) (fun _ h => .inl h)
  replace hmk := hmk.ext hT (by simp; exact n5.symm)
  replace hsl := hsl.ext hT (by simp) (fun _ h => .inl h)
  replace hkv := hkv.ext hT (by simp) (fun _ h => .inl h)
  replace hP := hP.own hT (fun b hb => .inr (by simp at hb; omega))
  replace e2 := e2.ext hT (by simp; exact n52.symm)
  clear hT
  refine W ?_
  try (apply WL_pure (PR_loadN_blk (us := rlC ⟨a, 739600 + f, o, y, x, u, v⟩ ky kx) rfl rfl e5 rfl rfl) rfl)
  try refine W ?_
  refine WL_eff0 (OE_storeA (us := rlC ⟨a, 739600 + f, o, y, x, u, v⟩ ky kx) rfl rfl rfl rfl (rlC_one ⟨a, 739600 + f, o, y, x, u, v⟩ hy hx) e2 (by rw [hl2]; rfl)) ?_
  rintro _ w4 ⟨hT, e2⟩
  refine W ?_
  refine WQ_retc rfl rfl rfl e2 rfl ?_
  refine .mk ⟨⟨a, 739600 + f, o, y, x, u, v⟩, ⟨ky, kx, rfl, (hy.ext hT (by simp) (fun _ h => .inl h)).wk (fun b h => by simp [h]), (hx.ext hT (by simp) (fun _ h => .inl h)).wk (fun b h => by simp [h])⟩, by simp only; omega, by simp only; omega, check_ok ha ho hu hv hf hty hny htx hnx, ?_⟩
  exact (hS.own hP (fun b hb => .inr (by simp at hb; omega))).own hT (fun b hb => .inr (by simp at hb; omega))
end Go.Proofs.YtgpibcgebpgmiaaDoor

namespace Go.Proofs.YtgpibcgebpgmiaaDoor
open Go Go.Eng Go.RowKit
set_option linter.unusedVariables false

/-! ### compiled rules -/
structure Cr where
  name : Str
  frm : Int
  on : Str
  cnd : List Ins
  due : List Ins
  unl : Str
  els : Str
abbrev crC (q : Cr) (kc kd : Value) : List Value := [str q.name, .int .i64 q.frm, str q.on, kc, kd, str q.unl, str q.els]
def CrV (X : List Nat) (w : World) (v : Value) (q : Cr) : Prop := ∃ kc kd, v = .agg (crC q kc kd).toArray ∧ SlV X w kc q.cnd ∧ SlV X w kd q.due
theorem CrV.up {X : List Nat} {w w' : World} {v : Value} {q : Cr} (h : CrV X w v q) (hS : Stp [] w w') : CrV X w' v q := by
  obtain ⟨kc, kd, rfl, h1, h2⟩ := h
  exact ⟨kc, kd, rfl, h1.up hS, h2.up hS⟩
theorem crC_one {q : Cr} {X Y : List Nat} {w w' : World} {kc kd : Value} (h1 : SlV X w kc q.cnd) (h2 : SlV Y w' kd q.due) : ∀ c ∈ crC q kc kd, c.oneCell' = true := by
  intro c hc
  have e1 := h1.one
  have e2 := h2.one
  simp only [crC, List.mem_cons, List.not_mem_nil, or_false] at hc
  rcases hc with rfl | rfl | rfl | rfl | rfl | rfl | rfl <;> first | rfl | exact e1 | exact e2
/-- the error of a compiled rule -/
def ruleE (r : Rul) : Int := if checkT r ≠ 0 then checkT r else if errX r.cnd ≠ 0 then errX r.cnd else errX r.due
abbrev crZ : Cr := ⟨[], 0, [], [], [], [], []⟩
def crF (r : Rul) : Cr := if ruleE r = 0 then ⟨r.name, r.frm, r.on, exprF r.cnd, exprF r.due, r.unl, r.els⟩ else crZ
/-- what both 'Rule' give -/
def RuleR (w : World) (r : Rul) (v : Value) (w' : World) : Prop := ∃ cv, v = .tuple #[cv, .int .i64 (ruleE r)] ∧ (∀ X : List Nat, (∀ b ∈ X, b < w.heap.size) → CrV X w' cv (crF r)) ∧ Stp [] w w'
theorem buildCr0 (w : World) : (Instr.build 42 #[]).run Tryd.prog w = .ok (.agg (crC crZ nilS nilS).toArray) w := by kernel_rfl
theorem buildCr (q : Cr) (p1 p2 : Option Addr) (l1 c1 l2 c2 : Nat) (w : World) : (Instr.build 42 #[(0, str q.name), (1, .int .i64 q.frm), (2, str q.on), (3, .slice p1 l1 c1), (4, .slice p2 l2 c2), (5, str q.unl), (6, str q.els)]).run Tryd.prog w = .ok (.agg (crC q (.slice p1 l1 c1) (.slice p2 l2 c2)).toArray) w := by kernel_rfl
theorem Rule_any (v : Value) (r : Rul) (w : World) (hv : RulV [] w v r) (h1 : sizeN r.cnd ≤ 1000) (h2 : sizeN r.due ≤ 1000) (hF : SlV [] w flds fieldNames) (m : Int) (hm : w.cell? ⟨1, 0, none⟩ = some (.int .i64 m)) :
    Calls Tryd.prog 22 #[v] w (Ret (RuleR w r)) := by
  obtain ⟨ki, kd, rfl, hi, hd⟩ := hv
  have hn1 := nest_le_size r.cnd
  have hn2 := nest_le_size r.due
  refine calls_of_WC1 (n := 47) Tryd.func22 rfl rfl rfl ?_
  refine W ?_
  refine WL_eff (OE_box rfl) rfl ?_
  rintro _ w1 ⟨b, rfl, hb, hblk, hS⟩
  replace hblk : Blk w1 b _ (rlC r ki kd) := hblk
  refine W ?_
  refine WL_eff OE_alloc rfl ?_
  rintro _ w2 ⟨b2, rfl, hb2, e2, hT⟩
  have hb2w : w.heap.size ≤ b2 := Nat.le_trans hS.size hb2
  replace hblk := hblk.up hT
  replace hS := hS.trans hT
  clear hT hb hb2
  refine W ?_
  try (refine WL_pure (PR_load_blkA rfl rfl hblk rfl) rfl ?_)
  refine W ?_
  refine WL_eff (OE_call rfl (evs1 rfl) (Check14_any _ r m _ ⟨ki, kd, rfl, hi.up hS, hd.up hS⟩ (hF.up hS) (hS.cell (by simp) hm))) rfl ?_
  rintro _ w3 ⟨rfl, hT⟩
  replace hblk := hblk.up hT
  replace e2 := e2.up hT
  replace hS := hS.trans hT
  clear hT
  by_cases hck : checkT r = 0
  case neg =>
    have hE : ruleE r = checkT r := by unfold ruleE; rw [if_pos hck]
    have hC : crF r = crZ := by unfold crF; rw [hE, if_neg hck]
    repeat' (first | refine W1 ?_ | (exfalso; omega) | refine WL_split rfl rfl (fun hg => ?_) (fun hg => ?_) | refine WL_splitB rfl rfl (fun hg => ?_) (fun hg => ?_) | refine WC_cond rfl (fun hc => ?_) (fun hc => ?_) | refine WC_condB rfl (fun hc => ?_) (fun hc => ?_))
    apply WL_build (vs := []) rfl buildCr0 rfl
    refine W ?_
    refine WL_eff0 (OE_storeA (us := crC crZ nilS nilS) rfl rfl rfl rfl (crC_one (q := crZ) (nilSlv [] w) (nilSlv [] w)) e2 rfl) ?_
    rintro _ w9 ⟨hT, e2⟩
    refine W ?_
    refine WQ_retct rfl rfl rfl e2 rfl rfl ?_
    exact .mk ⟨_, by rw [hE] <;> rfl, fun X hX => ⟨nilS, nilS, by rw [hC], by rw [hC]; exact nilSlv X _, by rw [hC]; exact nilSlv X _⟩, hS.own hT (fun b hb => .inr (by simp at hb; omega))⟩
  repeat' (first | refine W1 ?_ | (exfalso; omega) | refine WL_split rfl rfl (fun hg => ?_) (fun hg => ?_) | refine WL_splitB rfl rfl (fun hg => ?_) (fun hg => ?_) | refine WC_cond rfl (fun hc => ?_) (fun hc => ?_) | refine WC_condB rfl (fun hc => ?_) (fun hc => ?_))
  apply WL_pure (PR_loadN_blk (us := ndC r.cnd ki) rfl rfl hblk rfl rfl) rfl
  refine W ?_
  refine WL_eff (OE_call rfl (evs1 rfl) (Expression_any _ r.cnd _ h1 ⟨ki, rfl, hi.up hS⟩ (hF.up hS))) rfl ?_
  rintro _ w4 ⟨va, rfl, ha, hT⟩
  replace ha := fun X (hX : ∀ b ∈ X, b < w.heap.size) => ha (b2 :: X) (fun b hb => by
    rcases List.mem_cons.1 hb with rfl | h
    · exact e2.lt
    · exact Nat.lt_of_lt_of_le (hX b h) hS.size)
  replace hblk := hblk.up hT
  replace e2 := e2.up hT
  replace hS := hS.trans hT
  clear hT
  refine W ?_
  by_cases hc1 : errX r.cnd = 0
  case neg =>
    have hE : ruleE r = errX r.cnd := by unfold ruleE; rw [if_neg (by simp [hck]), if_pos hc1]
    have hC : crF r = crZ := by unfold crF; rw [hE, if_neg hc1]
    repeat' (first | refine W1 ?_ | (exfalso; omega) | refine WL_split rfl rfl (fun hg => ?_) (fun hg => ?_) | refine WL_splitB rfl rfl (fun hg => ?_) (fun hg => ?_) | refine WC_cond rfl (fun hc => ?_) (fun hc => ?_) | refine WC_condB rfl (fun hc => ?_) (fun hc => ?_))
    apply WL_build (vs := []) rfl buildCr0 rfl
    refine W ?_
    refine WL_eff0 (OE_storeA (us := crC crZ nilS nilS) rfl rfl rfl rfl (crC_one (q := crZ) (nilSlv [] w) (nilSlv [] w)) e2 rfl) ?_
    rintro _ w9 ⟨hT, e2⟩
    refine W ?_
    refine WQ_retct rfl rfl rfl e2 rfl rfl ?_
    exact .mk ⟨_, by rw [hE] <;> rfl, fun X hX => ⟨nilS, nilS, by rw [hC], by rw [hC]; exact nilSlv X _, by rw [hC]; exact nilSlv X _⟩, hS.own hT (fun b hb => .inr (by simp at hb; omega))⟩
  rw [if_pos hc1] at ha
  repeat' (first | refine W1 ?_ | (exfalso; omega) | refine WL_split rfl rfl (fun hg => ?_) (fun hg => ?_) | refine WL_splitB rfl rfl (fun hg => ?_) (fun hg => ?_) | refine WC_cond rfl (fun hc => ?_) (fun hc => ?_) | refine WC_condB rfl (fun hc => ?_) (fun hc => ?_))
  apply WL_pure (PR_loadN_blk (us := ndC r.due kd) rfl rfl hblk rfl rfl) rfl
  refine W ?_
  refine WL_eff (OE_call rfl (evs1 rfl) (Expression_any _ r.due _ h2 ⟨kd, rfl, hd.up hS⟩ (hF.up hS))) rfl ?_
  rintro _ w5 ⟨vb, rfl, hb, hT⟩
  replace hb := fun X (hX : ∀ b ∈ X, b < w.heap.size) => hb (b2 :: X) (fun b hb => by
    rcases List.mem_cons.1 hb with rfl | h
    · exact e2.lt
    · exact Nat.lt_of_lt_of_le (hX b h) hS.size)
  replace ha := fun X hX => (ha X hX).up hT
  replace hblk := hblk.up hT
  replace e2 := e2.up hT
  replace hS := hS.trans hT
  clear hT
  refine W ?_
  have hE : ruleE r = errX r.due := by unfold ruleE; rw [if_neg (by simp [hck]), if_neg (by simp [hc1])]
  by_cases hc2 : errX r.due = 0
  case neg =>
    have hC : crF r = crZ := by unfold crF; rw [hE, if_neg hc2]
    repeat' (first | refine W1 ?_ | (exfalso; omega) | refine WL_split rfl rfl (fun hg => ?_) (fun hg => ?_) | refine WL_splitB rfl rfl (fun hg => ?_) (fun hg => ?_) | refine WC_cond rfl (fun hc => ?_) (fun hc => ?_) | refine WC_condB rfl (fun hc => ?_) (fun hc => ?_))
    apply WL_build (vs := []) rfl buildCr0 rfl
    refine W ?_
    refine WL_eff0 (OE_storeA (us := crC crZ nilS nilS) rfl rfl rfl rfl (crC_one (q := crZ) (nilSlv [] w) (nilSlv [] w)) e2 rfl) ?_
    rintro _ w9 ⟨hT, e2⟩
    refine W ?_
    refine WQ_retct rfl rfl rfl e2 rfl rfl ?_
    exact .mk ⟨_, by rw [hE] <;> rfl, fun X hX => ⟨nilS, nilS, by rw [hC], by rw [hC]; exact nilSlv X _, by rw [hC]; exact nilSlv X _⟩, hS.own hT (fun b hb => .inr (by simp at hb; omega))⟩
  rw [if_pos hc2] at hb
  have hC : crF r = ⟨r.name, r.frm, r.on, exprF r.cnd, exprF r.due, r.unl, r.els⟩ := by unfold crF; rw [hE, if_pos hc2]
  obtain ⟨p1, c1, rfl, -⟩ := id (ha [] (by simp))
  obtain ⟨p2, c2, rfl, -⟩ := id (hb [] (by simp))
  repeat' (first | refine W1 ?_ | (exfalso; omega) | refine WL_split rfl rfl (fun hg => ?_) (fun hg => ?_) | refine WL_splitB rfl rfl (fun hg => ?_) (fun hg => ?_) | refine WC_cond rfl (fun hc => ?_) (fun hc => ?_) | refine WC_condB rfl (fun hc => ?_) (fun hc => ?_))
  apply WL_build (vs := [(0, str r.name), (1, .int .i64 r.frm), (2, str r.on), (3, .slice p1 (exprF r.cnd).length c1), (4, .slice p2 (exprF r.due).length c2), (5, str r.unl), (6, str r.els)]) rfl (buildCr ⟨r.name, r.frm, r.on, exprF r.cnd, exprF r.due, r.unl, r.els⟩ _ _ _ _ _ _) rfl
  refine WL_eff0 (OE_storeA (us := crC ⟨r.name, r.frm, r.on, exprF r.cnd, exprF r.due, r.unl, r.els⟩ (.slice p1 (exprF r.cnd).length c1) (.slice p2 (exprF r.due).length c2)) rfl rfl rfl rfl (crC_one (q := ⟨r.name, r.frm, r.on, exprF r.cnd, exprF r.due, r.unl, r.els⟩) (ha [] (by simp)) (hb [] (by simp))) e2 rfl) ?_
  rintro _ w9 ⟨hT, e2⟩
  refine W ?_
  refine WQ_retct rfl rfl rfl e2 rfl rfl ?_
  exact .mk ⟨_, by rw [hE, hc2], fun X hX => by
    rw [hC]
    exact ⟨_, _, rfl, ((ha X hX).ext hT (by simp) (fun _ h => .inl h)).wk (fun b h => by simp [h]), ((hb X hX).ext hT (by simp) (fun _ h => .inl h)).wk (fun b h => by simp [h])⟩, hS.own hT (fun b hb => .inr (by simp at hb; omega))⟩
end Go.Proofs.YtgpibcgebpgmiaaDoor
