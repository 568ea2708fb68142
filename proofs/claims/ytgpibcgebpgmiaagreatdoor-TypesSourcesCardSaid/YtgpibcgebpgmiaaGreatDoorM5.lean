/-
Merged by program out of own texts: Eng18, Dat1, Dat2, Eng19, Eng20, Lex2, Lex3, Lex4, Lex5, Psr10, Shl2, Pri1, Pri2, Pri3, Pri4, Pri5, Psr11, Arg15, Arg16, Srt1, Use1.
-/
import Derived.Test.YtgpibcgebpgmiaaGreatDoorM4
import Derived.Laws.BitsAllLaws
import Derived.Laws.Bits64
import Derived.Lib.SlBytesRow
import Derived.Lib.AppendStr
import Derived.Laws.BytesArg
import Derived.Laws.Cover3
import Derived.Scope
import Derived.Laws.Runes
import Derived.Lib.IndexLaws
import Derived.Lib.AtoiAll
import Derived.WideLaws
import Derived.Shelf.Sort.Plain
import Derived.Shelf.Strings.Repeat
import Derived.Shelf.Slices.Turned
import Derived.Ground.Names2Prog
import Derived.Shelf.Slices.CompactI
import Derived.Shelf.Slices.SearchI
import Derived.Shelf.Slices.Cells
import Derived.Shelf.Slices.In.SortNone
import Derived.Ground.SlbCloneProg
import Derived.Shelf.Bytes.SlClone
import Derived.Lib.Builder
import Derived.Laws.Externs
import Derived.Test.YtgpibcgebpgmiaaGreatDoorRows
import Derived.Test.YtgpibcgebpgmiaaGreatDoorTie
import Derived.Test.YtgpibcgebpgmiaaGreatDoorCards

/-
The walk engine, part 18: numbers of other kinds: conversions, bits, shifts; strings out of bytes; append of a string to bytes.
-/
namespace Go.Eng
open Go Go.RowKit Go.Proofs
set_option linter.unusedVariables false
section
variable {P : Program} {n : Nat} {e : Env} {w : World} {d : Option Nat} {ty : TypeId} {pos : String} {af : Array Edge} {g : Option (Nat × Bool)}
theorem PR_conv {src dst : TypeId} {k k' : IntKind} {x : Operand} {a : Int} {D : TypeDesc} [hs : Und P src D] [hd : Und P dst (.int k)] (hx : ev e x = some (.int k' a)) :
    PR P n ⟨d, .convert src dst x, ty, pos, af, g⟩ e w (.int k (k.wrap a)) :=
  ⟨fun c ha => by
    have hk : P.intKind dst = k := by simp [Program.intKind, hd.h]
    have := run_convert_int (P := P) w src dst k' a (by rw [hs.h]; rfl) (by rw [hk]; exact hd.h)
    simp [execOp, ha.ev hx, this, hk]⟩
theorem PR_convTo {src dst : TypeId} {k k' : IntKind} {x : Operand} {a b : Int} {D : TypeDesc} [hs : Und P src D] [hd : Und P dst (.int k)] (hx : ev e x = some (.int k' a)) (hb : k.wrap a = b) :
    PR P n ⟨d, .convert src dst x, ty, pos, af, g⟩ e w (.int k b) := hb ▸ PR_conv hx
section
variable {x y : Operand} {t u : TypeId} {k : IntKind} {a b : Int}
end
/-- bytes as the cells of a string -/
theorem strCells_enc (s : Str) : Lib.strCells ⟨s.toArray⟩ = s.flatMap Flat.enc := by
  show s.map _ = _
  induction s with
  | nil => rfl
  | cons b s ih => rw [List.map_cons, ih, List.flatMap_cons]; rfl

theorem append_blockT {t tu T base : Nat} {i : TypeInfo} (ht : P.underlying t = some (.slice T)) (hu : P.underlying tu = some .string) (hi : P.info? T = some i) (hz : i.zero = some (.int .u8 0))
    (hsize : i.size = 1) (hby : i.bytes = 1) {v : Value} {m : Nat} {xs : List Value} (hown : w.ownsRow base T 1 v m xs) (s : ByteArray) (hlen : m + s.size ≤ 140737488355328) {v' : Value} {w' : World}
    (hr : (Builtin.append_ #[t, tu] ty #[v, .string s]).run P w = .ok v' w') : ∀ b ∈ ob v', b ∈ ob v ∨ w.heap.size ≤ b := by
  have hxl : xs.length = m := by simpa using hown.1
  rcases hown.2 with ⟨rfl, rfl⟩ | ⟨g, cap, cur, rfl, hbg, hg, hnc, hcm, hcs, htake⟩
  · by_cases hm : s.size = 0
    · have hf := Lib.run_firstCells_string (P := P) w 1 s
      rw [hm] at hf
      have : (Builtin.append_ #[t, tu] ty #[.slice none 0 0, .string s]).run P w = .ok (.slice none 0 0) w := by
        simp [Builtin.append_, run_underlying ht, run_underlying hu, sizeOf, typeInfo, hi, hsize, Builtin.lenOf, hm, hf]
      rw [this] at hr
      cases hr
      simp [ob]
    · have h := run_append_nil_string (P := P) w t tu ty T i (.int .u8 0) ht hu hi hz s (by omega) (by omega) (by rw [hby]; omega)
      rw [h] at hr
      cases hr
      simp [ob]
  · by_cases hroom : m + s.size ≤ cap
    · have hcs' : cur.size = cap := by simpa using hcs
      have h := Lib.run_append_room_string (P := P) w t tu ty T i ht hu hi hsize g m cap cur hg s hroom (by omega)
      rw [h] at hr
      cases hr
      simp [ob]
    · have holds : ∀ j u, xs[j]? = some u → w.cell? ((⟨g, 0, none⟩ : Addr).add j) = some u := hown.cells (g := g) rfl
      have h := Lib.run_append_grow_string (P := P) w t tu ty T i (.int .u8 0) ht hu hi hz ⟨g, 0, none⟩ m cap xs (by rw [hsize]; simpa using hxl) holds s (by omega) (by omega) (by rw [hby]; exact growslice_fits (by omega) (by omega))
      rw [h] at hr
      cases hr
      simp [ob]
/-- append of a string to a row of bytes -/
theorem OE_appendT {t tu T base : Nat} {X : List Nat} {x y : Operand} {v : Value} {xs : List UInt8} {s : Str} [ht : Und P t (.slice T)] [hu : Und P tu .string] [hk : Siz P T 1] [hb : Byt P T 1] [hz : Zer P T (.int .u8 0)]
    (hx : ev e x = some v) (hy : ev e y = some (str s)) (hrow : Row X w base T v xs) (hlen : xs.length + s.length ≤ 140737488355328) (hbase : base ≤ w.heap.size) :
    OE P n ⟨d, .call { callee := .builtin .append, args := #[x, y], argTypes := #[t, tu] }, ty, pos, af, g⟩ e w (fun v' w' => Row X w' base T v' (xs ++ s) ∧ Stp (ob v) w w' ∧ ∀ b ∈ ob v', b ∈ ob v ∨ w.heap.size ≤ b) := by
  obtain ⟨i, hi, hi1, hi2, hi3⟩ : ∃ i, P.info? T = some i ∧ i.size = 1 ∧ i.bytes = 1 ∧ i.zero = some (.int .u8 0) := by
    have a1 := hk.h
    have a2 := hb.h
    have a3 := hz.h
    cases hi : P.info? T with
    | none => simp [hi] at a1
    | some i => exact ⟨i, rfl, by simpa [hi] using a1, by simpa [hi] using a2, by simpa [hi] using a3⟩
  obtain ⟨css, hl, hr, ho⟩ := hrow
  have hcss : css = xs.map Flat.enc := by
    apply List.ext_getElem (by simp [hl])
    intro i h1 h2
    have : css[i] = Flat.enc xs[i] := hr i (by omega) h1
    simpa using this
  subst hcss
  have hsz : (⟨s.toArray⟩ : ByteArray).size = s.length := str_size s
  obtain ⟨v', w', hrun, h1, h2, h3⟩ := Lib.run_append_own_string (P := P) w base t tu ty T i ht.h hu.h hi hi3 hi1 hi2 v xs.length _ ho ⟨s.toArray⟩ (by rw [hsz]; unfold maxLen; omega) (by rw [hsz]; omega) hbase
  rw [hsz, strCells_enc] at h1
  have hblk := append_blockT (P := P) ht.h hu.h hi hi3 hi1 hi2 ho ⟨s.toArray⟩ (by rw [hsz]; exact hlen) hrun
  have hS : Stp (ob v) w w' := by rw [← ob_own]; exact Stp.of_grown h2
  refine OE_value (v := v') (w' := w') (fun a ha => ?_) ⟨⟨(xs ++ s).map Flat.enc, by simp, fun i hi hi' => (List.getElem_map _ : ((xs ++ s).map Flat.enc)[i] = Flat.enc (xs ++ s)[i]), ?_⟩, hS, hblk⟩
  · simp [execOp, resolve, invoke, builtin, ha.ev hx, ha.ev hy, hrun]
  · have e1 : ((xs ++ s).map Flat.enc).flatten = (xs.map Flat.enc).flatten ++ s.flatMap Flat.enc := by rw [List.map_append, List.flatten_append, List.flatMap_def]
    rw [e1, List.length_append]
    exact h1

end
end Go.Eng


/-
Dates of the program, walked: leap years, lengths of months, checks, the day of a date.
-/
namespace Go.Proofs.YtgpibcgebpgmiaaGreatDoor
open Go Go.Eng Go.RowKit Go.Proofs
set_option linter.unusedVariables false
def lengthsL : List Int := [0, 31, 28, 31, 30, 31, 30, 31, 31, 30, 31, 30, 31]
/-- the variable date.lengths -/
def LenG (w : World) : Prop := ∀ i u, lengthsL[i]? = some u → w.cell? ⟨5, i, none⟩ = some (.int .i64 u)
theorem LenG.ext {S : List Nat} {w w' : World} (h : LenG w) (hS : Stp S w w') (hb : 5 ∉ S) : LenG w' := fun i u hu => hS.cell hb (h i u hu)
theorem LenG.up {w w' : World} (h : LenG w) (hS : Stp [] w w') : LenG w' := h.ext hS (by simp)
theorem Leap_any (y : Int) (w : World) (h0 : 0 ≤ y) (h1 : y ≤ 100000) : Calls Tryz.prog 232 #[.int .i64 y] w (Ret fun r w' => r = .bool (leapM y) ∧ w' = w) := by
  unfold leapM
  refine calls_of_WC1 (n := 16) Tryz.func232 rfl rfl rfl ?_
  repeat' (first | refine W1 ?_ | (exfalso; omega) | refine WL_split rfl rfl (fun hg => ?_) (fun hg => ?_) | refine WL_splitB rfl rfl (fun hg => ?_) (fun hg => ?_) | refine WC_cond rfl (fun hc => ?_) (fun hc => ?_) | refine WC_condB rfl (fun hc => ?_) (fun hc => ?_))
  all_goals first | refine WQ_ret1 rfl rfl ?_ | refine WQ_ret2 rfl rfl rfl ?_ | refine WQ_ret3 rfl rfl rfl rfl ?_ | refine WQ_ret0 rfl ?_ | refine WQ_end0 rfl ?_
  all_goals refine .mk ⟨?_, rfl⟩
  all_goals congr 1
  all_goals (first | done | (rw [Bool.eq_iff_iff]; simp; omega) | (simp [*]))
theorem Length_any (y m : Int) (w : World) (hL : LenG w) (h0 : 0 ≤ y) (h1 : y ≤ 100000) : Calls Tryz.prog 227 #[.int .i64 y, .int .i64 m] w (Ret fun r w' => r = .int .i64 (lengthM y m) ∧ w' = w) := by
  unfold lengthM
  refine calls_of_WC2 (n := 22) Tryz.func227 rfl rfl rfl ?_
  by_cases hm : m < 1 ∨ 12 < m
  · rw [if_pos hm]
    repeat' (first | refine W1 ?_ | (exfalso; omega) | refine WL_split rfl rfl (fun hg => ?_) (fun hg => ?_) | refine WL_splitB rfl rfl (fun hg => ?_) (fun hg => ?_) | refine WC_cond rfl (fun hc => ?_) (fun hc => ?_) | refine WC_condB rfl (fun hc => ?_) (fun hc => ?_))
    all_goals first | refine WQ_ret1 rfl rfl ?_ | refine WQ_ret2 rfl rfl rfl ?_ | refine WQ_ret3 rfl rfl rfl rfl ?_ | refine WQ_ret0 rfl ?_ | refine WQ_end0 rfl ?_
    all_goals exact .mk ⟨rfl, rfl⟩
  · rw [if_neg hm]
    obtain ⟨k, rfl⟩ : ∃ k : Nat, m = (k : Int) := ⟨m.toNat, by omega⟩
    have hk : k < 13 := by omega
    have hcell : w.cell? ⟨5, 0 + k * 1, none⟩ = some (.int .i64 (lengthsL.getD k 0)) := hL _ _ (by
      have : k < lengthsL.length := hk
      simp [List.getD, this])
    by_cases h2 : (k : Int) = 2
    · rw [if_pos h2]
      repeat' (first | refine W1 ?_ | (exfalso; omega) | refine WL_split rfl rfl (fun hg => ?_) (fun hg => ?_) | refine WL_splitB rfl rfl (fun hg => ?_) (fun hg => ?_) | refine WC_cond rfl (fun hc => ?_) (fun hc => ?_) | refine WC_condB rfl (fun hc => ?_) (fun hc => ?_))
      refine WL_eff (OE_call rfl (evs1 rfl) (Leap_any y _ h0 h1)) rfl ?_
      rintro _ _ ⟨rfl, rfl⟩
      cases hl : leapM y
      · refine W ?_
        refine WL_pure (PR_load1 rfl rfl hcell) rfl ?_
        refine W ?_
        first | refine WQ_ret1 rfl rfl ?_ | refine WQ_ret2 rfl rfl rfl ?_ | refine WQ_ret3 rfl rfl rfl rfl ?_ | refine WQ_ret0 rfl ?_ | refine WQ_end0 rfl ?_
        obtain rfl : k = 2 := by omega
        exact .mk ⟨rfl, rfl⟩
      · refine W ?_
        first | refine WQ_ret1 rfl rfl ?_ | refine WQ_ret2 rfl rfl rfl ?_ | refine WQ_ret3 rfl rfl rfl rfl ?_ | refine WQ_ret0 rfl ?_ | refine WQ_end0 rfl ?_
        exact .mk ⟨rfl, rfl⟩
    · rw [if_neg h2]
      repeat' (first | refine W1 ?_ | (exfalso; omega) | refine WL_split rfl rfl (fun hg => ?_) (fun hg => ?_) | refine WL_splitB rfl rfl (fun hg => ?_) (fun hg => ?_) | refine WC_cond rfl (fun hc => ?_) (fun hc => ?_) | refine WC_condB rfl (fun hc => ?_) (fun hc => ?_))
      refine WL_pure (PR_load1 rfl rfl hcell) rfl ?_
      refine W ?_
      first | refine WQ_ret1 rfl rfl ?_ | refine WQ_ret2 rfl rfl rfl ?_ | refine WQ_ret3 rfl rfl rfl rfl ?_ | refine WQ_ret0 rfl ?_ | refine WQ_end0 rfl ?_
      refine .mk ⟨?_, rfl⟩
      congr 1
      have : k = 1 ∨ k = 3 ∨ k = 4 ∨ k = 5 ∨ k = 6 ∨ k = 7 ∨ k = 8 ∨ k = 9 ∨ k = 10 ∨ k = 11 ∨ k = 12 := by omega
      rcases this with rfl | rfl | rfl | rfl | rfl | rfl | rfl | rfl | rfl | rfl | rfl <;> rfl
abbrev datV (y m d : Int) : Value := .agg #[.int .i64 y, .int .i64 m, .int .i64 d]
/-- no date -/
def badD (y m d : Int) : Prop := y < 1 ∨ 9999 < y ∨ m < 1 ∨ 12 < m ∨ d < 1 ∨ lengthM y m < d
instance (y m d : Int) : Decidable (badD y m d) := by unfold badD; infer_instance
theorem DCheck_any (y m d : Int) (w : World) (hL : LenG w) : Calls Tryz.prog 216 #[datV y m d] w (Ret fun r w' => r = .int .i64 (if badD y m d then 5 else 0) ∧ Stp [] w w') := by
  refine calls_of_WC1 (n := 36) Tryz.func216 rfl rfl rfl ?_
  refine W ?_
  refine WL_eff (OE_box rfl) rfl ?_
  rintro _ w1 ⟨b, rfl, hb, hblk, hS⟩
  replace hblk : Blk w1 b 134 [.int .i64 y, .int .i64 m, .int .i64 d] := hblk
  replace hL := hL.up hS
  refine W ?_
  refine WC_drawn 33 [] [] [(0, 0), (1, 1), (2, 0), (3, 0), (4, 0), (5, 1), (6, 0), (7, 0), (8, 0), (9, 0), (10, 1), (11, 0), (12, 0), (13, 0), (14, 0), (15, 1), (16, 0), (17, 0), (18, 0), (19, 0), (20, 1), (21, 0), (22, 0), (23, 0), (24, 0), (25, 1), (26, 0), (27, 1), (28, 0), (29, 1), (30, 2), (31, 0), (32, 0)] rfl mixed (by kernel_rfl) (by kernel_rfl) (by kernel_rfl) (fun w1 hS1 => ?_)
  replace hblk := hblk.up hS1
  replace hL := hL.up hS1
  replace hS := hS.trans hS1
  clear hS1
  by_cases hg : y < 1 ∨ 9999 < y ∨ m < 1 ∨ 12 < m ∨ d < 1
  · have hbad : badD y m d := by unfold badD; omega
    rw [if_pos hbad]
    repeat' (first | refine D1 ?_ | (exfalso; omega) | refine WD_splitN rfl rfl rfl rfl (fun hg => ?_) (fun hg => ?_) | (refine WD_splitBN rfl rfl rfl rfl (fun hg => ?_) (fun hg => ?_) <;> refine D1 ?_) | fail)
    all_goals repeat' (first | refine W1 ?_ | (exfalso; omega) | refine WL_split rfl rfl (fun hg => ?_) (fun hg => ?_) | refine WL_splitB rfl rfl (fun hg => ?_) (fun hg => ?_) | refine WC_cond rfl (fun hc => ?_) (fun hc => ?_) | refine WC_condB rfl (fun hc => ?_) (fun hc => ?_))
    all_goals first | refine WQ_ret1 rfl rfl ?_ | refine WQ_ret2 rfl rfl rfl ?_ | refine WQ_ret3 rfl rfl rfl rfl ?_ | refine WQ_ret0 rfl ?_ | refine WQ_end0 rfl ?_
    all_goals exact .mk ⟨rfl, hS⟩
  · repeat' (first | refine D1 ?_ | (exfalso; omega) | refine WD_splitN rfl rfl rfl rfl (fun hg => ?_) (fun hg => ?_) | (refine WD_splitBN rfl rfl rfl rfl (fun hg => ?_) (fun hg => ?_) <;> refine D1 ?_) | fail)
    refine WD_eff rfl rfl (OE_call rfl (evs2 rfl rfl) (Length_any y m _ hL (by omega) (by omega))) (fun _ _ h => by rw [h.2]; exact Stp.refl _ _) rfl ?_
    rintro _ w3 ⟨rfl, rfl⟩
    repeat' (first | refine D1 ?_ | (exfalso; omega) | refine WD_splitN rfl rfl rfl rfl (fun hg => ?_) (fun hg => ?_) | (refine WD_splitBN rfl rfl rfl rfl (fun hg => ?_) (fun hg => ?_) <;> refine D1 ?_) | fail)
    all_goals repeat' (first | refine W1 ?_ | (exfalso; omega) | refine WL_split rfl rfl (fun hg => ?_) (fun hg => ?_) | refine WL_splitB rfl rfl (fun hg => ?_) (fun hg => ?_) | refine WC_cond rfl (fun hc => ?_) (fun hc => ?_) | refine WC_condB rfl (fun hc => ?_) (fun hc => ?_))
    · first | refine WQ_ret1 rfl rfl ?_ | refine WQ_ret2 rfl rfl rfl ?_ | refine WQ_ret3 rfl rfl rfl rfl ?_ | refine WQ_ret0 rfl ?_ | refine WQ_end0 rfl ?_
      exact .mk ⟨by rw [if_pos (by unfold badD; omega)], hS⟩
    · first | refine WQ_ret1 rfl rfl ?_ | refine WQ_ret2 rfl rfl rfl ?_ | refine WQ_ret3 rfl rfl rfl rfl ?_ | refine WQ_ret0 rfl ?_ | refine WQ_end0 rfl ?_
      exact .mk ⟨by rw [if_neg (by unfold badD; omega)], hS⟩
theorem number_any (y m d : Int) (w : World) (hy : 0 ≤ y) (hy2 : y ≤ 100000) (hm : 1 ≤ m) (hm2 : m ≤ 12) (hd : 0 ≤ d) (hd2 : d ≤ 100000) (h1 : m - 3 < 0 → 1 ≤ y) : Calls Tryz.prog 217 #[datV y m d] w (Ret fun r w' => r = .int .i64 (dayM y m d) ∧ Stp [] w w') := by
  refine calls_of_WC1 (n := 36) Tryz.func217 rfl rfl rfl ?_
  refine W ?_
  refine WL_eff (OE_box rfl) rfl ?_
  rintro _ w1 ⟨b, rfl, hb, hblk, hS⟩
  replace hblk : Blk w1 b 134 [.int .i64 y, .int .i64 m, .int .i64 d] := hblk
  refine W ?_
  refine WC_drawn 7 [] [] [(0, 0), (1, 1), (2, 0), (3, 1), (4, 0), (5, 0), (6, 0)] rfl mixed (by kernel_rfl) (by kernel_rfl) (by kernel_rfl) (fun w1 hS1 => ?_)
  replace hblk := hblk.up hS1
  replace hS := hS.trans hS1
  clear hS1
  refine D ?_
  repeat' (first | refine W1 ?_ | (exfalso; omega) | refine WL_split rfl rfl (fun hg => ?_) (fun hg => ?_) | refine WL_splitB rfl rfl (fun hg => ?_) (fun hg => ?_) | refine WC_cond rfl (fun hc => ?_) (fun hc => ?_) | refine WC_condB rfl (fun hc => ?_) (fun hc => ?_))
  all_goals first | refine WQ_ret1 rfl rfl ?_ | refine WQ_ret2 rfl rfl rfl ?_ | refine WQ_ret3 rfl rfl rfl rfl ?_ | refine WQ_ret0 rfl ?_ | refine WQ_end0 rfl ?_
  all_goals refine .mk ⟨?_, hS⟩
  all_goals unfold dayM
  · rw [if_pos (by assumption)]
    congr 1
    dsimp only
    omega
  · rw [if_neg (by assumption)]
theorem DDay_any (y m d : Int) (w : World) (hL : LenG w) : Calls Tryz.prog 196 #[datV y m d] w (Ret fun r w' => r = .tuple #[.int .i64 (if badD y m d then 0 else dayM y m d), .int .i64 (if badD y m d then 5 else 0)] ∧ Stp [] w w') := by
  refine calls_of_WC1 (n := 12) Tryz.func196 rfl rfl rfl ?_
  refine W ?_
  refine WL_eff (OE_box rfl) rfl ?_
  rintro _ w1 ⟨b, rfl, hb, hblk, hS⟩
  replace hblk : Blk w1 b 134 [.int .i64 y, .int .i64 m, .int .i64 d] := hblk
  replace hL := hL.up hS
  refine W ?_
  refine WL_eff (OE_call rfl (evs1 rfl) (DCheck_any y m d _ hL)) rfl ?_
  rintro _ w2 ⟨rfl, hT⟩
  replace hblk := hblk.up hT
  replace hS := hS.trans hT
  clear hT
  by_cases hbad : badD y m d
  · rw [if_pos hbad, if_pos hbad]
    refine W ?_
    first | refine WQ_ret1 rfl rfl ?_ | refine WQ_ret2 rfl rfl rfl ?_ | refine WQ_ret3 rfl rfl rfl rfl ?_ | refine WQ_ret0 rfl ?_ | refine WQ_end0 rfl ?_
    exact .mk ⟨rfl, hS⟩
  · rw [if_neg hbad, if_neg hbad]
    refine W ?_
    have h31 := lengthM_le y m
    unfold badD at hbad
    refine WL_eff (OE_call rfl (evs1 rfl) (number_any y m d _ (by omega) (by omega) (by omega) (by omega) (by omega) (by omega) (by omega))) rfl ?_
    rintro _ w3 ⟨rfl, hT⟩
    refine W ?_
    first | refine WQ_ret1 rfl rfl ?_ | refine WQ_ret2 rfl rfl rfl ?_ | refine WQ_ret3 rfl rfl rfl rfl ?_ | refine WQ_ret0 rfl ?_ | refine WQ_end0 rfl ?_
    exact .mk ⟨rfl, hS.trans hT⟩
end Go.Proofs.YtgpibcgebpgmiaaGreatDoor


/-
Dates of the program, walked: written dates.
-/
namespace Go.Eng
open Go Go.RowKit Go.Proofs
set_option linter.unusedVariables false
/-- the number that bytes make, digits or not -/
def numZ (s : Str) : Int := s.foldl (fun n c => 10 * n + (c.toNat : Int) - 48) 0
theorem numZ_app (a : Str) (c : UInt8) : numZ (a ++ [c]) = 10 * numZ a + (c.toNat : Int) - 48 := by simp [numZ, List.foldl_append]
theorem numZ_dig {s : Str} (h : s.all digB = true) : numZ s = (decN s : Int) := by
  have key : ∀ (s : Str) (z : Int) (n : Nat), z = (n : Int) → s.all digB = true → s.foldl (fun n c => 10 * n + (c.toNat : Int) - 48) z = ((s.foldl (fun n c => 10 * n + (c.toNat - 48)) n : Nat) : Int) := by
    intro s
    induction s with
    | nil => intro z n hz _; exact hz
    | cons c r ih =>
      intro z n hz h
      simp only [List.all_cons, Bool.and_eq_true] at h
      have hc : 48 ≤ c.toNat ∧ c.toNat ≤ 57 := by simpa [digB] using h.1
      exact ih _ _ (by dsimp only; omega) h.2
  exact key s 0 0 rfl h
/-- a bound -/
def bndZ : Nat → Int
  | 0 => 0
  | k + 1 => 10 * bndZ k + 300
theorem numZ_bnd : ∀ (k : Nat) (s : Str), s.length = k → -bndZ k ≤ numZ s ∧ numZ s ≤ bndZ k
  | 0, s, h => by
    have : s = [] := List.length_eq_zero_iff.1 h
    subst this
    simp [numZ, bndZ]
  | k + 1, s, h => by
    have hne : s ≠ [] := by rintro rfl; simp at h
    obtain ⟨a, c, rfl⟩ : ∃ a c, s = a ++ [c] := ⟨s.dropLast, s.getLast hne, (List.dropLast_concat_getLast hne).symm⟩
    have ih := numZ_bnd k a (by simpa using h)
    have hc := c.toNat_lt
    rw [numZ_app]
    simp only [bndZ]
    omega
theorem bndZ_le {k : Nat} (h : k ≤ 4) : bndZ k ≤ 400000 := by
  have : k = 0 ∨ k = 1 ∨ k = 2 ∨ k = 3 ∨ k = 4 := by omega
  rcases this with rfl | rfl | rfl | rfl | rfl <;> decide
end Go.Eng
namespace Go.Proofs.YtgpibcgebpgmiaaGreatDoor
open Go Go.Eng Go.RowKit Go.Proofs
set_option linter.unusedVariables false
theorem part_any (s : Str) (f u bs be : Nat) (e0 : Int) (w : World) (hfu : f ≤ u) (hu : u ≤ s.length) (h4 : u ≤ f + 4) (hne : bs ≠ be) (hs : Blk w bs 9 [str s]) (he : Blk w be 24 [.int .i64 e0]) :
    Calls Tryz.prog 195 #[.int .i64 (f : Int), .int .i64 (u : Int), .pointer (some ⟨bs, 0, none⟩), .pointer (some ⟨be, 0, none⟩)] w
      (Ret fun r w' => r = .int .i64 (numZ ((s.take u).drop f)) ∧ Blk w' bs 9 [str s] ∧ Blk w' be 24 [.int .i64 (if ((s.take u).drop f).all digB then e0 else 7)] ∧ Stp [be] w w') := by
  refine calls_of_WC4 (n := 34) Tryz.func195 rfl rfl rfl ?_
  refine W ?_
  refine WL_sliceT_lh rfl rfl rfl rfl rfl hfu hu rfl ?_
  have hlen : ((s.take u).drop f).length = u - f := by simp; omega
  generalize (s.take u).drop f = t at *
  refine WL_eff (OE_convS rfl (by omega)) rfl ?_
  rintro bv w1 ⟨hb, hS⟩
  have hlb : be < w.heap.size := he.lt
  have hbv := hb [be] (by simpa using hlb)
  clear hb
  replace hs := hs.up hS
  replace he := he.up hS
  replace hS := hS.mono (S' := [be]) (by simp)
  refine W ?_
  refine WC_loop (σ := Nat) (fun q => [(2, .pointer (some ⟨bs, 0, none⟩)), (3, .pointer (some ⟨be, 0, none⟩)), (7, .int .i64 (numZ (t.take q))), (14, bv), (15, .int .i64 (t.length : Int)), (16, .int .i64 (q : Int))])
    (fun q w' => q ≤ t.length ∧ SlV [be] w' bv t ∧ Blk w' bs 9 [str s] ∧ Blk w' be 24 [.int .i64 (if (t.take q).all digB then e0 else 7)] ∧ Stp [be] w w')
    (fun q => t.length - q) 0 ⟨rfl, rfl, rfl, rfl, rfl, rfl, trivial⟩ ⟨Nat.zero_le _, hbv, hs, he, hS⟩ ?_
  clear hbv hs he hS
  rintro q w2 ⟨hq, hbv, hs, he, hS⟩
  have hbn := numZ_bnd q (t.take q) (by simp; omega)
  have hb4 := bndZ_le (k := q) (by omega)
  by_cases hlt : q < t.length
  · have htk : t.take (q + 1) = t.take q ++ [t[q]] := (List.take_append_getElem hlt).symm
    have hc := (t[q]).toNat_lt
    have hdg : digB t[q] = true ↔ 48 ≤ (t[q]).toNat ∧ (t[q]).toNat ≤ 57 := by simp [digB]
    have fin : ∀ w3, SlV [be] w3 bv t → Blk w3 bs 9 [str s] → Blk w3 be 24 [.int .i64 (if digB t[q] = true then (if (t.take q).all digB then e0 else 7) else 7)] → Stp [be] w w3 →
        (q + 1 ≤ t.length ∧ SlV [be] w3 bv t ∧ Blk w3 bs 9 [str s] ∧ Blk w3 be 24 [.int .i64 (if (t.take (q + 1)).all digB then e0 else 7)] ∧ Stp [be] w w3) := by
      intro w3 h1 h2 h3 h4
      refine ⟨hlt, h1, h2, ?_, h4⟩
      rw [htk]
      have : ((t.take q ++ [t[q]]).all digB) = ((t.take q).all digB && digB t[q]) := by rw [List.all_append]; simp only [List.all_cons, List.all_nil, Bool.and_true]
      rw [this]
      by_cases hd : digB t[q] = true
      · rw [if_pos hd] at h3
        rw [hd, Bool.and_true]
        exact h3
      · rw [if_neg hd] at h3
        rw [Bool.not_eq_true] at hd
        rw [hd, Bool.and_false]
        exact h3
    by_cases hd : digB t[q] = true
    · have hd' := hdg.1 hd
      repeat' (first | refine W1 ?_ | (exfalso; omega) | refine WL_split rfl rfl (fun hg => ?_) (fun hg => ?_) | refine WL_splitB rfl rfl (fun hg => ?_) (fun hg => ?_) | refine WC_cond rfl (fun hc => ?_) (fun hc => ?_) | refine WC_condB rfl (fun hc => ?_) (fun hc => ?_))
      refine WL_pure (PR_convTo (b := ((t[q]).toNat : Int)) rfl (wrap_i64_of (by unfold I64; omega))) rfl ?_
      refine W ?_
      refine WQ_loop (q + 1) ⟨rfl, rfl, ?_, rfl, rfl, rfl, trivial⟩ (fin _ hbv hs (by rw [if_pos hd]; exact he) hS) (by omega)
      rw [htk, numZ_app]
      rfl
    · have hd' : (t[q]).toNat < 48 ∨ 57 < (t[q]).toNat := by
        rcases Nat.lt_or_ge (t[q]).toNat 48 with h | h
        · exact .inl h
        · rcases Nat.lt_or_ge 57 (t[q]).toNat with h' | h'
          · exact .inr h'
          · exact absurd (hdg.2 ⟨h, h'⟩) hd
      repeat' (first | refine W1 ?_ | (exfalso; omega) | refine WL_split rfl rfl (fun hg => ?_) (fun hg => ?_) | refine WL_splitB rfl rfl (fun hg => ?_) (fun hg => ?_) | refine WC_cond rfl (fun hc => ?_) (fun hc => ?_) | refine WC_condB rfl (fun hc => ?_) (fun hc => ?_))
      all_goals
        refine WL_eff0 (OE_storeA (us := [.int .i64 7]) rfl rfl rfl rfl (by simp; rfl) he rfl) ?_
        rintro _ w3 ⟨hT, he3⟩
        refine W ?_
        refine WL_pure (PR_convTo (b := ((t[q]).toNat : Int)) rfl (wrap_i64_of (by unfold I64; omega))) rfl ?_
        refine W ?_
        refine WQ_loop (q + 1) ⟨rfl, rfl, ?_, rfl, rfl, rfl, trivial⟩ (fin _ (hbv.ext hT (fun _ h => h) (fun _ h => .inl h)) (hs.ext hT (by simpa using hne)) (by rw [if_neg hd]; exact he3) (hS.trans hT)) (by omega)
        rw [htk, numZ_app]
        rfl
  · have : q = t.length := by omega
    subst this
    rw [List.take_length] at *
    repeat' (first | refine W1 ?_ | (exfalso; omega) | refine WL_split rfl rfl (fun hg => ?_) (fun hg => ?_) | refine WL_splitB rfl rfl (fun hg => ?_) (fun hg => ?_) | refine WC_cond rfl (fun hc => ?_) (fun hc => ?_) | refine WC_condB rfl (fun hc => ?_) (fun hc => ?_))
    first | refine WQ_ret1 rfl rfl ?_ | refine WQ_ret2 rfl rfl rfl ?_ | refine WQ_ret3 rfl rfl rfl rfl ?_ | refine WQ_ret0 rfl ?_ | refine WQ_end0 rfl ?_
    exact .mk ⟨rfl, hs, he, hS⟩
theorem buildDt (y m d : Int) (w : World) : (Instr.build 134 #[(0, .int .i64 y), (1, .int .i64 m), (2, .int .i64 d)]).run Tryz.prog w = .ok (datV y m d) w := by kernel_rfl
theorem DParse_any (s : Str) (w : World) (hL : LenG w) (hl : s.length = 10) : Calls Tryz.prog 160 #[str s] w (Ret fun r w' => r = .tuple #[.int .i64 (dateP s).1, .int .i64 (dateP s).2] ∧ Stp [] w w') := by
  have h5 : 5 < w.heap.size := by have := block_lt_of_cell (hL 0 0 rfl); simpa using this
  refine calls_of_WC1 (n := 35) Tryz.func160 rfl rfl rfl ?_
  refine W ?_
  refine WL_eff (OE_box rfl) rfl ?_
  rintro _ w1 ⟨bs, rfl, hbs, es, hS⟩
  replace es : Blk w1 bs 9 [str s] := es
  replace hL := hL.up hS
  have b45 : ∀ i, i < 10 → (byte s i = 45 ↔ s.getD i 0 = 45) := fun i hi => by
    unfold byte
    constructor
    · intro h
      have h45 : (45 : UInt8).toNat = 45 := rfl
      have : (s.getD i 0).toNat = (45 : UInt8).toNat := by omega
      exact UInt8.toNat_inj.1 this
    · intro h
      rw [h]
      rfl
  by_cases h45 : byte s 4 = 45 ∧ byte s 7 = 45
  · obtain ⟨h4, h7⟩ := h45
    repeat' (first | refine W1 ?_ | (exfalso; omega) | refine WL_split rfl rfl (fun hg => ?_) (fun hg => ?_) | refine WL_splitB rfl rfl (fun hg => ?_) (fun hg => ?_) | refine WC_cond rfl (fun hc => ?_) (fun hc => ?_) | refine WC_condB rfl (fun hc => ?_) (fun hc => ?_))
    refine WL_indexT (i := 4) rfl rfl rfl (by omega) rfl ?_
    repeat' (first | refine W1 ?_ | (exfalso; omega) | refine WL_split rfl rfl (fun hg => ?_) (fun hg => ?_) | refine WL_splitB rfl rfl (fun hg => ?_) (fun hg => ?_) | refine WC_cond rfl (fun hc => ?_) (fun hc => ?_) | refine WC_condB rfl (fun hc => ?_) (fun hc => ?_))
    refine WL_indexT (i := 7) rfl rfl rfl (by omega) rfl ?_
    repeat' (first | refine W1 ?_ | (exfalso; omega) | refine WL_split rfl rfl (fun hg => ?_) (fun hg => ?_) | refine WL_splitB rfl rfl (fun hg => ?_) (fun hg => ?_) | refine WC_cond rfl (fun hc => ?_) (fun hc => ?_) | refine WC_condB rfl (fun hc => ?_) (fun hc => ?_))
    refine WL_eff OE_alloc rfl ?_
    rintro _ w2 ⟨be, rfl, hbe, ee, hT⟩
    have nbe : bs ≠ be := by have := es.lt; omega
    replace es := es.up hT
    refine WL_eff0 (OE_storeA (us := [.int .i64 0]) rfl rfl rfl rfl (by simp; rfl) ee rfl) ?_
    rintro _ w3 ⟨hT2, ee'⟩
    have hbew : w.heap.size ≤ be := Nat.le_trans hS.size hbe
    replace es := es.ext hT2 (by simpa using nbe)
    replace hT := hT.own hT2 (fun c hc => .inr (by simp at hc; omega))
    replace hL := hL.up hT
    replace hS := hS.trans hT
    clear hT hT2 ee hbe
    refine W ?_
    refine WL_eff (OE_callC rfl (evs2 rfl rfl) rfl (part_any s 0 4 bs be 0 _ (by omega) (by omega) (by omega) nbe es ee')) rfl ?_
    rintro _ w4 ⟨rfl, es4, ee4, hT⟩
    replace hL := hL.ext hT (by simp only [List.mem_singleton]; omega)
    replace hS := hS.own hT (fun c hc => .inr (by simp at hc; omega))
    clear hT
    refine W ?_
    refine WL_eff (OE_callC rfl (evs2 rfl rfl) rfl (part_any s 5 7 bs be _ _ (by omega) (by omega) (by omega) nbe es4 ee4)) rfl ?_
    rintro _ w5 ⟨rfl, es5, ee5, hT⟩
    replace hL := hL.ext hT (by simp only [List.mem_singleton]; omega)
    replace hS := hS.own hT (fun c hc => .inr (by simp at hc; omega))
    clear hT es4 ee4
    refine W ?_
    refine WL_eff (OE_callC rfl (evs2 rfl rfl) rfl (part_any s 8 10 bs be _ _ (by omega) (by omega) (by omega) nbe es5 ee5)) rfl ?_
    rintro _ w6 ⟨rfl, es6, ee6, hT⟩
    replace hL := hL.ext hT (by simp only [List.mem_singleton]; omega)
    replace hS := hS.own hT (fun c hc => .inr (by simp at hc; omega))
    clear hT es5 ee5
    have e0 : (s.take 4).drop 0 = s.take 4 := rfl
    have e1 : (s.take 7).drop 5 = (s.drop 5).take 2 := by rw [List.drop_take]
    have e2 : (s.take 10).drop 8 = s.drop 8 := by rw [List.take_of_length_le (by omega)]
    rw [e0, e1, e2] at ee6
    rw [e0, e1, e2]
    refine WL_build (vs := [(0, .int .i64 (numZ (s.take 4))), (1, .int .i64 (numZ ((s.drop 5).take 2))), (2, .int .i64 (numZ (s.drop 8)))]) rfl (buildDt _ _ _) rfl ?_
    refine WL_eff OE_alloc rfl ?_
    rintro _ w7 ⟨bd, rfl, hbd, ed, hT⟩
    have nbd : be ≠ bd := by have := ee6.lt; omega
    replace ee6 := ee6.up hT
    refine WL_eff0 (OE_storeA (us := [.int .i64 (numZ (s.take 4)), .int .i64 (numZ ((s.drop 5).take 2)), .int .i64 (numZ (s.drop 8))]) rfl rfl rfl rfl (by intro c hc; simp at hc; rcases hc with rfl | rfl | rfl <;> rfl) ed rfl) ?_
    rintro _ w8 ⟨hT2, ed'⟩
    replace ee6 := ee6.ext hT2 (by simpa using nbd)
    replace hT := hT.own hT2 (fun c hc => .inr (by simp at hc; omega))
    replace hL := hL.up hT
    replace hS := hS.trans hT
    clear hT hT2 ed hbd es6
    by_cases hall : (s.take 4).all digB = true ∧ ((s.drop 5).take 2).all digB = true ∧ (s.drop 8).all digB = true
    · obtain ⟨a1, a2, a3⟩ := hall
      have hP : dateP s = (let y : Int := decN (s.take 4); let m : Int := decN ((s.drop 5).take 2); let d : Int := decN (s.drop 8); if badD y m d then (0, 5) else (dayM y m d, 0)) := by
        unfold dateP
        rw [if_pos ⟨hl, (b45 4 (by omega)).1 h4, (b45 7 (by omega)).1 h7, a1, a2, a3⟩]
        rfl
      rw [if_pos a1, if_pos a2, if_pos a3] at ee6
      rw [numZ_dig a1, numZ_dig a2, numZ_dig a3] at ed'
      refine W ?_
      refine WL_eff (OE_call rfl (evs1 rfl) (DDay_any _ _ _ _ hL)) rfl ?_
      rintro _ w9 ⟨rfl, hT⟩
      replace hS := hS.trans hT
      refine W ?_
      first | refine WQ_ret1 rfl rfl ?_ | refine WQ_ret2 rfl rfl rfl ?_ | refine WQ_ret3 rfl rfl rfl rfl ?_ | refine WQ_ret0 rfl ?_ | refine WQ_end0 rfl ?_
      refine .mk ⟨?_, hS⟩
      rw [hP]
      dsimp only
      split <;> rfl
    · have hP : dateP s = (0, 7) := by
        unfold dateP
        rw [if_neg (fun h => hall h.2.2.2)]
      have hE : (if (s.drop 8).all digB = true then (if ((s.drop 5).take 2).all digB = true then (if (s.take 4).all digB = true then (0 : Int) else 7) else 7) else 7) = 7 := by
        by_cases g3 : (s.drop 8).all digB = true
        · rw [if_pos g3]
          by_cases g2 : ((s.drop 5).take 2).all digB = true
          · rw [if_pos g2]
            by_cases g1 : (s.take 4).all digB = true
            · exact absurd ⟨g1, g2, g3⟩ hall
            · rw [if_neg g1]
          · rw [if_neg g2]
        · rw [if_neg g3]
      rw [hE] at ee6
      refine W ?_
      refine WC_drawn 3 [] [] [(0, 1), (1, 0), (2, 0)] rfl mixed (by kernel_rfl) (by kernel_rfl) (by kernel_rfl) (fun w1 hS1 => ?_)
      replace ee6 := ee6.up hS1
      replace hS := hS.trans hS1
      refine D ?_
      refine W ?_
      first | refine WQ_ret1 rfl rfl ?_ | refine WQ_ret2 rfl rfl rfl ?_ | refine WQ_ret3 rfl rfl rfl rfl ?_ | refine WQ_ret0 rfl ?_ | refine WQ_end0 rfl ?_
      rw [hP]
      exact .mk ⟨rfl, hS⟩
  · have hP : dateP s = (0, 7) := by
      unfold dateP
      rw [if_neg (fun h => h45 ⟨(b45 4 (by omega)).2 h.2.1, (b45 7 (by omega)).2 h.2.2.1⟩)]
    by_cases h4 : byte s 4 = 45
    · have h7 : ¬ byte s 7 = 45 := fun h => h45 ⟨h4, h⟩
      repeat' (first | refine W1 ?_ | (exfalso; omega) | refine WL_split rfl rfl (fun hg => ?_) (fun hg => ?_) | refine WL_splitB rfl rfl (fun hg => ?_) (fun hg => ?_) | refine WC_cond rfl (fun hc => ?_) (fun hc => ?_) | refine WC_condB rfl (fun hc => ?_) (fun hc => ?_))
      refine WL_indexT (i := 4) rfl rfl rfl (by omega) rfl ?_
      repeat' (first | refine W1 ?_ | (exfalso; omega) | refine WL_split rfl rfl (fun hg => ?_) (fun hg => ?_) | refine WL_splitB rfl rfl (fun hg => ?_) (fun hg => ?_) | refine WC_cond rfl (fun hc => ?_) (fun hc => ?_) | refine WC_condB rfl (fun hc => ?_) (fun hc => ?_))
      refine WL_indexT (i := 7) rfl rfl rfl (by omega) rfl ?_
      repeat' (first | refine W1 ?_ | (exfalso; omega) | refine WL_split rfl rfl (fun hg => ?_) (fun hg => ?_) | refine WL_splitB rfl rfl (fun hg => ?_) (fun hg => ?_) | refine WC_cond rfl (fun hc => ?_) (fun hc => ?_) | refine WC_condB rfl (fun hc => ?_) (fun hc => ?_))
      first | refine WQ_ret1 rfl rfl ?_ | refine WQ_ret2 rfl rfl rfl ?_ | refine WQ_ret3 rfl rfl rfl rfl ?_ | refine WQ_ret0 rfl ?_ | refine WQ_end0 rfl ?_
      rw [hP]
      exact .mk ⟨rfl, hS⟩
    · repeat' (first | refine W1 ?_ | (exfalso; omega) | refine WL_split rfl rfl (fun hg => ?_) (fun hg => ?_) | refine WL_splitB rfl rfl (fun hg => ?_) (fun hg => ?_) | refine WC_cond rfl (fun hc => ?_) (fun hc => ?_) | refine WC_condB rfl (fun hc => ?_) (fun hc => ?_))
      refine WL_indexT (i := 4) rfl rfl rfl (by omega) rfl ?_
      repeat' (first | refine W1 ?_ | (exfalso; omega) | refine WL_split rfl rfl (fun hg => ?_) (fun hg => ?_) | refine WL_splitB rfl rfl (fun hg => ?_) (fun hg => ?_) | refine WC_cond rfl (fun hc => ?_) (fun hc => ?_) | refine WC_condB rfl (fun hc => ?_) (fun hc => ?_))
      first | refine WQ_ret1 rfl rfl ?_ | refine WQ_ret2 rfl rfl rfl ?_ | refine WQ_ret3 rfl rfl rfl rfl ?_ | refine WQ_ret0 rfl ?_ | refine WQ_end0 rfl ?_
      rw [hP]
      exact .mk ⟨rfl, hS⟩
end Go.Proofs.YtgpibcgebpgmiaaGreatDoor


/-
The walk engine, part 19: a drawn region in which some operations 'alloc' hang free beside a chain of others: they may come at any time before the operations that join them.
-/
namespace Go.Eng
open Go Go.RowKit Go.Proofs
set_option linter.unusedVariables false

/-- an 'alloc' that hangs free: its number, its slot, its type, the zero value -/
structure Fl where
  i : Nat
  d : Nat
  T : Nat
  z : Value
structure FlOk (P : Program) (n : Nat) (ops : Array Oper) (F : List Fl) : Prop where
  op : ∀ f ∈ F, ∃ ty pos af, ops[f.i]? = some ⟨some f.d, .alloc f.T, ty, pos, af, none⟩
  zero : ∀ f ∈ F, Zer P f.T f.z
  small : ∀ f ∈ F, Nat.blt f.d n = true
  idx : (F.map Fl.i).Nodup
  dst : ∀ f ∈ F, ∀ g ∈ F, f.d = g.d → f = g

def checkP (ops : Array Oper) (Lt : List Nat) (is : List Nat) : List (Nat × Nat) → List (Nat × Nat) → Array Bool → Bool
  | [], join, listed => (subs is).all (fun rem => rem.isEmpty || Region.ready .any ops (lst listed is rem) == rem) && checkD ops Lt join (lst listed is [])
  | (i, 0) :: r, join, listed => (subs is).all (fun rem => (Region.ready .any ops (lst listed is rem)).contains i && Region.free .any ops (lst listed is rem) i) && !is.contains i && checkP ops Lt is r join (listed.setIfInBounds i true)
  | (i, 1) :: r, join, listed => (subs is).all (fun rem => (Region.ready .any ops (lst listed is rem)).contains i && Region.free .any ops (lst listed is rem) i) && bound ops Lt i && !is.contains i && checkP ops Lt is r join (listed.setIfInBounds i true)
  | (i, 2) :: r, join, listed => (subs is).all (fun rem => (Region.ready .any ops (lst listed is rem)).contains i && (Region.ready .any ops (lst listed is rem)).all (fun j => j == i || rem.contains j)) && !is.contains i && checkP ops Lt is r join (listed.setIfInBounds i true)
  | _ :: _, _, _ => false

theorem Has.cons {n : Nat} {e : Env} {a : Act} {d : Nat} {v : Value} (h : Has n e a) (hv : a.tmps.getD d undef = v) : Has n ((d, v) :: e) a := by
  refine ⟨h.defers, h.size, fun t x hx => ?_⟩
  rw [look_cons] at hx
  by_cases hd : d = t
  · subst hd; simp at hx; subst hx; exact hv
  · rw [if_neg hd] at hx; exact h.vals _ _ hx
theorem put_other {a : Act} {d t : Nat} {v : Value} (h : d ≠ t) : (a.put (some d) v).tmps.getD t undef = a.tmps.getD t undef := by
  simp [Act.put, Array.getElem?_setIfInBounds_ne h]
theorem put_same {n : Nat} {e : Env} {a : Act} {d : Nat} {v : Value} (h : Has n e a) (hd : Nat.blt d n = true) : (a.put (some d) v).tmps.getD d undef = v := by
  have hlt : d < a.tmps.size := by rw [h.size]; exact Nat.le_of_ble_eq_true hd
  simp [Act.put, hlt]
/-- what stands while the operations F hang free: those of 'done' have their blocks, which lie in D -/
structure FlAt (F : List Fl) (rem : List Nat) (done : List (Fl × Nat)) (w : World) (D : List Nat) (a : Act) : Prop where
  all : ∀ f ∈ F, f.i ∈ rem ∨ ∃ b, (f, b) ∈ done
  blk : ∀ p ∈ done, Blk w p.2 p.1.T p.1.z.cells.toList
  mem : ∀ p ∈ done, p.1 ∈ F ∧ p.2 ∈ D
  val : ∀ p ∈ done, a.tmps.getD p.1.d undef = .pointer (some ⟨p.2, 0, none⟩)
  inj : ∀ p ∈ done, ∀ q ∈ done, p.2 = q.2 → p = q
  old : ∀ p ∈ done, ¬ p.1.i ∈ rem

structure WP (P : Program) (n : Nat) (ops : Array Oper) (Lt : List Nat) (Q : Exit → Act → World → Prop) (F : List Fl) (main join : List (Nat × Nat)) (e : Env) (J : World → List Nat → Prop) : Prop where
  h : ∀ listed : Array Bool, Region.noSelect ops = true → checkP ops Lt (F.map Fl.i) main join listed = true → (∀ f ∈ F, look e f.d = none) → ∀ rem : List Nat, rem.Sublist (F.map Fl.i) → ∀ done w D a, FlAt F rem done w D a → J w D → Has n e a →
    wpAnyE P .any ops [] (fun j => Lt.contains j) (fun a w => Q .normal a w) (wt main + rem.length + wt join) (lst listed (F.map Fl.i) rem) a w
section rules
variable {P : Program} {n : Nat} {ops : Array Oper} {Lt : List Nat} {Q : Exit → Act → World → Prop} {F : List Fl} {rest join : List (Nat × Nat)} {e : Env} {J : World → List Nat → Prop}
variable {i d : Nat} {op : Op} {ty : TypeId} {pos : String} {af : Array Edge} {gd : Option (Nat × Bool)} {v : Value}

theorem FlAt.put {rem : List Nat} {done : List (Fl × Nat)} {w : World} {D : List Nat} {a : Act} (h : FlAt F rem done w D a) (hd : F.all (fun f => f.d != d) = true) : FlAt F rem done w D (a.put (some d) v) :=
  ⟨h.all, h.blk, h.mem, fun p hp => by
    have := List.all_eq_true.1 hd p.1 (h.mem p hp).1
    rw [put_other (by simp at this; exact fun h => this h.symm)]
    exact h.val p hp, h.inj, h.old⟩
/-- one of the free ones comes -/
theorem FlAt.next (hF : FlOk P n ops F) {rem : List Nat} {done : List (Fl × Nat)} {w w' : World} {D : List Nat} {a : Act} (h : FlAt F rem done w D a) {f : Fl} (hf : f ∈ F) (hr : f.i ∈ rem) (hnd : rem.Nodup) {b : Nat} (hb : w.heap.size ≤ b) (hB : Blk w' b f.T f.z.cells.toList) (hS : Stp [] w w') (ha : Has n e a) :
    FlAt F (rem.erase f.i) ((f, b) :: done) w' (b :: D) (a.put (some f.d) (.pointer (some ⟨b, 0, none⟩))) := by
  have hone : ∀ g ∈ F, g.i = f.i → g = f := by
    intro g hg hi
    have := hF.idx
    obtain ⟨x, hx, rfl⟩ := List.getElem_of_mem hf
    obtain ⟨y, hy, rfl⟩ := List.getElem_of_mem hg
    have h1 : (F.map Fl.i)[y]'(by simpa using hy) = (F.map Fl.i)[x]'(by simpa using hx) := by simpa using hi
    have h2 := (List.getElem_inj this).1 h1
    subst h2
    rfl
  have hne : ∀ p ∈ done, p.1 ≠ f := fun p hp hpf => h.old p hp (hpf ▸ hr)
  refine ⟨fun g hg => ?_, fun p hp => ?_, fun p hp => ?_, fun p hp => ?_, fun p hp q hq hpq => ?_, fun p hp => ?_⟩
  · by_cases hi : g.i = f.i
    · obtain rfl := hone g hg hi
      exact .inr ⟨b, by simp⟩
    · rcases h.all g hg with h1 | ⟨b', h1⟩
      · exact .inl ((List.mem_erase_of_ne hi).2 h1)
      · exact .inr ⟨b', by simp [h1]⟩
  · rcases List.mem_cons.1 hp with rfl | hp
    · exact hB
    · exact (h.blk p hp).up hS
  · rcases List.mem_cons.1 hp with rfl | hp
    · exact ⟨hf, by simp⟩
    · exact ⟨(h.mem p hp).1, by simp [(h.mem p hp).2]⟩
  · rcases List.mem_cons.1 hp with rfl | hp
    · exact put_same ha (hF.small _ hf)
    · rw [put_other (fun hd => hne p hp (hF.dst f hf p.1 (h.mem p hp).1 hd).symm)]
      exact h.val p hp
  · rcases List.mem_cons.1 hp with rfl | hp <;> rcases List.mem_cons.1 hq with rfl | hq
    · rfl
    · have := (h.blk q hq).lt; simp only at hpq; omega
    · have := (h.blk p hp).lt; simp only at hpq; omega
    · exact h.inj p hp q hq hpq
  · rcases List.mem_cons.1 hp with rfl | hp
    · exact hnd.not_mem_erase
    · exact fun hm => h.old p hp (List.mem_of_mem_erase hm)

end rules
end Go.Eng


/-
The walk engine, part 20: a scope without a goto, a label.
-/
namespace Go.Eng
open Go Go.RowKit Go.Proofs
set_option linter.unusedVariables false
section
variable {P : Program} {n : Nat} {Q : Exit → Act → World → Prop} {e : Env} {w : World}
theorem WC_scope {c : Code} (h : WC P n c (Exit.noGoto Q) e w) : WC P n (.scope c) Q e w := ⟨fun a ha => wp_scope_straight (h.h a ha)⟩
theorem WC_label {l : Nat} (h : WQ n Q .normal e w) : WC P n (.label l) Q e w := ⟨fun a ha => wp_label (h.h a ha)⟩
theorem WQ_noGoto_ret (h : WQ n Q .ret e w) : WQ n (Exit.noGoto Q) .ret e w := ⟨fun a ha => h.h a ha⟩
theorem WQ_noGoto_exit {i : Nat} (h : WQ n Q (.exit i) e w) : WQ n (Exit.noGoto Q) (.exit i) e w := ⟨fun a ha => h.h a ha⟩
end
end Go.Eng


/-
The lexer's use of the library, and its small readers, walked.
-/
namespace Go.Eng
open Go Go.RowKit Go.Proofs
set_option linter.unusedVariables false
def spacesL : Str := [9, 10, 13, 32]
theorem spaceL_mem (c : UInt8) : spaceL c = decide (c ∈ spacesL) := by
  unfold spaceL spacesL
  rw [Bool.eq_iff_iff]
  simp [or_assoc]
theorem idxB_mem (l : Str) (c : UInt8) : decide (0 ≤ Lib.indexByte l c) = decide (c ∈ l) := by
  rw [decide_eq_decide]
  induction l with
  | nil => simp [Lib.indexByte]
  | cons a r ih =>
    unfold Lib.indexByte
    by_cases h : a = c
    · subst h; simp
    · have hb : (a == c) = false := by simpa using h
      rw [hb]
      simp only [Bool.false_eq_true, if_false, List.mem_cons]
      have hge := Lib.indexByte_ge r c
      have h' : ¬ c = a := fun e => h e.symm
      split
      · rename_i h1
        have : Lib.indexByte r c = -1 := by simpa using h1
        rw [← ih]
        simp [h']
        omega
      · rename_i h1
        have h2 : ¬ Lib.indexByte r c = -1 := by simpa using h1
        have : 0 ≤ Lib.indexByte r c := by omega
        simp [h', ih.1 this]
        omega
theorem hasP2 (s : Str) (a b : UInt8) : Lib.hasPrefix s [a, b] = decide (s.take 2 = [a, b]) := by
  unfold Lib.hasPrefix
  match s with
  | [] => rfl
  | [x] => simp [List.isPrefixOf]
  | x :: y :: r =>
    rw [Bool.eq_iff_iff]
    simp only [List.isPrefixOf, Bool.and_true, Bool.and_eq_true, beq_iff_eq, decide_eq_true_eq, List.take_succ_cons, List.take_zero, List.cons.injEq, and_true]
    constructor
    · rintro ⟨rfl, rfl⟩; exact ⟨rfl, rfl⟩
    · rintro ⟨rfl, rfl⟩; exact ⟨rfl, rfl⟩
/-- Atoi of digits -/
theorem atoiAll_dig {s : Str} (hne : s ≠ []) (h : s.all digB = true) : Lib.atoiAll s = if decN s ≤ 9223372036854775807 then .ok (decN s : Int) else .range := by
  have key : ∀ (s : Str) (acc N : Nat), acc < 18446744073709551616 → s.all digB = true → s.foldl (fun n c => 10 * n + (c.toNat - 48)) acc = N → Lib.parseUint10 acc s = if N < 18446744073709551616 then .ok N else .range := by
    intro s
    induction s with
    | nil =>
      intro acc N ha _ hN
      have : acc = N := hN
      subst this
      rw [if_pos ha]
      rfl
    | cons c r ih =>
      intro acc N ha h hN
      simp only [List.all_cons, Bool.and_eq_true] at h
      have hc : 48 ≤ c.toNat ∧ c.toNat ≤ 57 := by simpa [digB] using h.1
      have hmono : ∀ (r : Str) (a : Nat), a ≤ r.foldl (fun n c => 10 * n + (c.toNat - 48)) a := by
        intro r
        induction r with
        | nil => intro a; exact Nat.le_refl _
        | cons x q ihq => intro a; have := ihq (10 * a + (x.toNat - 48)); simp only [List.foldl_cons]; omega
      have h1 := hmono r (10 * acc + (c.toNat - 48))
      have hN' : r.foldl (fun n c => 10 * n + (c.toNat - 48)) (10 * acc + (c.toNat - 48)) = N := hN
      rw [hN'] at h1
      simp only [Lib.parseUint10]
      rw [if_pos hc]
      split
      · rw [if_neg (by omega)]
      · split
        · rw [if_neg (by omega)]
        · rw [show acc * 10 + (c.toNat - 48) = 10 * acc + (c.toNat - 48) by omega]
          exact ih _ _ (by omega) h.2 hN'
  obtain ⟨c, r, rfl⟩ : ∃ c r, s = c :: r := by cases s with | nil => exact absurd rfl hne | cons c r => exact ⟨c, r, rfl⟩
  have hk := key (c :: r) 0 (decN (c :: r)) (by omega) h rfl
  have hcc : 48 ≤ c.toNat ∧ c.toNat ≤ 57 := by
    simp only [List.all_cons, Bool.and_eq_true] at h
    simpa [digB] using h.1
  unfold Lib.atoiAll
  simp only
  rw [if_neg (by omega)]
  unfold Lib.parseMag
  rw [if_neg (by simp), hk]
  by_cases h1 : decN (c :: r) < 18446744073709551616
  · rw [if_pos h1]
    simp only
    by_cases h2 : decN (c :: r) ≤ 9223372036854775807
    · rw [if_pos h2, if_neg (by omega), if_neg (by omega), if_neg (by omega)]
    · rw [if_neg h2, if_pos (by omega)]
  · rw [if_neg h1, if_neg (by omega)]
end Go.Eng
namespace Go.Proofs.YtgpibcgebpgmiaaGreatDoor
open Go Go.Eng Go.RowKit Go.Proofs
set_option linter.unusedVariables false
theorem u8_toNat (c : UInt8) : ((c.toNat : Int)).toNat.toUInt8 = c := by
  rw [Int.toNat_natCast]
  exact UInt8.ofNat_toNat
theorem idxByte_any (s : Str) (c : UInt8) (w : World) : Calls Tryz.prog 156 #[str s, .int .u8 (c.toNat : Int)] w (Ret fun r w' => r = .int .i64 (Lib.indexByte s c) ∧ w' = w) := by
  refine (Tryz.strings_IndexByte ⟨s.toArray⟩ (c.toNat : Int) w).mono ?_
  rintro e w' ⟨rfl, rfl⟩
  refine .mk ⟨?_, rfl⟩
  rw [u8_toNat]
theorem hasPrefix_any (s : Str) (a b : UInt8) (w : World) : Calls Tryz.prog 132 #[str s, str [a, b]] w (Ret fun r w' => r = .bool (decide (s.take 2 = [a, b])) ∧ w' = w) := by
  refine (Tryz.strings_HasPrefix ⟨s.toArray⟩ ⟨([a, b] : Str).toArray⟩ w).mono ?_
  rintro e w' ⟨rfl, rfl⟩
  refine .mk ⟨?_, rfl⟩
  rw [← hasP2]
theorem WL_convRune {P : Program} {n : Nat} {Q : Exit → Act → World → Prop} {e : Env} {w : World} {ops : Array Oper} {rest : List Oper} {d₀ : Nat} {ty : TypeId} {pos : String} {af : Array Edge} {src dst : TypeId} {x : Operand} {k : IntKind} {z : Int} {D : TypeDesc} [hs : Und P src D] [hd : Und P dst .string]
    (hx : ev e x = some (.int k z)) (hdn : Nat.blt d₀ n = true) (kk : WL P n ops Q rest ((d₀, str (Utf8.encode z).data.toList) :: e) w) : WL P n ops Q (⟨some d₀, .convert src dst x, ty, pos, af, none⟩ :: rest) e w := by
  refine WL_pure (v := str (Utf8.encode z).data.toList) ⟨fun a ha => ?_⟩ hdn kk
  have := run_convert_int_string (P := P) w src dst k z (by rw [hs.h]; rfl) hd.h
  simp [execOp, ha.ev hx, this]
theorem enc2 (c : Nat) (h1 : 128 ≤ c) (h2 : c < 256) : (Utf8.encode (c : Int)).data.toList = [UInt8.ofNat (192 + c / 64), UInt8.ofNat (128 + c % 64)] := by
  have hv : Utf8.valid (c : Int) = true := by
    unfold Utf8.valid
    simp only [Bool.or_eq_true, Bool.and_eq_true, decide_eq_true_eq]
    omega
  unfold Utf8.encode
  simp only [hv, if_true, Int.toNat_natCast]
  rw [if_neg (by omega), if_pos (by omega)]
theorem sp_lo : ∀ c ∈ spacesL, c.toNat < 128 := by decide
set_option maxRecDepth 20000 in
theorem hasRune_high (c : Nat) (w : World) (h1 : 128 ≤ c) (h2 : c < 256) : Calls Tryz.prog 157 #[str spacesL, .int .i32 (c : Int)] w (Ret fun r w' => r = .int .i64 (-1) ∧ Stp [] w w') := by
  have he := enc2 c h1 h2
  have hb : 128 ≤ (UInt8.ofNat (128 + c % 64)).toNat := by simp; omega
  generalize UInt8.ofNat (192 + c / 64) = b0 at he
  generalize UInt8.ofNat (128 + c % 64) = b1 at he hb
  have hvr : Lib.validRune (c : Int) = true := decide_eq_true (by omega)
  refine calls_of_WC2 (n := 187) Tryz.func157 rfl rfl rfl ?_
  repeat' (first | refine W1 ?_ | (exfalso; omega) | refine WL_split rfl rfl (fun hg => ?_) (fun hg => ?_) | refine WL_splitB rfl rfl (fun hg => ?_) (fun hg => ?_) | refine WC_cond rfl (fun hc => ?_) (fun hc => ?_) | refine WC_condB rfl (fun hc => ?_) (fun hc => ?_))
  refine WL_eff (OE_call rfl (evs1 rfl) ((Tryz.utf8_ValidRune (c : Int) _).mono (fun e w' h => (show Ret (fun r w' => r = .bool true ∧ w' = _) e w' from by
    obtain ⟨rfl, rfl⟩ := h
    exact .mk ⟨by rw [hvr], rfl⟩)))) rfl ?_
  rintro _ wv ⟨rfl, hwv⟩
  subst wv
  refine W ?_
  refine WC_scope ?_
  refine W ?_
  refine WL_convRune rfl rfl ?_
  rw [he]
  have hl2 : ([b0, b1] : Str).length = 2 := rfl
  have hls : spacesL.length = 4 := rfl
  refine W ?_
  refine WC_loop (σ := Unit) (fun _ => [(0, str spacesL), (7, str [b0, b1]), (8, .int .i64 ((([b0, b1] : Str).length : Int) - 1)), (9, .int .i64 ((([b0, b1] : Str).length : Int) - 1))]) (fun _ w' => Stp [] w w') (fun _ => 0) () ⟨rfl, rfl, rfl, rfl, trivial⟩ (Stp.refl _ _) ?_
  rintro _ w1 hS
  repeat' (first | refine W1 ?_ | (exfalso; omega) | refine WL_split rfl rfl (fun hg => ?_) (fun hg => ?_) | refine WL_splitB rfl rfl (fun hg => ?_) (fun hg => ?_) | refine WC_cond rfl (fun hc => ?_) (fun hc => ?_) | refine WC_condB rfl (fun hc => ?_) (fun hc => ?_))
  refine WC_scope ?_
  repeat' (first | refine W1 ?_ | (exfalso; omega) | refine WL_split rfl rfl (fun hg => ?_) (fun hg => ?_) | refine WL_splitB rfl rfl (fun hg => ?_) (fun hg => ?_) | refine WC_cond rfl (fun hc => ?_) (fun hc => ?_) | refine WC_condB rfl (fun hc => ?_) (fun hc => ?_))
  refine WC_drawn 7 [] [] [(0, 0), (1, 0), (2, 0), (3, 0), (4, 0), (5, 0), (6, 0)] rfl mixed (by kernel_rfl) (by kernel_rfl) (by kernel_rfl) (fun w1 hS1 => ?_)
  replace hS := hS.trans hS1
  clear hS1
  refine D ?_
  have hx : ¬ byte spacesL (([b0, b1] : Str).length - Nat.succ 0) = byte [b0, b1] (([b0, b1] : Str).length - Nat.succ 0) := by
    show ¬ (10 : Int) = (b1.toNat : Int)
    omega
  repeat' (first | refine W1 ?_ | (exfalso; omega) | refine WL_split rfl rfl (fun hg => ?_) (fun hg => ?_) | refine WL_splitB rfl rfl (fun hg => ?_) (fun hg => ?_) | refine WC_cond rfl (fun hc => ?_) (fun hc => ?_) | refine WC_condB rfl (fun hc => ?_) (fun hc => ?_))
  rotate_left
  · exact absurd hx (by assumption)
  have hx1 : byte [b0, b1] (([b0, b1] : Str).length - Nat.succ 0) = (b1.toNat : Int) := rfl
  have hnm : b1 ∉ (spacesL.drop 2) := fun h => by
    have := sp_lo b1 (List.mem_of_mem_drop h)
    omega
  have hidx : Lib.indexByte (spacesL.drop 2) b1 < 0 := by
    have := idxB_mem (spacesL.drop 2) b1
    rw [decide_eq_decide] at this
    have h0 : ¬ 0 ≤ Lib.indexByte (spacesL.drop 2) b1 := fun h => hnm (this.1 h)
    omega
  refine WC_drawn 9 [] [] [(0, 0), (1, 0), (2, 0), (3, 0), (4, 0), (5, 0), (6, 0), (7, 2), (8, 0)] rfl mixed (by kernel_rfl) (by kernel_rfl) (by kernel_rfl) (fun w1 hS1 => ?_)
  replace hS := hS.trans hS1
  clear hS1
  refine D ?_
  refine WF_sliceT_l (l := 2) rfl trivial rfl rfl (by omega) (by omega) rfl ?_
  refine D ?_
  rw [hx1]
  refine WD_eff rfl trivial (OE_call rfl (evs2 rfl rfl) (idxByte_any (spacesL.drop 2) b1 _)) (fun _ _ h => by rw [h.2]; exact Stp.refl _ _) rfl ?_
  rintro _ w5 ⟨rfl, hw5⟩
  subst w5
  refine D ?_
  repeat' (first | refine W1 ?_ | (exfalso; omega) | refine WL_split rfl rfl (fun hg => ?_) (fun hg => ?_) | refine WL_splitB rfl rfl (fun hg => ?_) (fun hg => ?_) | refine WC_cond rfl (fun hc => ?_) (fun hc => ?_) | refine WC_condB rfl (fun hc => ?_) (fun hc => ?_))
  repeat (first | refine WQ_noGoto_ret ?_ | refine W1 ?_)
  first | refine WQ_ret1 rfl rfl ?_ | refine WQ_ret2 rfl rfl rfl ?_ | refine WQ_ret3 rfl rfl rfl rfl ?_ | refine WQ_ret0 rfl ?_ | refine WQ_end0 rfl ?_
  exact .mk ⟨rfl, hS⟩
theorem hasSpace_any (c : UInt8) (w : World) : Calls Tryz.prog 109 #[str spacesL, .int .i32 (c.toNat : Int)] w (Ret fun r w' => r = .bool (spaceL c) ∧ Stp [] w w') := by
  by_cases h : c.toNat < 128
  · refine (Tryz.strings_ContainsRune_ascii ⟨spacesL.toArray⟩ (c.toNat : Int) w (by omega) (by omega)).mono ?_
    rintro e w' ⟨rfl, rfl⟩
    refine .mk ⟨?_, Stp.refl _ _⟩
    rw [u8_toNat, spaceL_mem]
    exact congrArg Value.bool (idxB_mem spacesL c)
  · have hc := c.toNat_lt
    have hsp : spaceL c = false := by
      rw [spaceL_mem, decide_eq_false_iff_not]
      intro hm
      exact h (sp_lo c hm)
    refine calls_of_WC2 (n := 9) Tryz.func109 rfl rfl rfl ?_
    refine W ?_
    refine WL_eff (OE_call rfl (evs2 rfl rfl) (hasRune_high c.toNat _ (by omega) (by omega))) rfl ?_
    rintro _ w1 ⟨rfl, hS⟩
    refine W ?_
    first | refine WQ_ret1 rfl rfl ?_ | refine WQ_ret2 rfl rfl rfl ?_ | refine WQ_ret3 rfl rfl rfl rfl ?_ | refine WQ_ret0 rfl ?_ | refine WQ_end0 rfl ?_
    exact .mk ⟨by rw [hsp]; rfl, hS⟩
end Go.Proofs.YtgpibcgebpgmiaaGreatDoor


/-
The lexer's readers, walked.
-/
namespace Go.Proofs.YtgpibcgebpgmiaaGreatDoor
open Go Go.Eng Go.RowKit Go.Proofs
set_option linter.unusedVariables false
/-- what a reader gives back -/
def lxV : Lx → Value
  | .err c => .tuple #[.agg (Flat.enc (⟨0, 0, [], 0⟩ : Tkn)).toArray, .int .i64 c]
  | .ok t => .tuple #[.agg (Flat.enc t).toArray, .int .i64 0]
theorem tk0 (w : World) : (Instr.build 61 #[]).run Tryz.prog w = .ok (.agg (Flat.enc (⟨0, 0, [], 0⟩ : Tkn)).toArray) w := by kernel_rfl
theorem tk2 (k : Int) (s : Str) (w : World) : (Instr.build 61 #[(0, .int .i64 k), (2, str s)]).run Tryz.prog w = .ok (.agg (Flat.enc (⟨k, 0, s, 0⟩ : Tkn)).toArray) w := by kernel_rfl
theorem tk3 (k n : Int) (s : Str) (w : World) : (Instr.build 61 #[(0, .int .i64 k), (2, str s), (3, .int .i64 n)]).run Tryz.prog w = .ok (.agg (Flat.enc (⟨k, 0, s, n⟩ : Tkn)).toArray) w := by kernel_rfl
theorem tk1 (k n : Int) (w : World) : (Instr.build 61 #[(0, .int .i64 k), (1, .int .i64 n)]).run Tryz.prog w = .ok (.agg (Flat.enc (⟨k, n, [], 0⟩ : Tkn)).toArray) w := by kernel_rfl
theorem len2 {s : Str} {a b : UInt8} (h : s.take 2 = [a, b]) : 2 ≤ s.length := by
  have := congrArg List.length h
  simp at this
  omega
theorem symbol_any (s : Str) (w : World) (hne : s ≠ []) : Calls Tryz.prog 108 #[str s] w (Ret fun r w' => r = lxV (symbolL s) ∧ Stp [] w w') := by
  have hl : s.length ≠ 0 := fun h => hne (List.length_eq_zero_iff.1 h)
  have hget : byte s 0 = ((s.getD 0 0).toNat : Int) := rfl
  refine calls_of_WC1 (n := 22) Tryz.func108 rfl rfl rfl ?_
  refine W ?_
  refine WL_eff OE_alloc rfl ?_
  rintro _ w1 ⟨b2, rfl, hb2, e2, hS⟩
  refine W ?_
  refine WL_eff (OE_call rfl (evs2 rfl rfl) (hasPrefix_any s 60 61 _)) rfl ?_
  rintro _ wv ⟨rfl, hwv⟩
  subst wv
  by_cases a1 : s.take 2 = [60, 61]
  · have h2 := len2 a1
    have hv : symbolL s = .ok ⟨4, 0, s.take 2, 0⟩ := by unfold symbolL; rw [if_pos (.inl a1)]
    rw [decide_eq_true a1]
    refine W ?_
    refine WL_sliceT_h (r := 2) rfl rfl rfl (by omega) rfl ?_
    refine WL_build (vs := [(0, .int .i64 4), (2, str (s.take 2))]) rfl (tk2 _ _) rfl ?_
    refine WL_eff0 (OE_storeA (us := Flat.enc (⟨4, 0, s.take 2, 0⟩ : Tkn)) rfl rfl rfl rfl (Flat.one _) e2 rfl) ?_
    rintro _ wz ⟨hT, e2'⟩
    refine W ?_
    refine WQ_retct rfl rfl rfl e2' rfl rfl ?_
    exact .mk ⟨by rw [hv]; rfl, hS.own hT (fun c hc => .inr (by simp at hc; omega))⟩
  rw [decide_eq_false a1]
  refine W ?_
  refine WL_eff (OE_call rfl (evs2 rfl rfl) (hasPrefix_any s 33 61 _)) rfl ?_
  rintro _ wv ⟨rfl, hwv⟩
  subst wv
  by_cases a2 : s.take 2 = [33, 61]
  · have h2 := len2 a2
    have hv : symbolL s = .ok ⟨4, 0, s.take 2, 0⟩ := by unfold symbolL; rw [if_pos (.inr (.inl a2))]
    rw [decide_eq_true a2]
    refine W ?_
    refine WL_sliceT_h (r := 2) rfl rfl rfl (by omega) rfl ?_
    refine WL_build (vs := [(0, .int .i64 4), (2, str (s.take 2))]) rfl (tk2 _ _) rfl ?_
    refine WL_eff0 (OE_storeA (us := Flat.enc (⟨4, 0, s.take 2, 0⟩ : Tkn)) rfl rfl rfl rfl (Flat.one _) e2 rfl) ?_
    rintro _ wz ⟨hT, e2'⟩
    refine W ?_
    refine WQ_retct rfl rfl rfl e2' rfl rfl ?_
    exact .mk ⟨by rw [hv]; rfl, hS.own hT (fun c hc => .inr (by simp at hc; omega))⟩
  rw [decide_eq_false a2]
  refine W ?_
  refine WL_eff (OE_call rfl (evs2 rfl rfl) (hasPrefix_any s 62 61 _)) rfl ?_
  rintro _ wv ⟨rfl, hwv⟩
  subst wv
  by_cases a3 : s.take 2 = [62, 61]
  · have h2 := len2 a3
    have hv : symbolL s = .ok ⟨4, 0, s.take 2, 0⟩ := by unfold symbolL; rw [if_pos (.inr (.inr a3))]
    rw [decide_eq_true a3]
    refine W ?_
    refine WL_sliceT_h (r := 2) rfl rfl rfl (by omega) rfl ?_
    refine WL_build (vs := [(0, .int .i64 4), (2, str (s.take 2))]) rfl (tk2 _ _) rfl ?_
    refine WL_eff0 (OE_storeA (us := Flat.enc (⟨4, 0, s.take 2, 0⟩ : Tkn)) rfl rfl rfl rfl (Flat.one _) e2 rfl) ?_
    rintro _ wz ⟨hT, e2'⟩
    refine W ?_
    refine WQ_retct rfl rfl rfl e2' rfl rfl ?_
    exact .mk ⟨by rw [hv]; rfl, hS.own hT (fun c hc => .inr (by simp at hc; omega))⟩
  rw [decide_eq_false a3]
  have hno : ¬ (s.take 2 = [60, 61] ∨ s.take 2 = [33, 61] ∨ s.take 2 = [62, 61]) := by
    rintro (h | h | h)
    · exact a1 h
    · exact a2 h
    · exact a3 h
  repeat' (first | refine W1 ?_ | (exfalso; omega) | refine WL_split rfl rfl (fun hg => ?_) (fun hg => ?_) | refine WL_splitB rfl rfl (fun hg => ?_) (fun hg => ?_) | refine WC_cond rfl (fun hc => ?_) (fun hc => ?_) | refine WC_condB rfl (fun hc => ?_) (fun hc => ?_))
  refine WL_indexT (i := 0) rfl rfl rfl (by omega) rfl ?_
  repeat' (first | refine W1 ?_ | (exfalso; omega) | refine WL_split rfl rfl (fun hg => ?_) (fun hg => ?_) | refine WL_splitB rfl rfl (fun hg => ?_) (fun hg => ?_) | refine WC_cond rfl (fun hc => ?_) (fun hc => ?_) | refine WC_condB rfl (fun hc => ?_) (fun hc => ?_))
  rw [hget]
  refine WL_eff (OE_call rfl (evs2 rfl rfl) (idxByte_any symsL (s.getD 0 0) _)) rfl ?_
  rintro _ wv ⟨rfl, hwv⟩
  subst wv
  have him := idxB_mem symsL (s.getD 0 0)
  rw [decide_eq_decide] at him
  by_cases a4 : s.getD 0 0 ∈ symsL
  · have hv : symbolL s = .ok ⟨4, 0, s.take 1, 0⟩ := by unfold symbolL; rw [if_neg hno, if_pos a4]
    have h0 := him.2 a4
    repeat' (first | refine W1 ?_ | (exfalso; omega) | refine WL_split rfl rfl (fun hg => ?_) (fun hg => ?_) | refine WL_splitB rfl rfl (fun hg => ?_) (fun hg => ?_) | refine WC_cond rfl (fun hc => ?_) (fun hc => ?_) | refine WC_condB rfl (fun hc => ?_) (fun hc => ?_))
    refine W ?_
    refine WL_sliceT_h (r := 1) rfl rfl rfl (by omega) rfl ?_
    refine WL_build (vs := [(0, .int .i64 4), (2, str (s.take 1))]) rfl (tk2 _ _) rfl ?_
    refine WL_eff0 (OE_storeA (us := Flat.enc (⟨4, 0, s.take 1, 0⟩ : Tkn)) rfl rfl rfl rfl (Flat.one _) e2 rfl) ?_
    rintro _ wz ⟨hT, e2'⟩
    refine W ?_
    refine WQ_retct rfl rfl rfl e2' rfl rfl ?_
    exact .mk ⟨by rw [hv]; rfl, hS.own hT (fun c hc => .inr (by simp at hc; omega))⟩
  · have hv : symbolL s = .err 20 := by unfold symbolL; rw [if_neg hno, if_neg a4]
    have h0 : ¬ 0 ≤ Lib.indexByte symsL (s.getD 0 0) := fun h => a4 (him.1 h)
    repeat' (first | refine W1 ?_ | (exfalso; omega) | refine WL_split rfl rfl (fun hg => ?_) (fun hg => ?_) | refine WL_splitB rfl rfl (fun hg => ?_) (fun hg => ?_) | refine WC_cond rfl (fun hc => ?_) (fun hc => ?_) | refine WC_condB rfl (fun hc => ?_) (fun hc => ?_))
    refine WL_build (vs := []) rfl tk0 rfl ?_
    refine WL_eff0 (OE_storeA (us := Flat.enc (⟨0, 0, [], 0⟩ : Tkn)) rfl rfl rfl rfl (Flat.one _) e2 rfl) ?_
    rintro _ wz ⟨hT, e2'⟩
    refine W ?_
    refine WQ_retct rfl rfl rfl e2' rfl rfl ?_
    exact .mk ⟨by rw [hv]; rfl, hS.own hT (fun c hc => .inr (by simp at hc; omega))⟩
theorem wordL_any (s : Str) (w : World) (hl : s.length ≤ 1000000) : Calls Tryz.prog 113 #[str s] w (Ret fun r w' => r = lxV (wordL s) ∧ Stp [] w w') := by
  have hle : (s.takeWhile ldB).length ≤ s.length := by
    have := congrArg List.length (take_takeWhile (p := ldB) s)
    simp at this
    omega
  refine calls_of_WC1 (n := 14) Tryz.func113 rfl rfl rfl ?_
  refine W ?_
  refine WL_eff OE_alloc rfl ?_
  rintro _ w1 ⟨b2, rfl, hb2, e2, hS⟩
  refine W ?_
  refine WL_eff (OE_call rfl (evs2 rfl rfl) (first_any (fun n => letN n || digN n) ld_any s _ hl)) rfl ?_
  rintro _ w2 ⟨rfl, hT⟩
  rw [first_ld]
  replace e2 := e2.up hT
  replace hS := hS.trans hT
  clear hT
  by_cases h12 : 12 < (s.takeWhile ldB).length
  · have hv : wordL s = .err 2 := by unfold wordL; simp only; rw [if_pos h12]
    repeat' (first | refine W1 ?_ | (exfalso; omega) | refine WL_split rfl rfl (fun hg => ?_) (fun hg => ?_) | refine WL_splitB rfl rfl (fun hg => ?_) (fun hg => ?_) | refine WC_cond rfl (fun hc => ?_) (fun hc => ?_) | refine WC_condB rfl (fun hc => ?_) (fun hc => ?_))
    refine WL_build (vs := []) rfl tk0 rfl ?_
    refine WL_eff0 (OE_storeA (us := Flat.enc (⟨0, 0, [], 0⟩ : Tkn)) rfl rfl rfl rfl (Flat.one _) e2 rfl) ?_
    rintro _ wz ⟨hT, e2'⟩
    refine W ?_
    refine WQ_retct rfl rfl rfl e2' rfl rfl ?_
    exact .mk ⟨by rw [hv]; rfl, hS.own hT (fun c hc => .inr (by simp at hc; omega))⟩
  · have hv : wordL s = .ok ⟨1, 0, s.take (s.takeWhile ldB).length, 0⟩ := by unfold wordL; simp only; rw [if_neg h12]
    generalize (s.takeWhile ldB).length = q at *
    repeat' (first | refine W1 ?_ | (exfalso; omega) | refine WL_split rfl rfl (fun hg => ?_) (fun hg => ?_) | refine WL_splitB rfl rfl (fun hg => ?_) (fun hg => ?_) | refine WC_cond rfl (fun hc => ?_) (fun hc => ?_) | refine WC_condB rfl (fun hc => ?_) (fun hc => ?_))
    refine WL_sliceT_h (r := q) rfl rfl rfl hle rfl ?_
    refine WL_build (vs := [(0, .int .i64 1), (2, str (s.take q))]) rfl (tk2 _ _) rfl ?_
    refine WL_eff0 (OE_storeA (us := Flat.enc (⟨1, 0, s.take q, 0⟩ : Tkn)) rfl rfl rfl rfl (Flat.one _) e2 rfl) ?_
    rintro _ wz ⟨hT, e2'⟩
    refine W ?_
    refine WQ_retct rfl rfl rfl e2' rfl rfl ?_
    exact .mk ⟨by rw [hv]; rfl, hS.own hT (fun c hc => .inr (by simp at hc; omega))⟩
theorem neqIf {P : Program} {n : Nat} {Q : Exit → Act → World → Prop} {e : Env} {w : World} {ops : Array Oper} {rest : List Oper} {d₀ : Nat} {ty : TypeId} {pos : String} {af : Array Edge} {t u p : Nat} {x y : Operand} {v : Value} {ds : TypeDesc} [hu : Und P t ds] (hds : ∃ l, ds = .interface l) (hx : ev e x = some (.iface p v)) (hy : ev e y = some .nilIface) (hdn : Nat.blt d₀ n = true) (kk : WL P n ops Q rest ((d₀, .bool true) :: e) w) :
    WL P n ops Q (⟨some d₀, .binOp .neq t x y u, ty, pos, af, none⟩ :: rest) e w := by
  refine WL_pure (v := .bool true) ⟨fun a ha => ?_⟩ hdn kk
  obtain ⟨l, rfl⟩ := hds
  simp only [execOp, ha.ev hx, ha.ev hy]
  have := run_equal_held_nil (P := P) (w := w) t p v (by rw [hu.h, Program.methodsAt, hu.h])
  simp [go_sem, binOp, this]
theorem neqNn {P : Program} {n : Nat} {Q : Exit → Act → World → Prop} {e : Env} {w : World} {ops : Array Oper} {rest : List Oper} {d₀ : Nat} {ty : TypeId} {pos : String} {af : Array Edge} {t u : Nat} {x : Operand} {ds : TypeDesc} [hu : Und P t ds] (hds : ∃ l, ds = .interface l) (hx : ev e x = some .nilIface) (hdn : Nat.blt d₀ n = true) (kk : WL P n ops Q rest ((d₀, .bool false) :: e) w) :
    WL P n ops Q (⟨some d₀, .binOp .neq t x (.const .nilIface) u, ty, pos, af, none⟩ :: rest) e w := by
  refine WL_pure (v := .bool false) ⟨fun a ha => ?_⟩ hdn kk
  obtain ⟨l, rfl⟩ := hds
  have hy : a.eval (.const .nilIface) = .nilIface := rfl
  simp only [execOp, ha.ev hx, hy]
  have := run_equal_nil_nil (P := P) (w := w) t (by rw [hu.h, Program.methodsAt, hu.h])
  simp [go_sem, binOp, eqGuard, this]
theorem stp_bytes (w : World) (el : TypeId) (t : ByteArray) : Stp [] w (Lib.bytesWorld w el t) := by
  refine ⟨rfl, rfl, rfl, ?_, fun b hb _ => Lib.bytesWorld_at_old w el _ b hb⟩
  rw [Lib.bytesWorld_size]
  omega
theorem atoiD_any (t : Str) (ev : Value) (w : World) (ht : t.all digB = true) (hne : t ≠ []) (hl : t.length ≤ 1000000) (hv4 : w.cell? ⟨4, 0, none⟩ = some ev) (hev : ev = .nilIface ∨ ∃ te pe, ev = .iface te pe) :
    Calls Tryz.prog 159 #[str t] w (Ret fun r w' => (if decN t ≤ 9223372036854775807 then r = .tuple #[.int .i64 (decN t : Int), .nilIface] else ∃ z p v, r = .tuple #[.int .i64 z, .iface p v]) ∧ Stp [] w w') := by
  have ha := atoiAll_dig hne ht
  by_cases h : decN t ≤ 9223372036854775807
  · rw [if_pos h] at ha
    refine (Tryz.strconv_Atoi_ok ⟨t.toArray⟩ (by rw [str_size]; omega) (decN t : Int) (by simpa using ha) w).mono ?_
    rintro e w' ⟨rfl, hw⟩
    refine .mk ⟨by rw [if_pos h], ?_⟩
    rcases hw with rfl | ⟨x, rfl⟩
    · exact Stp.refl _ _
    · exact stp_bytes _ _ _
  · rw [if_neg h] at ha
    refine (Tryz.strconv_Atoi_range ⟨t.toArray⟩ (by rw [str_size]; omega) (by simpa using ha) ev w hv4 hev).mono ?_
    rintro e w' ⟨N, rfl, _, _, hw⟩
    exact .mk ⟨by rw [if_neg h]; exact ⟨_, _, _, rfl⟩, Stp.of_below hw⟩
theorem numberX_any (s : Str) (ev : Value) (w : World) (hl : s.length ≤ 1000000) (hd : digB (s.getD 0 0) = true) (hne : s ≠ []) (hv4 : w.cell? ⟨4, 0, none⟩ = some ev) (hev : ev = .nilIface ∨ ∃ te pe, ev = .iface te pe) : Calls Tryz.prog 115 #[str s] w (Ret fun r w' => r = lxV (numberL s) ∧ Stp [] w w') := by
  have hle : (s.takeWhile digB).length ≤ s.length := by
    have := congrArg List.length (take_takeWhile (p := digB) s)
    simp at this
    omega
  have hall : (s.takeWhile digB).all digB = true := List.all_eq_true.2 fun c hc => mem_takeWhile hc
  have htk := take_takeWhile (p := digB) s
  have hpos : s.takeWhile digB ≠ [] := by
    cases s with
    | nil => exact absurd rfl hne
    | cons a r => simp only [List.getD_cons_zero] at hd; simp [hd]
  have hp0 : (s.takeWhile digB).length ≠ 0 := fun h => hpos (List.length_eq_zero_iff.1 h)
  have hnl : numberL s = if 1 < (s.takeWhile digB).length ∧ (s.takeWhile digB).getD 0 0 = 48 then .err 20 else if 2147483647 < decN (s.takeWhile digB) then .err 5 else .ok ⟨2, 0, s.takeWhile digB, decN (s.takeWhile digB)⟩ := rfl
  rw [hnl]
  have hfd := first_dig s
  refine calls_of_WC1 (n := 35) Tryz.func115 rfl rfl rfl ?_
  refine W ?_
  refine WL_eff OE_alloc rfl ?_
  rintro _ w1 ⟨b2, rfl, hb2, e2, hS⟩
  refine W ?_
  refine WL_eff (OE_call rfl (evs2 rfl rfl) (first_any digN digit_any s _ hl)) rfl ?_
  rintro _ w2 ⟨rfl, hT⟩
  rw [hfd]
  replace e2 := e2.up hT
  replace hS := hS.trans hT
  clear hT
  refine WL_sliceT_h (r := (s.takeWhile digB).length) rfl rfl rfl hle rfl ?_
  rw [htk]
  have hl2 : (s.takeWhile digB).length ≤ 1000000 := Nat.le_trans hle hl
  clear hnl htk hle hfd
  generalize s.takeWhile digB = t at *
  have hget : byte t 0 = ((t.getD 0 0).toNat : Int) := rfl
  have h48 : byte t 0 = 48 ↔ t.getD 0 0 = 48 := by
    rw [hget]
    constructor
    · intro h
      have h48 : (48 : UInt8).toNat = 48 := rfl
      exact UInt8.toNat_inj.1 (by omega)
    · intro h; rw [h]; rfl
  by_cases hz : 1 < t.length ∧ t.getD 0 0 = 48
  · rw [if_pos hz]
    have hz1 := hz.1
    have hz2 := h48.2 hz.2
    repeat' (first | refine W1 ?_ | (exfalso; omega) | refine WL_split rfl rfl (fun hg => ?_) (fun hg => ?_) | refine WL_splitB rfl rfl (fun hg => ?_) (fun hg => ?_) | refine WC_cond rfl (fun hc => ?_) (fun hc => ?_) | refine WC_condB rfl (fun hc => ?_) (fun hc => ?_))
    refine WL_indexT (i := 0) rfl rfl rfl (by omega) rfl ?_
    repeat' (first | refine W1 ?_ | (exfalso; omega) | refine WL_split rfl rfl (fun hg => ?_) (fun hg => ?_) | refine WL_splitB rfl rfl (fun hg => ?_) (fun hg => ?_) | refine WC_cond rfl (fun hc => ?_) (fun hc => ?_) | refine WC_condB rfl (fun hc => ?_) (fun hc => ?_))
    refine WL_build (vs := []) rfl tk0 rfl ?_
    refine WL_eff0 (OE_storeA (us := Flat.enc (⟨0, 0, [], 0⟩ : Tkn)) rfl rfl rfl rfl (Flat.one _) e2 rfl) ?_
    rintro _ wz ⟨hT, e2'⟩
    refine W ?_
    refine WQ_retct rfl rfl rfl e2' rfl rfl ?_
    exact .mk ⟨rfl, hS.own hT (fun c hc => .inr (by simp at hc; omega))⟩
  · rw [if_neg hz]
    refine W ?_
    refine WL_cutQ (σ := Unit) (fun _ => [(0, str s), (2, .pointer (some ⟨b2, 0, none⟩)), (4, str t), (18, .bool false)]) (fun _ w' => w' = w2) ?_ ?_
    · by_cases h1 : 1 < t.length
      · have h0 : ¬ byte t 0 = 48 := fun h => hz ⟨h1, h48.1 h⟩
        repeat' (first | refine W1 ?_ | (exfalso; omega) | refine WL_split rfl rfl (fun hg => ?_) (fun hg => ?_) | refine WL_splitB rfl rfl (fun hg => ?_) (fun hg => ?_) | refine WC_cond rfl (fun hc => ?_) (fun hc => ?_) | refine WC_condB rfl (fun hc => ?_) (fun hc => ?_))
        refine WL_indexT (i := 0) rfl rfl rfl (by omega) rfl ?_
        repeat' (first | refine W1 ?_ | (exfalso; omega) | refine WL_split rfl rfl (fun hg => ?_) (fun hg => ?_) | refine WL_splitB rfl rfl (fun hg => ?_) (fun hg => ?_) | refine WC_cond rfl (fun hc => ?_) (fun hc => ?_) | refine WC_condB rfl (fun hc => ?_) (fun hc => ?_))
        rw [decide_eq_false h0]
        exact WQ_cut () ⟨rfl, rfl, rfl, rfl, trivial⟩ rfl
      · repeat' (first | refine W1 ?_ | (exfalso; omega) | refine WL_split rfl rfl (fun hg => ?_) (fun hg => ?_) | refine WL_splitB rfl rfl (fun hg => ?_) (fun hg => ?_) | refine WC_cond rfl (fun hc => ?_) (fun hc => ?_) | refine WC_condB rfl (fun hc => ?_) (fun hc => ?_))
        exact WQ_cut () ⟨rfl, rfl, rfl, rfl, trivial⟩ rfl
    rintro _ wv hwv
    subst wv
    refine W ?_
    refine WL_eff (OE_call rfl (evs1 rfl) (atoiD_any t ev _ hall hpos hl2 (hS.cell (by simp) hv4) hev)) rfl ?_
    rintro _ w3 ⟨hr, hT⟩
    replace e2 := e2.up hT
    replace hS := hS.trans hT
    clear hT
    by_cases hmax : decN t ≤ 9223372036854775807
    · rw [if_pos hmax] at hr
      subst hr
      refine W ?_
      refine neqNn ⟨_, rfl⟩ rfl rfl ?_
      by_cases hbig : 2147483647 < decN t
      · rw [if_pos hbig]
        repeat' (first | refine W1 ?_ | (exfalso; omega) | refine WL_split rfl rfl (fun hg => ?_) (fun hg => ?_) | refine WL_splitB rfl rfl (fun hg => ?_) (fun hg => ?_) | refine WC_cond rfl (fun hc => ?_) (fun hc => ?_) | refine WC_condB rfl (fun hc => ?_) (fun hc => ?_))
        refine WL_build (vs := []) rfl tk0 rfl ?_
        refine WL_eff0 (OE_storeA (us := Flat.enc (⟨0, 0, [], 0⟩ : Tkn)) rfl rfl rfl rfl (Flat.one _) e2 rfl) ?_
        rintro _ wz ⟨hT, e2'⟩
        refine W ?_
        refine WQ_retct rfl rfl rfl e2' rfl rfl ?_
        exact .mk ⟨rfl, hS.own hT (fun c hc => .inr (by simp at hc; omega))⟩
      · rw [if_neg hbig]
        repeat' (first | refine W1 ?_ | (exfalso; omega) | refine WL_split rfl rfl (fun hg => ?_) (fun hg => ?_) | refine WL_splitB rfl rfl (fun hg => ?_) (fun hg => ?_) | refine WC_cond rfl (fun hc => ?_) (fun hc => ?_) | refine WC_condB rfl (fun hc => ?_) (fun hc => ?_))
        refine WL_build (vs := [(0, .int .i64 2), (2, str t), (3, .int .i64 (decN t : Int))]) rfl (tk3 _ _ _) rfl ?_
        refine WL_eff0 (OE_storeA (us := Flat.enc (⟨2, 0, t, decN t⟩ : Tkn)) rfl rfl rfl rfl (Flat.one _) e2 rfl) ?_
        rintro _ wz ⟨hT, e2'⟩
        refine W ?_
        refine WQ_retct rfl rfl rfl e2' rfl rfl ?_
        exact .mk ⟨rfl, hS.own hT (fun c hc => .inr (by simp at hc; omega))⟩
    · rw [if_neg hmax] at hr
      obtain ⟨z, p, v, rfl⟩ := hr
      rw [if_pos (by omega)]
      refine W ?_
      refine neqIf ⟨_, rfl⟩ rfl rfl rfl ?_
      repeat' (first | refine W1 ?_ | (exfalso; omega) | refine WL_split rfl rfl (fun hg => ?_) (fun hg => ?_) | refine WL_splitB rfl rfl (fun hg => ?_) (fun hg => ?_) | refine WC_cond rfl (fun hc => ?_) (fun hc => ?_) | refine WC_condB rfl (fun hc => ?_) (fun hc => ?_))
      refine WL_build (vs := []) rfl tk0 rfl ?_
      refine WL_eff0 (OE_storeA (us := Flat.enc (⟨0, 0, [], 0⟩ : Tkn)) rfl rfl rfl rfl (Flat.one _) e2 rfl) ?_
      rintro _ wz ⟨hT, e2'⟩
      refine W ?_
      refine WQ_retct rfl rfl rfl e2' rfl rfl ?_
      exact .mk ⟨rfl, hS.own hT (fun c hc => .inr (by simp at hc; omega))⟩
end Go.Proofs.YtgpibcgebpgmiaaGreatDoor


/-
The lexer's reader of days, and the lexer whole, walked.
-/
namespace Go.Proofs.YtgpibcgebpgmiaaGreatDoor
open Go Go.Eng Go.RowKit Go.Proofs
set_option linter.unusedVariables false
theorem wrap_i32_of {z : Int} (h0 : 0 ≤ z) (h1 : z < 2147483648) : IntKind.i32.wrap z = z := by
  rw [IntKind.wrap_i32]
  omega
theorem form_lo : ∀ i, i < formL.length → (formL.getD i 0).toNat < 128 := by decide
theorem zip_fit {s : Str} (h : 11 ≤ s.length) (hf : ∀ j, j < 11 → fitL (formL.getD j 0) (s.getD j 0) = true) : ((formL.zip s).all fun p => fitL p.1 p.2) = true := by
  rw [List.all_eq_true]
  intro p hp
  obtain ⟨i, hi, rfl⟩ := List.getElem_of_mem hp
  have h1 : i < 11 := by
    have : formL.length = 11 := rfl
    simp at hi
    omega
  have := hf i h1
  rw [List.getElem_zip]
  have e1 : formL.getD i 0 = formL[i]'(by show i < 11; omega) := by
    have : i < formL.length := h1
    simp [List.getD, this]
  have e2 : s.getD i 0 = s[i]'(by omega) := by
    have : i < s.length := by omega
    simp [List.getD, this]
  rw [e1, e2] at this
  exact this
theorem zip_nofit {s : Str} {j : Nat} (h : 11 ≤ s.length) (hj : j < 11) (hf : fitL (formL.getD j 0) (s.getD j 0) = false) : ((formL.zip s).all fun p => fitL p.1 p.2) = false := by
  cases hb : ((formL.zip s).all fun p => fitL p.1 p.2) with
  | false => rfl
  | true =>
    rw [List.all_eq_true] at hb
    have hl : j < (formL.zip s).length := by
      have : formL.length = 11 := rfl
      simp
      omega
    have := hb _ (List.getElem_mem hl)
    rw [List.getElem_zip] at this
    have e1 : formL.getD j 0 = formL[j]'(by show j < 11; omega) := by
      have : j < formL.length := hj
      simp [List.getD, this]
    have e2 : s.getD j 0 = s[j]'(by omega) := by
      have : j < s.length := by omega
      simp [List.getD, this]
    rw [e1, e2] at hf
    rw [hf] at this
    cases this
set_option maxHeartbeats 1000000 in
theorem day_any (s : Str) (w : World) (hLG : LenG w) (hl : s.length ≤ 1000000) : Calls Tryz.prog 116 #[str s] w (Ret fun r w' => r = lxV (dayL s) ∧ Stp [] w w') := by
  have h5w : 5 < w.heap.size := by have := block_lt_of_cell (hLG 0 0 rfl); simpa using this
  refine calls_of_WC1 (n := 52) Tryz.func116 rfl rfl rfl ?_
  refine W ?_
  refine WL_eff OE_alloc rfl ?_
  rintro _ w1 ⟨b2, rfl, hb2, e2, hS⟩
  by_cases h11 : s.length < 11
  · have hv : dayL s = .err 20 := by unfold dayL; rw [if_pos h11]
    rw [hv]
    repeat' (first | refine W1 ?_ | (exfalso; omega) | refine WL_split rfl rfl (fun hg => ?_) (fun hg => ?_) | refine WL_splitB rfl rfl (fun hg => ?_) (fun hg => ?_) | refine WC_cond rfl (fun hc => ?_) (fun hc => ?_) | refine WC_condB rfl (fun hc => ?_) (fun hc => ?_))
    refine WL_build (vs := []) rfl tk0 rfl ?_
    refine WL_eff0 (OE_storeA (us := Flat.enc (⟨0, 0, [], 0⟩ : Tkn)) rfl rfl rfl rfl (Flat.one _) e2 rfl) ?_
    rintro _ wz ⟨hT, e2'⟩
    refine W ?_
    refine WQ_retct rfl rfl rfl e2' rfl rfl ?_
    exact .mk ⟨rfl, hS.own hT (fun c hc => .inr (by simp at hc; omega))⟩
  · have hv0 : dayL s = if ((formL.zip s).all fun p => fitL p.1 p.2) then (let d := dateP ((s.take 11).drop 1); if d.2 = 0 then .ok ⟨3, 0, s.take 11, d.1⟩ else .err 5) else .err 20 := by unfold dayL; rw [if_neg h11]
    rw [hv0]
    replace hLG := hLG.up hS
    repeat' (first | refine W1 ?_ | (exfalso; omega) | refine WL_split rfl rfl (fun hg => ?_) (fun hg => ?_) | refine WL_splitB rfl rfl (fun hg => ?_) (fun hg => ?_) | refine WC_cond rfl (fun hc => ?_) (fun hc => ?_) | refine WC_condB rfl (fun hc => ?_) (fun hc => ?_))
    refine WL_eff (OE_range (s := formL) rfl) rfl ?_
    rintro _ w2 ⟨bi, rfl, hbi, hI, hT⟩
    have hbiw : w.heap.size ≤ bi := Nat.le_trans hS.size hbi
    have ni2 : b2 ≠ bi := by have := e2.lt; omega
    have h5i : (5 : Nat) ≠ bi := by omega
    replace e2 := e2.up hT
    replace hLG := hLG.up hT
    replace hS := hS.trans hT
    clear hT
    refine W ?_
    refine WC_loop (σ := Nat) (fun q => [(0, str s), (2, .pointer (some ⟨b2, 0, none⟩)), (13, .pointer (some ⟨bi, 0, none⟩))])
      (fun q w' => q ≤ 11 ∧ Itr w' bi formL q ∧ (∀ j, j < q → fitL (formL.getD j 0) (s.getD j 0) = true) ∧ (∃ cs : List Value, cs.length = 4 ∧ Blk w' b2 61 cs) ∧ LenG w' ∧ Stp [] w w')
      (fun q => 11 - q) 0 ⟨rfl, rfl, rfl, trivial⟩ ⟨Nat.zero_le _, hI, fun j h => absurd h (Nat.not_lt_zero _), ⟨_, rfl, e2⟩, hLG, hS⟩ ?_
    clear hI e2 hLG hS
    rintro q w3 ⟨hq, hI, hfit, ⟨cs2, hc2, e2⟩, hLG, hS⟩
    match cs2, hc2 with
    | [q0, q1, q2, q3], _ =>
    have hfl : formL.length = 11 := rfl
    by_cases hlt : q < 11
    · have hqf : q < formL.length := by omega
      have hlo := form_lo q hqf
      have hdec : dec formL q = ((formL.getD q 0).toNat, 1) := by
        have e1 : formL.getD q 0 = formL[q]'hqf := by simp [List.getD, hqf]
        rw [e1] at hlo ⊢
        exact dec_ascii hqf hlo
      refine W ?_
      refine WL_eff (OE_next rfl hI hqf) rfl ?_
      rintro _ w4 ⟨rfl, hI4, hT⟩
      rw [hdec] at hI4 ⊢
      dsimp only at hI4 ⊢
      replace e2 := e2.ext hT (by simpa using ni2)
      replace hLG := hLG.ext hT (by simpa using h5i)
      replace hS := hS.own hT (fun c hc => .inr (by simp at hc; omega))
      clear hT hI
      have hbr := byte_range s q
      repeat' (first | refine W1 ?_ | (exfalso; omega) | refine WL_split rfl rfl (fun hg => ?_) (fun hg => ?_) | refine WL_splitB rfl rfl (fun hg => ?_) (fun hg => ?_) | refine WC_cond rfl (fun hc => ?_) (fun hc => ?_) | refine WC_condB rfl (fun hc => ?_) (fun hc => ?_))
      refine WL_pure (PR_convTo (b := byte s q) rfl (wrap_i32_of hbr.1 (by omega))) rfl ?_
      have hby : byte s q = ((s.getD q 0).toNat : Int) := rfl
      by_cases hc100 : formL.getD q 0 = 100
      · rw [hc100]
        have h100 : (((100 : UInt8).toNat : Nat) : Int) = 100 := rfl
        rw [h100]
        have hfq : fitL (formL.getD q 0) (s.getD q 0) = digB (s.getD q 0) := by unfold fitL; rw [if_pos hc100]
        repeat' (first | refine W1 ?_ | (exfalso; omega) | refine WL_split rfl rfl (fun hg => ?_) (fun hg => ?_) | refine WL_splitB rfl rfl (fun hg => ?_) (fun hg => ?_) | refine WC_cond rfl (fun hc => ?_) (fun hc => ?_) | refine WC_condB rfl (fun hc => ?_) (fun hc => ?_))
        rw [hby]
        refine WL_eff (OE_call rfl (evs1 rfl) (digit_any (s.getD q 0).toNat _)) rfl ?_
        rintro _ wv ⟨rfl, hwv⟩
        subst wv
        have hdg : digN (s.getD q 0).toNat = digB (s.getD q 0) := rfl
        rw [hdg]
        cases hd : digB (s.getD q 0)
        · have hz := zip_nofit (s := s) (by omega) hlt (by rw [hfq]; exact hd)
          rw [if_neg (by rw [hz]; decide)]
          repeat' (first | refine W1 ?_ | (exfalso; omega) | refine WL_split rfl rfl (fun hg => ?_) (fun hg => ?_) | refine WL_splitB rfl rfl (fun hg => ?_) (fun hg => ?_) | refine WC_cond rfl (fun hc => ?_) (fun hc => ?_) | refine WC_condB rfl (fun hc => ?_) (fun hc => ?_))
          refine WL_build (vs := []) rfl tk0 rfl ?_
          refine WL_eff0 (OE_storeA (us := Flat.enc (⟨0, 0, [], 0⟩ : Tkn)) rfl rfl rfl rfl (Flat.one _) e2 rfl) ?_
          rintro _ wz ⟨hT, e2'⟩
          refine W ?_
          refine WQ_retct rfl rfl rfl e2' rfl rfl ?_
          exact .mk ⟨rfl, hS.own hT (fun c hc => .inr (by simp at hc; omega))⟩
        · repeat' (first | refine W1 ?_ | (exfalso; omega) | refine WL_split rfl rfl (fun hg => ?_) (fun hg => ?_) | refine WL_splitB rfl rfl (fun hg => ?_) (fun hg => ?_) | refine WC_cond rfl (fun hc => ?_) (fun hc => ?_) | refine WC_condB rfl (fun hc => ?_) (fun hc => ?_))
          refine WQ_loop (q + 1) ⟨rfl, rfl, rfl, trivial⟩ ⟨hlt, hI4, fun j hj => ?_, ⟨_, rfl, e2⟩, hLG, hS⟩ (by omega)
          rcases Nat.lt_or_ge j q with h | h
          · exact hfit j h
          · obtain rfl : j = q := by omega
            rw [hfq]; exact hd
      · have hne : ¬ ((formL.getD q 0).toNat : Int) = 100 := fun h => hc100 (by
          have h100 : (100 : UInt8).toNat = 100 := rfl
          exact UInt8.toNat_inj.1 (by omega))
        have hfq : fitL (formL.getD q 0) (s.getD q 0) = decide (s.getD q 0 = formL.getD q 0) := by unfold fitL; rw [if_neg hc100]
        have heq : byte s q = ((formL.getD q 0).toNat : Int) ↔ s.getD q 0 = formL.getD q 0 := by
          rw [hby]
          constructor
          · intro h; exact UInt8.toNat_inj.1 (by omega)
          · intro h; rw [h]
        by_cases hx : byte s q = ((formL.getD q 0).toNat : Int)
        · repeat' (first | refine W1 ?_ | (exfalso; omega) | refine WL_split rfl rfl (fun hg => ?_) (fun hg => ?_) | refine WL_splitB rfl rfl (fun hg => ?_) (fun hg => ?_) | refine WC_cond rfl (fun hc => ?_) (fun hc => ?_) | refine WC_condB rfl (fun hc => ?_) (fun hc => ?_))
          refine WQ_loop (q + 1) ⟨rfl, rfl, rfl, trivial⟩ ⟨hlt, hI4, fun j hj => ?_, ⟨_, rfl, e2⟩, hLG, hS⟩ (by omega)
          rcases Nat.lt_or_ge j q with h | h
          · exact hfit j h
          · obtain rfl : j = q := by omega
            rw [hfq]; exact decide_eq_true (heq.1 hx)
        · have hz := zip_nofit (s := s) (by omega) hlt (by rw [hfq]; exact decide_eq_false (fun h => hx (heq.2 h)))
          rw [if_neg (by rw [hz]; decide)]
          repeat' (first | refine W1 ?_ | (exfalso; omega) | refine WL_split rfl rfl (fun hg => ?_) (fun hg => ?_) | refine WL_splitB rfl rfl (fun hg => ?_) (fun hg => ?_) | refine WC_cond rfl (fun hc => ?_) (fun hc => ?_) | refine WC_condB rfl (fun hc => ?_) (fun hc => ?_))
          refine WL_build (vs := []) rfl tk0 rfl ?_
          refine WL_eff0 (OE_storeA (us := Flat.enc (⟨0, 0, [], 0⟩ : Tkn)) rfl rfl rfl rfl (Flat.one _) e2 rfl) ?_
          rintro _ wz ⟨hT, e2'⟩
          refine W ?_
          refine WQ_retct rfl rfl rfl e2' rfl rfl ?_
          exact .mk ⟨rfl, hS.own hT (fun c hc => .inr (by simp at hc; omega))⟩
    · have hq11 : q = 11 := by omega
      subst hq11
      have hz := zip_fit (s := s) (by omega) hfit
      rw [if_pos hz]
      refine W ?_
      refine WL_eff (OE_nextEnd rfl hI (by omega)) rfl ?_
      rintro _ wv ⟨rfl, hwv⟩
      subst wv
      refine W ?_
      refine WL_sliceT_lh (l := 1) (r := 11) rfl rfl rfl rfl rfl (by omega) (by omega) rfl ?_
      refine WL_eff (OE_call rfl (evs1 rfl) (DParse_any _ _ hLG (by simp; omega))) rfl ?_
      rintro _ w5 ⟨rfl, hT⟩
      replace e2 := e2.up hT
      replace hS := hS.trans hT
      clear hT
      dsimp only
      by_cases h0 : (dateP ((s.take 11).drop 1)).2 = 0
      · rw [if_pos h0]
        repeat' (first | refine W1 ?_ | (exfalso; omega) | refine WL_split rfl rfl (fun hg => ?_) (fun hg => ?_) | refine WL_splitB rfl rfl (fun hg => ?_) (fun hg => ?_) | refine WC_cond rfl (fun hc => ?_) (fun hc => ?_) | refine WC_condB rfl (fun hc => ?_) (fun hc => ?_))
        refine WL_sliceT_h (r := 11) rfl rfl rfl (by omega) rfl ?_
        refine W ?_
        refine WL_build (vs := [(0, .int .i64 3), (2, str (s.take 11)), (3, .int .i64 (dateP ((s.take 11).drop 1)).1)]) rfl (tk3 _ _ _) rfl ?_
        refine WL_eff0 (OE_storeA (us := Flat.enc (⟨3, 0, s.take 11, (dateP ((s.take 11).drop 1)).1⟩ : Tkn)) rfl rfl rfl rfl (Flat.one _) e2 rfl) ?_
        rintro _ wz ⟨hT, e2'⟩
        refine W ?_
        refine WQ_retct rfl rfl rfl e2' rfl rfl ?_
        exact .mk ⟨rfl, hS.own hT (fun c hc => .inr (by simp at hc; omega))⟩
      · rw [if_neg h0]
        repeat' (first | refine W1 ?_ | (exfalso; omega) | refine WL_split rfl rfl (fun hg => ?_) (fun hg => ?_) | refine WL_splitB rfl rfl (fun hg => ?_) (fun hg => ?_) | refine WC_cond rfl (fun hc => ?_) (fun hc => ?_) | refine WC_condB rfl (fun hc => ?_) (fun hc => ?_))
        refine WL_build (vs := []) rfl tk0 rfl ?_
        refine WL_eff0 (OE_storeA (us := Flat.enc (⟨0, 0, [], 0⟩ : Tkn)) rfl rfl rfl rfl (Flat.one _) e2 rfl) ?_
        rintro _ wz ⟨hT, e2'⟩
        refine W ?_
        refine WQ_retct rfl rfl rfl e2' rfl rfl ?_
        exact .mk ⟨rfl, hS.own hT (fun c hc => .inr (by simp at hc; omega))⟩
end Go.Proofs.YtgpibcgebpgmiaaGreatDoor


/-
The lexer whole, walked.
-/
namespace Go.Eng
open Go Go.RowKit Go.Proofs
set_option linter.unusedVariables false
theorem readL_err {s : Str} {e : Int} (h : readL s = .err e) : e ≠ 0 := by
  unfold readL at h
  simp only at h
  split at h
  · unfold wordL at h
    simp only at h
    split at h <;> simp at h
    omega
  · split at h
    · unfold numberL at h
      simp only at h
      split at h
      · simp at h; omega
      · split at h <;> simp at h
        omega
    · split at h
      · unfold dayL at h
        split at h
        · simp at h; omega
        · split at h
          · simp only at h
            split at h <;> simp at h
            omega
          · simp at h; omega
      · unfold symbolL at h
        split at h
        · simp at h
        · split at h <;> simp at h
          omega
theorem nlM_pos {s : Str} (h : s.getD 0 0 = 35) : 1 ≤ nlM s := by
  cases s with
  | nil => simp at h
  | cons a r =>
    simp only [List.getD_cons_zero] at h
    subst h
    unfold nlM
    have h0 : 0 < (35 :: r : Str).length := by simp
    have hl : (35 :: r : Str).length = r.length + 1 := by simp
    rw [hl]
    unfold firstM
    rw [if_pos h0, dec_ascii h0 (by show (35 : UInt8).toNat < 128; decide)]
    simp only
    have hn : notNl ((35 :: r : Str)[0]).toNat = true := by show notNl (35 : UInt8).toNat = true; decide
    rw [if_pos hn]
    exact firstM_ge _ _ _ _ (by simp)
end Go.Eng
namespace Go.Proofs.YtgpibcgebpgmiaaGreatDoor
open Go Go.Eng Go.RowKit Go.Proofs
set_option linter.unusedVariables false
theorem buildST1 (t : Tkn) (w : World) : (Instr.buildSlice 62 1 #[(0, .agg (Flat.enc t).toArray)]).run Tryz.prog w = .ok (.slice (some ⟨w.heap.size, 0, none⟩) 1 1) (w.alloc (.cells (Flat.enc t).toArray 61)) := by kernel_rfl
/-- what the lexer gives -/
def TkV (w w' : World) (r : Value) : Tks → Prop
  | .err a c => r = .tuple #[.slice none 0 0, .int .i64 a, .int .i64 c]
  | .ok l => ∃ tv, r = .tuple #[tv, .int .i64 0, .int .i64 0] ∧ RowF 61 w w' tv l
set_option maxHeartbeats 4000000 in
theorem Tokens_any (s : Str) (ev : Value) (w : World) (hLG : LenG w) (hv4 : w.cell? ⟨4, 0, none⟩ = some ev) (hev : ev = .nilIface ∨ ∃ te pe, ev = .iface te pe) (hl : s.length ≤ 1000000) :
    Calls Tryz.prog 65 #[str s] w (Ret fun r w' => TkV w w' r (tokensM s) ∧ Stp [] w w') := by
  unfold tokensM
  refine calls_of_WC1 (n := 72) Tryz.func65 rfl rfl rfl ?_
  refine W ?_
  refine WC_scope ?_
  by_cases h4 : 4000 < s.length
  · rw [if_pos h4]
    repeat' (first | refine W1 ?_ | (exfalso; omega) | refine WL_split rfl rfl (fun hg => ?_) (fun hg => ?_) | refine WL_splitB rfl rfl (fun hg => ?_) (fun hg => ?_) | refine WC_cond rfl (fun hc => ?_) (fun hc => ?_) | refine WC_condB rfl (fun hc => ?_) (fun hc => ?_))
    repeat (first | refine WQ_noGoto_ret ?_ | refine W1 ?_)
    first | refine WQ_ret1 rfl rfl ?_ | refine WQ_ret2 rfl rfl rfl ?_ | refine WQ_ret3 rfl rfl rfl rfl ?_ | refine WQ_ret0 rfl ?_ | refine WQ_end0 rfl ?_
    exact .mk ⟨rfl, Stp.refl _ _⟩
  rw [if_neg h4]
  generalize hR : tokensG nlM s (s.length + 1) 0 [] = R
  repeat' (first | refine W1 ?_ | (exfalso; omega) | refine WL_split rfl rfl (fun hg => ?_) (fun hg => ?_) | refine WL_splitB rfl rfl (fun hg => ?_) (fun hg => ?_) | refine WC_cond rfl (fun hc => ?_) (fun hc => ?_) | refine WC_condB rfl (fun hc => ?_) (fun hc => ?_))
  refine WC_label ?_
  repeat' (first | refine W1 ?_ | (exfalso; omega) | refine WL_split rfl rfl (fun hg => ?_) (fun hg => ?_) | refine WL_splitB rfl rfl (fun hg => ?_) (fun hg => ?_) | refine WC_cond rfl (fun hc => ?_) (fun hc => ?_) | refine WC_condB rfl (fun hc => ?_) (fun hc => ?_))
  refine WC_loop (σ := Nat × Nat × List Tkn × Value) (fun q => [(0, str s), (5, q.2.2.2), (6, .int .i64 (q.2.1 : Int))])
    (fun q w' => tokensG nlM s q.1 q.2.1 q.2.2.1 = R ∧ s.length < q.2.1 + q.1 ∧ q.2.1 ≤ s.length ∧ q.2.2.1.length ≤ q.2.1 ∧ RowF 61 w w' q.2.2.2 q.2.2.1)
    (fun q => q.1) (s.length + 1, 0, [], .slice none 0 0) ⟨rfl, rfl, rfl, trivial⟩ ⟨hR, by dsimp only; omega, Nat.zero_le _, Nat.le_refl _, RowF.nil⟩ ?_
  clear hR
  rintro ⟨f, q, l, lv⟩ w1 ⟨hR, hf, hq, hll, hrow⟩
  dsimp only at hR hf hq hll hrow ⊢
  have hrow0 := hrow
  cases f with
  | zero => omega
  | succ f =>
  simp only [tokensG] at hR
  by_cases hlt : q < s.length
  rotate_left
  · rw [if_neg hlt] at hR
    subst hR
    repeat' (first | refine W1 ?_ | (exfalso; omega) | refine WL_split rfl rfl (fun hg => ?_) (fun hg => ?_) | refine WL_splitB rfl rfl (fun hg => ?_) (fun hg => ?_) | refine WC_cond rfl (fun hc => ?_) (fun hc => ?_) | refine WC_condB rfl (fun hc => ?_) (fun hc => ?_))
    refine WL_build (vs := [(0, .int .i64 0), (1, .int .i64 (q : Int))]) rfl (tk1 _ _) rfl ?_
    refine WL_eff (OE_buildSlice (vs := [(0, .agg (Flat.enc (⟨0, (q : Int), [], 0⟩ : Tkn)).toArray)]) rfl (buildST1 _)) rfl ?_
    intro bv w3 hN
    have hbv : SlV (ob lv) w3 bv [(⟨0, (q : Int), [], 0⟩ : Tkn)] := hN.slv (fun b hb => (hrow.ob_le b hb).2) rfl rfl (by simp [maxLen])
    replace hrow := hrow.up (NewSl.stp hN)
    clear hN
    refine WL_eff (OE_appF rfl (by decide) rfl rfl hrow hbv (by simp only [List.length_cons, List.length_nil]; omega) (by simp only [List.length_cons, List.length_nil, maxLen]; omega)) rfl ?_
    rintro lv' w4 ⟨hrow', hT, hown⟩
    repeat' (first | refine W1 ?_ | (exfalso; omega) | refine WL_split rfl rfl (fun hg => ?_) (fun hg => ?_) | refine WL_splitB rfl rfl (fun hg => ?_) (fun hg => ?_) | refine WC_cond rfl (fun hc => ?_) (fun hc => ?_) | refine WC_condB rfl (fun hc => ?_) (fun hc => ?_))
    repeat (first | refine WQ_noGoto_ret ?_ | refine W1 ?_)
    first | refine WQ_ret1 rfl rfl ?_ | refine WQ_ret2 rfl rfl rfl ?_ | refine WQ_ret3 rfl rfl rfl rfl ?_ | refine WQ_ret0 rfl ?_ | refine WQ_end0 rfl ?_
    exact .mk ⟨⟨lv', rfl, hrow'⟩, hrow'.2⟩
  rw [if_pos hlt] at hR
  have hne : s.drop q ≠ [] := fun h => by have := congrArg List.length h; simp at this; omega
  have hdl : (s.drop q).length ≠ 0 := fun h => hne (List.length_eq_zero_iff.1 h)
  have hdl2 : (s.drop q).length ≤ 1000000 := by simp; omega
  have hLG1 := hLG.up hrow.2
  have hv41 := hrow.2.cell (by simp) hv4
  repeat' (first | refine W1 ?_ | (exfalso; omega) | refine WL_split rfl rfl (fun hg => ?_) (fun hg => ?_) | refine WL_splitB rfl rfl (fun hg => ?_) (fun hg => ?_) | refine WC_cond rfl (fun hc => ?_) (fun hc => ?_) | refine WC_condB rfl (fun hc => ?_) (fun hc => ?_))
  refine WL_sliceT_l (l := q) rfl rfl rfl (by omega) rfl ?_
  repeat' (first | refine W1 ?_ | (exfalso; omega) | refine WL_split rfl rfl (fun hg => ?_) (fun hg => ?_) | refine WL_splitB rfl rfl (fun hg => ?_) (fun hg => ?_) | refine WC_cond rfl (fun hc => ?_) (fun hc => ?_) | refine WC_condB rfl (fun hc => ?_) (fun hc => ?_))
  have hby : byte (s.drop q) 0 = (((s.drop q).getD 0 0).toNat : Int) := rfl
  have hbr := byte_range (s.drop q) 0
  refine WL_indexT (i := 0) rfl rfl rfl (by omega) rfl ?_
  refine WL_pure (PR_convTo (b := byte (s.drop q) 0) rfl (wrap_i32_of hbr.1 (by omega))) rfl ?_
  rw [hby]
  repeat' (first | refine W1 ?_ | (exfalso; omega) | refine WL_split rfl rfl (fun hg => ?_) (fun hg => ?_) | refine WL_splitB rfl rfl (fun hg => ?_) (fun hg => ?_) | refine WC_cond rfl (fun hc => ?_) (fun hc => ?_) | refine WC_condB rfl (fun hc => ?_) (fun hc => ?_))
  refine WL_eff (OE_call rfl (evs2 rfl rfl) (hasSpace_any ((s.drop q).getD 0 0) _)) rfl ?_
  rintro _ w2 ⟨rfl, hT⟩
  replace hrow := hrow.up hT
  replace hLG1 := hLG1.up hT
  replace hv41 := hT.cell (by simp) hv41
  have hrow0 := hrow
  clear hT
  cases hsp : spaceL ((s.drop q).getD 0 0)
  rotate_left
  · rw [if_pos hsp] at hR
    repeat' (first | refine W1 ?_ | (exfalso; omega) | refine WL_split rfl rfl (fun hg => ?_) (fun hg => ?_) | refine WL_splitB rfl rfl (fun hg => ?_) (fun hg => ?_) | refine WC_cond rfl (fun hc => ?_) (fun hc => ?_) | refine WC_condB rfl (fun hc => ?_) (fun hc => ?_))
    repeat (first | refine WQ_noGoto_exit ?_ | refine W1 ?_)
    exact WQ_loop (f, q + 1, l, lv) ⟨rfl, rfl, rfl, trivial⟩ ⟨hR, by dsimp only; omega, by dsimp only; omega, by dsimp only; omega, hrow⟩ (by dsimp only; omega)
  rw [if_neg (by rw [hsp]; decide)] at hR
  have hns : (s.drop q).getD 0 0 ≠ 32 := fun h => by rw [h] at hsp; exact absurd hsp (by decide)
  by_cases h35 : (s.drop q).getD 0 0 = 35
  · rw [if_pos h35] at hR
    have hnp := nlM_pos h35
    have hnl : nlM (s.drop q) ≤ (s.drop q).length := firstM_le _ _ _ _
    have hnl2 : (s.drop q).length = s.length - q := by simp
    rw [h35]
    have h35' : (((35 : UInt8).toNat : Nat) : Int) = 35 := rfl
    rw [h35']
    repeat' (first | refine W1 ?_ | (exfalso; omega) | refine WL_split rfl rfl (fun hg => ?_) (fun hg => ?_) | refine WL_splitB rfl rfl (fun hg => ?_) (fun hg => ?_) | refine WC_cond rfl (fun hc => ?_) (fun hc => ?_) | refine WC_condB rfl (fun hc => ?_) (fun hc => ?_))
    refine WL_eff (OE_call rfl (evs2 rfl rfl) (first_any notNl nl_any (s.drop q) _ hdl2)) rfl ?_
    rintro _ w3 ⟨rfl, hT⟩
    replace hrow := hrow.up hT
    have hnlm : firstM (s.drop q) notNl (s.drop q).length 0 = nlM (s.drop q) := rfl
    rw [hnlm]
    repeat' (first | refine W1 ?_ | (exfalso; omega) | refine WL_split rfl rfl (fun hg => ?_) (fun hg => ?_) | refine WL_splitB rfl rfl (fun hg => ?_) (fun hg => ?_) | refine WC_cond rfl (fun hc => ?_) (fun hc => ?_) | refine WC_condB rfl (fun hc => ?_) (fun hc => ?_))
    repeat (first | refine WQ_noGoto_exit ?_ | refine W1 ?_)
    exact WQ_loop (f, q + nlM (s.drop q), l, lv) ⟨rfl, rfl, rfl, trivial⟩ ⟨hR, by dsimp only; omega, by dsimp only; omega, by dsimp only; omega, hrow⟩ (by dsimp only; omega)
  rw [if_neg h35] at hR
  have hn35 : ¬ ((((s.drop q).getD 0 0).toNat : Nat) : Int) = 35 := fun h => h35 (by
    have h35' : (35 : UInt8).toNat = 35 := rfl
    exact UInt8.toNat_inj.1 (by omega))
  repeat' (first | refine W1 ?_ | (exfalso; omega) | refine WL_split rfl rfl (fun hg => ?_) (fun hg => ?_) | refine WL_splitB rfl rfl (fun hg => ?_) (fun hg => ?_) | refine WC_cond rfl (fun hc => ?_) (fun hc => ?_) | refine WC_condB rfl (fun hc => ?_) (fun hc => ?_))
  refine WL_eff (OE_call rfl (evs1 rfl) (letter_any ((s.drop q).getD 0 0).toNat _)) rfl ?_
  rintro _ wv ⟨rfl, hwv⟩
  subst wv
  have hlb : letN ((s.drop q).getD 0 0).toNat = letB ((s.drop q).getD 0 0) := rfl
  rw [hlb]
  cases hlt1 : letB ((s.drop q).getD 0 0)
  rotate_left
  · have hrd : readL (s.drop q) = wordL (s.drop q) := by unfold readL; simp only [hlt1, if_true]
    repeat' (first | refine W1 ?_ | (exfalso; omega) | refine WL_split rfl rfl (fun hg => ?_) (fun hg => ?_) | refine WL_splitB rfl rfl (fun hg => ?_) (fun hg => ?_) | refine WC_cond rfl (fun hc => ?_) (fun hc => ?_) | refine WC_condB rfl (fun hc => ?_) (fun hc => ?_))
    cases hr : readL (s.drop q) with
    | err e =>
      rw [hr] at hR
      subst hR
      have he := readL_err hr
      refine WL_eff (OE_call rfl (evs1 rfl) (wordL_any (s.drop q) _ hdl2)) rfl ?_
      rintro _ w4 ⟨rfl, hT⟩
      rw [← hrd, hr]
      simp only [lxV]
      repeat' (first | refine W1 ?_ | (exfalso; omega) | refine WL_split rfl rfl (fun hg => ?_) (fun hg => ?_) | refine WL_splitB rfl rfl (fun hg => ?_) (fun hg => ?_) | refine WC_cond rfl (fun hc => ?_) (fun hc => ?_) | refine WC_condB rfl (fun hc => ?_) (fun hc => ?_))
      refine WL_eff OE_alloc rfl ?_
      rintro _ w5 ⟨b10, rfl, hb10, e10, hT2⟩
      refine WL_eff0 (OE_storeA (us := Flat.enc (⟨0, 0, [], 0⟩ : Tkn)) rfl rfl rfl rfl (Flat.one _) e10 rfl) ?_
      rintro _ w6 ⟨hT3, e10'⟩
      have hSS := (hrow.2.trans hT).trans (hT2.own hT3 (fun c hc => .inr (by simp at hc; omega)))
      repeat' (first | refine W1 ?_ | (exfalso; omega) | refine WL_split rfl rfl (fun hg => ?_) (fun hg => ?_) | refine WL_splitB rfl rfl (fun hg => ?_) (fun hg => ?_) | refine WC_cond rfl (fun hc => ?_) (fun hc => ?_) | refine WC_condB rfl (fun hc => ?_) (fun hc => ?_))
      repeat (first | refine WQ_noGoto_ret ?_ | refine W1 ?_)
      first | refine WQ_ret1 rfl rfl ?_ | refine WQ_ret2 rfl rfl rfl ?_ | refine WQ_ret3 rfl rfl rfl rfl ?_ | refine WQ_ret0 rfl ?_ | refine WQ_end0 rfl ?_
      exact .mk ⟨rfl, hSS⟩
    | ok t =>
      rw [hr] at hR
      simp only at hR
      have hrok := readL_ok hne hns hr
      have htpos : t.text.length ≠ 0 := fun h => hrok.1.text (List.length_eq_zero_iff.1 h)
      have htle : t.text.length ≤ s.length - q := by have := hrok.2.1; simpa using this
      refine WL_eff (OE_call rfl (evs1 rfl) (wordL_any (s.drop q) _ hdl2)) rfl ?_
      rintro _ w4 ⟨rfl, hT⟩
      rw [← hrd, hr]
      simp only [lxV]
      replace hrow := hrow.up hT
      clear hT
      repeat' (first | refine W1 ?_ | (exfalso; omega) | refine WL_split rfl rfl (fun hg => ?_) (fun hg => ?_) | refine WL_splitB rfl rfl (fun hg => ?_) (fun hg => ?_) | refine WC_cond rfl (fun hc => ?_) (fun hc => ?_) | refine WC_condB rfl (fun hc => ?_) (fun hc => ?_))
      refine WL_eff OE_alloc rfl ?_
      rintro _ w5 ⟨b10, rfl, hb10, e10, hT⟩
      refine WL_eff0 (OE_storeA (us := Flat.enc t) rfl rfl rfl rfl (Flat.one _) e10 rfl) ?_
      rintro _ w6 ⟨hT2, e10'⟩
      have hTT := hT.own hT2 (fun c hc => .inr (by simp at hc; omega))
      have hn10 : b10 ∉ ob lv := fun h => by have := (hrow.ob_le b10 h).2; omega
      clear hT hT2 e10
      repeat' (first | refine W1 ?_ | (exfalso; omega) | refine WL_split rfl rfl (fun hg => ?_) (fun hg => ?_) | refine WL_splitB rfl rfl (fun hg => ?_) (fun hg => ?_) | refine WC_cond rfl (fun hc => ?_) (fun hc => ?_) | refine WC_condB rfl (fun hc => ?_) (fun hc => ?_))
      refine WL_eff0 (OE_store1 (u := .int .i64 (q : Int)) rfl rfl rfl rfl e10' (by simp [Flat.enc])) ?_
      rintro _ w7 ⟨hT, e11⟩
      replace e11 : Blk w7 b10 61 (Flat.enc ({ t with pos := (q : Int) } : Tkn)) := e11
      replace hrow : RowF 61 w w7 lv l := hrow.up (hTT.own hT (fun c hc => .inr (by simp at hc; omega)))
      clear hT e10'
      repeat' (first | refine W1 ?_ | (exfalso; omega) | refine WL_split rfl rfl (fun hg => ?_) (fun hg => ?_) | refine WL_splitB rfl rfl (fun hg => ?_) (fun hg => ?_) | refine WC_cond rfl (fun hc => ?_) (fun hc => ?_) | refine WC_condB rfl (fun hc => ?_) (fun hc => ?_))
      refine WL_eff (OE_buildSlice (vs := [(0, .agg (Flat.enc ({ t with pos := (q : Int) } : Tkn)).toArray)]) rfl (buildST1 _)) rfl ?_
      intro bv w8 hN
      have hbv : SlV (ob lv) w8 bv [({ t with pos := (q : Int) } : Tkn)] := hN.slv (fun b hb => (hrow.ob_le b hb).2) rfl rfl (by simp [maxLen])
      replace hrow := hrow.up (NewSl.stp hN)
      replace e11 := e11.up (NewSl.stp hN)
      clear hN
      refine WL_eff (OE_appF rfl (by decide) rfl rfl hrow hbv (by simp only [List.length_cons, List.length_nil]; omega) (by simp only [List.length_cons, List.length_nil, maxLen]; omega)) rfl ?_
      rintro lv' w9 ⟨hrow', hT, hown⟩
      replace e11 := e11.ext hT hn10
      clear hT
      have htx : ({ t with pos := (q : Int) } : Tkn).text.length = t.text.length := rfl
      repeat' (first | refine W1 ?_ | (exfalso; omega) | refine WL_split rfl rfl (fun hg => ?_) (fun hg => ?_) | refine WL_splitB rfl rfl (fun hg => ?_) (fun hg => ?_) | refine WC_cond rfl (fun hc => ?_) (fun hc => ?_) | refine WC_condB rfl (fun hc => ?_) (fun hc => ?_))
      repeat (first | refine WQ_noGoto_exit ?_ | refine W1 ?_)
      exact WQ_loop (f, q + t.text.length, l ++ [{ t with pos := (q : Int) }], lv') ⟨rfl, rfl, rfl, trivial⟩ ⟨hR, by dsimp only; omega, by dsimp only; omega, by simp; omega, hrow'⟩ (by dsimp only; omega)
  repeat' (first | refine W1 ?_ | (exfalso; omega) | refine WL_split rfl rfl (fun hg => ?_) (fun hg => ?_) | refine WL_splitB rfl rfl (fun hg => ?_) (fun hg => ?_) | refine WC_cond rfl (fun hc => ?_) (fun hc => ?_) | refine WC_condB rfl (fun hc => ?_) (fun hc => ?_))
  refine WL_eff (OE_call rfl (evs1 rfl) (digit_any ((s.drop q).getD 0 0).toNat _)) rfl ?_
  rintro _ wv ⟨rfl, hwv⟩
  subst wv
  have hdb : digN ((s.drop q).getD 0 0).toNat = digB ((s.drop q).getD 0 0) := rfl
  rw [hdb]
  cases hdg : digB ((s.drop q).getD 0 0)
  rotate_left
  · have hrd : readL (s.drop q) = numberL (s.drop q) := by unfold readL; simp only [hlt1, hdg, if_true, Bool.false_eq_true, if_false]
    repeat' (first | refine W1 ?_ | (exfalso; omega) | refine WL_split rfl rfl (fun hg => ?_) (fun hg => ?_) | refine WL_splitB rfl rfl (fun hg => ?_) (fun hg => ?_) | refine WC_cond rfl (fun hc => ?_) (fun hc => ?_) | refine WC_condB rfl (fun hc => ?_) (fun hc => ?_))
    cases hr : readL (s.drop q) with
    | err e =>
      rw [hr] at hR
      subst hR
      have he := readL_err hr
      refine WL_eff (OE_call rfl (evs1 rfl) (numberX_any (s.drop q) ev _ hdl2 hdg hne hv41 hev)) rfl ?_
      rintro _ w4 ⟨rfl, hT⟩
      rw [← hrd, hr]
      simp only [lxV]
      repeat' (first | refine W1 ?_ | (exfalso; omega) | refine WL_split rfl rfl (fun hg => ?_) (fun hg => ?_) | refine WL_splitB rfl rfl (fun hg => ?_) (fun hg => ?_) | refine WC_cond rfl (fun hc => ?_) (fun hc => ?_) | refine WC_condB rfl (fun hc => ?_) (fun hc => ?_))
      refine WL_eff OE_alloc rfl ?_
      rintro _ w5 ⟨b10, rfl, hb10, e10, hT2⟩
      refine WL_eff0 (OE_storeA (us := Flat.enc (⟨0, 0, [], 0⟩ : Tkn)) rfl rfl rfl rfl (Flat.one _) e10 rfl) ?_
      rintro _ w6 ⟨hT3, e10'⟩
      have hSS := (hrow.2.trans hT).trans (hT2.own hT3 (fun c hc => .inr (by simp at hc; omega)))
      repeat' (first | refine W1 ?_ | (exfalso; omega) | refine WL_split rfl rfl (fun hg => ?_) (fun hg => ?_) | refine WL_splitB rfl rfl (fun hg => ?_) (fun hg => ?_) | refine WC_cond rfl (fun hc => ?_) (fun hc => ?_) | refine WC_condB rfl (fun hc => ?_) (fun hc => ?_))
      repeat (first | refine WQ_noGoto_ret ?_ | refine W1 ?_)
      first | refine WQ_ret1 rfl rfl ?_ | refine WQ_ret2 rfl rfl rfl ?_ | refine WQ_ret3 rfl rfl rfl rfl ?_ | refine WQ_ret0 rfl ?_ | refine WQ_end0 rfl ?_
      exact .mk ⟨rfl, hSS⟩
    | ok t =>
      rw [hr] at hR
      simp only at hR
      have hrok := readL_ok hne hns hr
      have htpos : t.text.length ≠ 0 := fun h => hrok.1.text (List.length_eq_zero_iff.1 h)
      have htle : t.text.length ≤ s.length - q := by have := hrok.2.1; simpa using this
      refine WL_eff (OE_call rfl (evs1 rfl) (numberX_any (s.drop q) ev _ hdl2 hdg hne hv41 hev)) rfl ?_
      rintro _ w4 ⟨rfl, hT⟩
      rw [← hrd, hr]
      simp only [lxV]
      replace hrow := hrow.up hT
      clear hT
      repeat' (first | refine W1 ?_ | (exfalso; omega) | refine WL_split rfl rfl (fun hg => ?_) (fun hg => ?_) | refine WL_splitB rfl rfl (fun hg => ?_) (fun hg => ?_) | refine WC_cond rfl (fun hc => ?_) (fun hc => ?_) | refine WC_condB rfl (fun hc => ?_) (fun hc => ?_))
      refine WL_eff OE_alloc rfl ?_
      rintro _ w5 ⟨b10, rfl, hb10, e10, hT⟩
      refine WL_eff0 (OE_storeA (us := Flat.enc t) rfl rfl rfl rfl (Flat.one _) e10 rfl) ?_
      rintro _ w6 ⟨hT2, e10'⟩
      have hTT := hT.own hT2 (fun c hc => .inr (by simp at hc; omega))
      have hn10 : b10 ∉ ob lv := fun h => by have := (hrow.ob_le b10 h).2; omega
      clear hT hT2 e10
      repeat' (first | refine W1 ?_ | (exfalso; omega) | refine WL_split rfl rfl (fun hg => ?_) (fun hg => ?_) | refine WL_splitB rfl rfl (fun hg => ?_) (fun hg => ?_) | refine WC_cond rfl (fun hc => ?_) (fun hc => ?_) | refine WC_condB rfl (fun hc => ?_) (fun hc => ?_))
      refine WL_eff0 (OE_store1 (u := .int .i64 (q : Int)) rfl rfl rfl rfl e10' (by simp [Flat.enc])) ?_
      rintro _ w7 ⟨hT, e11⟩
      replace e11 : Blk w7 b10 61 (Flat.enc ({ t with pos := (q : Int) } : Tkn)) := e11
      replace hrow : RowF 61 w w7 lv l := hrow.up (hTT.own hT (fun c hc => .inr (by simp at hc; omega)))
      clear hT e10'
      repeat' (first | refine W1 ?_ | (exfalso; omega) | refine WL_split rfl rfl (fun hg => ?_) (fun hg => ?_) | refine WL_splitB rfl rfl (fun hg => ?_) (fun hg => ?_) | refine WC_cond rfl (fun hc => ?_) (fun hc => ?_) | refine WC_condB rfl (fun hc => ?_) (fun hc => ?_))
      refine WL_eff (OE_buildSlice (vs := [(0, .agg (Flat.enc ({ t with pos := (q : Int) } : Tkn)).toArray)]) rfl (buildST1 _)) rfl ?_
      intro bv w8 hN
      have hbv : SlV (ob lv) w8 bv [({ t with pos := (q : Int) } : Tkn)] := hN.slv (fun b hb => (hrow.ob_le b hb).2) rfl rfl (by simp [maxLen])
      replace hrow := hrow.up (NewSl.stp hN)
      replace e11 := e11.up (NewSl.stp hN)
      clear hN
      refine WL_eff (OE_appF rfl (by decide) rfl rfl hrow hbv (by simp only [List.length_cons, List.length_nil]; omega) (by simp only [List.length_cons, List.length_nil, maxLen]; omega)) rfl ?_
      rintro lv' w9 ⟨hrow', hT, hown⟩
      replace e11 := e11.ext hT hn10
      clear hT
      have htx : ({ t with pos := (q : Int) } : Tkn).text.length = t.text.length := rfl
      repeat' (first | refine W1 ?_ | (exfalso; omega) | refine WL_split rfl rfl (fun hg => ?_) (fun hg => ?_) | refine WL_splitB rfl rfl (fun hg => ?_) (fun hg => ?_) | refine WC_cond rfl (fun hc => ?_) (fun hc => ?_) | refine WC_condB rfl (fun hc => ?_) (fun hc => ?_))
      repeat (first | refine WQ_noGoto_exit ?_ | refine W1 ?_)
      exact WQ_loop (f, q + t.text.length, l ++ [{ t with pos := (q : Int) }], lv') ⟨rfl, rfl, rfl, trivial⟩ ⟨hR, by dsimp only; omega, by dsimp only; omega, by simp; omega, hrow'⟩ (by dsimp only; omega)
  by_cases h64 : (s.drop q).getD 0 0 = 64
  · have hrd : readL (s.drop q) = dayL (s.drop q) := by
      unfold readL
      simp only [hlt1, hdg, Bool.false_eq_true, if_false]
      rw [if_pos h64]
    rw [h64]
    have h64' : (((64 : UInt8).toNat : Nat) : Int) = 64 := rfl
    rw [h64']
    repeat' (first | refine W1 ?_ | (exfalso; omega) | refine WL_split rfl rfl (fun hg => ?_) (fun hg => ?_) | refine WL_splitB rfl rfl (fun hg => ?_) (fun hg => ?_) | refine WC_cond rfl (fun hc => ?_) (fun hc => ?_) | refine WC_condB rfl (fun hc => ?_) (fun hc => ?_))
    cases hr : readL (s.drop q) with
    | err e =>
      rw [hr] at hR
      subst hR
      have he := readL_err hr
      refine WL_eff (OE_call rfl (evs1 rfl) (day_any (s.drop q) _ hLG1 hdl2)) rfl ?_
      rintro _ w4 ⟨rfl, hT⟩
      rw [← hrd, hr]
      simp only [lxV]
      repeat' (first | refine W1 ?_ | (exfalso; omega) | refine WL_split rfl rfl (fun hg => ?_) (fun hg => ?_) | refine WL_splitB rfl rfl (fun hg => ?_) (fun hg => ?_) | refine WC_cond rfl (fun hc => ?_) (fun hc => ?_) | refine WC_condB rfl (fun hc => ?_) (fun hc => ?_))
      refine WL_eff OE_alloc rfl ?_
      rintro _ w5 ⟨b10, rfl, hb10, e10, hT2⟩
      refine WL_eff0 (OE_storeA (us := Flat.enc (⟨0, 0, [], 0⟩ : Tkn)) rfl rfl rfl rfl (Flat.one _) e10 rfl) ?_
      rintro _ w6 ⟨hT3, e10'⟩
      have hSS := (hrow.2.trans hT).trans (hT2.own hT3 (fun c hc => .inr (by simp at hc; omega)))
      repeat' (first | refine W1 ?_ | (exfalso; omega) | refine WL_split rfl rfl (fun hg => ?_) (fun hg => ?_) | refine WL_splitB rfl rfl (fun hg => ?_) (fun hg => ?_) | refine WC_cond rfl (fun hc => ?_) (fun hc => ?_) | refine WC_condB rfl (fun hc => ?_) (fun hc => ?_))
      repeat (first | refine WQ_noGoto_ret ?_ | refine W1 ?_)
      first | refine WQ_ret1 rfl rfl ?_ | refine WQ_ret2 rfl rfl rfl ?_ | refine WQ_ret3 rfl rfl rfl rfl ?_ | refine WQ_ret0 rfl ?_ | refine WQ_end0 rfl ?_
      exact .mk ⟨rfl, hSS⟩
    | ok t =>
      rw [hr] at hR
      simp only at hR
      have hrok := readL_ok hne hns hr
      have htpos : t.text.length ≠ 0 := fun h => hrok.1.text (List.length_eq_zero_iff.1 h)
      have htle : t.text.length ≤ s.length - q := by have := hrok.2.1; simpa using this
      refine WL_eff (OE_call rfl (evs1 rfl) (day_any (s.drop q) _ hLG1 hdl2)) rfl ?_
      rintro _ w4 ⟨rfl, hT⟩
      rw [← hrd, hr]
      simp only [lxV]
      replace hrow := hrow.up hT
      clear hT
      repeat' (first | refine W1 ?_ | (exfalso; omega) | refine WL_split rfl rfl (fun hg => ?_) (fun hg => ?_) | refine WL_splitB rfl rfl (fun hg => ?_) (fun hg => ?_) | refine WC_cond rfl (fun hc => ?_) (fun hc => ?_) | refine WC_condB rfl (fun hc => ?_) (fun hc => ?_))
      refine WL_eff OE_alloc rfl ?_
      rintro _ w5 ⟨b10, rfl, hb10, e10, hT⟩
      refine WL_eff0 (OE_storeA (us := Flat.enc t) rfl rfl rfl rfl (Flat.one _) e10 rfl) ?_
      rintro _ w6 ⟨hT2, e10'⟩
      have hTT := hT.own hT2 (fun c hc => .inr (by simp at hc; omega))
      have hn10 : b10 ∉ ob lv := fun h => by have := (hrow.ob_le b10 h).2; omega
      clear hT hT2 e10
      repeat' (first | refine W1 ?_ | (exfalso; omega) | refine WL_split rfl rfl (fun hg => ?_) (fun hg => ?_) | refine WL_splitB rfl rfl (fun hg => ?_) (fun hg => ?_) | refine WC_cond rfl (fun hc => ?_) (fun hc => ?_) | refine WC_condB rfl (fun hc => ?_) (fun hc => ?_))
      refine WL_eff0 (OE_store1 (u := .int .i64 (q : Int)) rfl rfl rfl rfl e10' (by simp [Flat.enc])) ?_
      rintro _ w7 ⟨hT, e11⟩
      replace e11 : Blk w7 b10 61 (Flat.enc ({ t with pos := (q : Int) } : Tkn)) := e11
      replace hrow : RowF 61 w w7 lv l := hrow.up (hTT.own hT (fun c hc => .inr (by simp at hc; omega)))
      clear hT e10'
      repeat' (first | refine W1 ?_ | (exfalso; omega) | refine WL_split rfl rfl (fun hg => ?_) (fun hg => ?_) | refine WL_splitB rfl rfl (fun hg => ?_) (fun hg => ?_) | refine WC_cond rfl (fun hc => ?_) (fun hc => ?_) | refine WC_condB rfl (fun hc => ?_) (fun hc => ?_))
      refine WL_eff (OE_buildSlice (vs := [(0, .agg (Flat.enc ({ t with pos := (q : Int) } : Tkn)).toArray)]) rfl (buildST1 _)) rfl ?_
      intro bv w8 hN
      have hbv : SlV (ob lv) w8 bv [({ t with pos := (q : Int) } : Tkn)] := hN.slv (fun b hb => (hrow.ob_le b hb).2) rfl rfl (by simp [maxLen])
      replace hrow := hrow.up (NewSl.stp hN)
      replace e11 := e11.up (NewSl.stp hN)
      clear hN
      refine WL_eff (OE_appF rfl (by decide) rfl rfl hrow hbv (by simp only [List.length_cons, List.length_nil]; omega) (by simp only [List.length_cons, List.length_nil, maxLen]; omega)) rfl ?_
      rintro lv' w9 ⟨hrow', hT, hown⟩
      replace e11 := e11.ext hT hn10
      clear hT
      have htx : ({ t with pos := (q : Int) } : Tkn).text.length = t.text.length := rfl
      repeat' (first | refine W1 ?_ | (exfalso; omega) | refine WL_split rfl rfl (fun hg => ?_) (fun hg => ?_) | refine WL_splitB rfl rfl (fun hg => ?_) (fun hg => ?_) | refine WC_cond rfl (fun hc => ?_) (fun hc => ?_) | refine WC_condB rfl (fun hc => ?_) (fun hc => ?_))
      repeat (first | refine WQ_noGoto_exit ?_ | refine W1 ?_)
      exact WQ_loop (f, q + t.text.length, l ++ [{ t with pos := (q : Int) }], lv') ⟨rfl, rfl, rfl, trivial⟩ ⟨hR, by dsimp only; omega, by dsimp only; omega, by simp; omega, hrow'⟩ (by dsimp only; omega)
  have hrd : readL (s.drop q) = symbolL (s.drop q) := by
    unfold readL
    simp only [hlt1, hdg, Bool.false_eq_true, if_false]
    rw [if_neg h64]
  have hn64 : ¬ ((((s.drop q).getD 0 0).toNat : Nat) : Int) = 64 := fun h => h64 (by
    have h64' : (64 : UInt8).toNat = 64 := rfl
    exact UInt8.toNat_inj.1 (by omega))
  repeat' (first | refine W1 ?_ | (exfalso; omega) | refine WL_split rfl rfl (fun hg => ?_) (fun hg => ?_) | refine WL_splitB rfl rfl (fun hg => ?_) (fun hg => ?_) | refine WC_cond rfl (fun hc => ?_) (fun hc => ?_) | refine WC_condB rfl (fun hc => ?_) (fun hc => ?_))
  cases hr : readL (s.drop q) with
  | err e =>
    rw [hr] at hR
    subst hR
    have he := readL_err hr
    refine WL_eff (OE_call rfl (evs1 rfl) (symbol_any (s.drop q) _ hne)) rfl ?_
    rintro _ w4 ⟨rfl, hT⟩
    rw [← hrd, hr]
    simp only [lxV]
    repeat' (first | refine W1 ?_ | (exfalso; omega) | refine WL_split rfl rfl (fun hg => ?_) (fun hg => ?_) | refine WL_splitB rfl rfl (fun hg => ?_) (fun hg => ?_) | refine WC_cond rfl (fun hc => ?_) (fun hc => ?_) | refine WC_condB rfl (fun hc => ?_) (fun hc => ?_))
    refine WL_eff OE_alloc rfl ?_
    rintro _ w5 ⟨b10, rfl, hb10, e10, hT2⟩
    refine WL_eff0 (OE_storeA (us := Flat.enc (⟨0, 0, [], 0⟩ : Tkn)) rfl rfl rfl rfl (Flat.one _) e10 rfl) ?_
    rintro _ w6 ⟨hT3, e10'⟩
    have hSS := (hrow.2.trans hT).trans (hT2.own hT3 (fun c hc => .inr (by simp at hc; omega)))
    repeat' (first | refine W1 ?_ | (exfalso; omega) | refine WL_split rfl rfl (fun hg => ?_) (fun hg => ?_) | refine WL_splitB rfl rfl (fun hg => ?_) (fun hg => ?_) | refine WC_cond rfl (fun hc => ?_) (fun hc => ?_) | refine WC_condB rfl (fun hc => ?_) (fun hc => ?_))
    repeat (first | refine WQ_noGoto_ret ?_ | refine W1 ?_)
    first | refine WQ_ret1 rfl rfl ?_ | refine WQ_ret2 rfl rfl rfl ?_ | refine WQ_ret3 rfl rfl rfl rfl ?_ | refine WQ_ret0 rfl ?_ | refine WQ_end0 rfl ?_
    exact .mk ⟨rfl, hSS⟩
  | ok t =>
    rw [hr] at hR
    simp only at hR
    have hrok := readL_ok hne hns hr
    have htpos : t.text.length ≠ 0 := fun h => hrok.1.text (List.length_eq_zero_iff.1 h)
    have htle : t.text.length ≤ s.length - q := by have := hrok.2.1; simpa using this
    refine WL_eff (OE_call rfl (evs1 rfl) (symbol_any (s.drop q) _ hne)) rfl ?_
    rintro _ w4 ⟨rfl, hT⟩
    rw [← hrd, hr]
    simp only [lxV]
    replace hrow := hrow.up hT
    clear hT
    repeat' (first | refine W1 ?_ | (exfalso; omega) | refine WL_split rfl rfl (fun hg => ?_) (fun hg => ?_) | refine WL_splitB rfl rfl (fun hg => ?_) (fun hg => ?_) | refine WC_cond rfl (fun hc => ?_) (fun hc => ?_) | refine WC_condB rfl (fun hc => ?_) (fun hc => ?_))
    refine WL_eff OE_alloc rfl ?_
    rintro _ w5 ⟨b10, rfl, hb10, e10, hT⟩
    refine WL_eff0 (OE_storeA (us := Flat.enc t) rfl rfl rfl rfl (Flat.one _) e10 rfl) ?_
    rintro _ w6 ⟨hT2, e10'⟩
    have hTT := hT.own hT2 (fun c hc => .inr (by simp at hc; omega))
    have hn10 : b10 ∉ ob lv := fun h => by have := (hrow.ob_le b10 h).2; omega
    clear hT hT2 e10
    repeat' (first | refine W1 ?_ | (exfalso; omega) | refine WL_split rfl rfl (fun hg => ?_) (fun hg => ?_) | refine WL_splitB rfl rfl (fun hg => ?_) (fun hg => ?_) | refine WC_cond rfl (fun hc => ?_) (fun hc => ?_) | refine WC_condB rfl (fun hc => ?_) (fun hc => ?_))
    refine WL_eff0 (OE_store1 (u := .int .i64 (q : Int)) rfl rfl rfl rfl e10' (by simp [Flat.enc])) ?_
    rintro _ w7 ⟨hT, e11⟩
    replace e11 : Blk w7 b10 61 (Flat.enc ({ t with pos := (q : Int) } : Tkn)) := e11
    replace hrow : RowF 61 w w7 lv l := hrow.up (hTT.own hT (fun c hc => .inr (by simp at hc; omega)))
    clear hT e10'
    repeat' (first | refine W1 ?_ | (exfalso; omega) | refine WL_split rfl rfl (fun hg => ?_) (fun hg => ?_) | refine WL_splitB rfl rfl (fun hg => ?_) (fun hg => ?_) | refine WC_cond rfl (fun hc => ?_) (fun hc => ?_) | refine WC_condB rfl (fun hc => ?_) (fun hc => ?_))
    refine WL_eff (OE_buildSlice (vs := [(0, .agg (Flat.enc ({ t with pos := (q : Int) } : Tkn)).toArray)]) rfl (buildST1 _)) rfl ?_
    intro bv w8 hN
    have hbv : SlV (ob lv) w8 bv [({ t with pos := (q : Int) } : Tkn)] := hN.slv (fun b hb => (hrow.ob_le b hb).2) rfl rfl (by simp [maxLen])
    replace hrow := hrow.up (NewSl.stp hN)
    replace e11 := e11.up (NewSl.stp hN)
    clear hN
    refine WL_eff (OE_appF rfl (by decide) rfl rfl hrow hbv (by simp only [List.length_cons, List.length_nil]; omega) (by simp only [List.length_cons, List.length_nil, maxLen]; omega)) rfl ?_
    rintro lv' w9 ⟨hrow', hT, hown⟩
    replace e11 := e11.ext hT hn10
    clear hT
    have htx : ({ t with pos := (q : Int) } : Tkn).text.length = t.text.length := rfl
    repeat' (first | refine W1 ?_ | (exfalso; omega) | refine WL_split rfl rfl (fun hg => ?_) (fun hg => ?_) | refine WL_splitB rfl rfl (fun hg => ?_) (fun hg => ?_) | refine WC_cond rfl (fun hc => ?_) (fun hc => ?_) | refine WC_condB rfl (fun hc => ?_) (fun hc => ?_))
    repeat (first | refine WQ_noGoto_exit ?_ | refine W1 ?_)
    exact WQ_loop (f, q + t.text.length, l ++ [{ t with pos := (q : Int) }], lv') ⟨rfl, rfl, rfl, trivial⟩ ⟨hR, by dsimp only; omega, by dsimp only; omega, by simp; omega, hrow'⟩ (by dsimp only; omega)
end Go.Proofs.YtgpibcgebpgmiaaGreatDoor


/-
The parser whole: recovery, Parse.
-/
namespace Go.Eng
open Go Go.RowKit Go.Proofs
set_option linter.unusedVariables false
theorem tokensG_err {nl : Str → Nat} {s : Str} : ∀ (f at_ : Nat) (l : List Tkn) (a c : Int), tokensG nl s f at_ l = .err a c → c ≠ 0
  | 0, at_, l, a, c, h => by simp [tokensG] at h
  | f + 1, at_, l, a, c, h => by
    simp only [tokensG] at h
    split at h
    · split at h
      · exact tokensG_err f _ _ _ _ h
      · split at h
        · exact tokensG_err f _ _ _ _ h
        · cases hr : readL (s.drop at_) with
          | err e =>
            rw [hr] at h
            simp only [Tks.err.injEq] at h
            obtain ⟨_, rfl⟩ := h
            exact readL_err hr
          | ok t =>
            rw [hr] at h
            exact tokensG_err f _ _ _ _ h
    · simp at h
theorem tokensM_err {s : Str} {a c : Int} (h : tokensM s = .err a c) : c ≠ 0 := by
  unfold tokensM at h
  split at h
  · simp only [Tks.err.injEq] at h; omega
  · exact tokensG_err _ _ _ _ _ h
theorem tokensM_toks {s : Str} {l : List Tkn} (h : tokensM s = .ok l) : Toks l ∧ ∃ l1 p, l = l1 ++ [⟨0, p, [], 0⟩] ∧ ∀ t ∈ l1, TkOk t := by
  unfold tokensM at h
  split at h
  · cases h
  · rename_i hl
    obtain ⟨l1, p, rfl, h1, h2, h3⟩ := tokensG_ok (nl := nlM) (s := s) (by omega) (s.length + 1) 0 [] l (by simp) (by simp) (by simp) (by simp) h
    exact ⟨toks_of h1 h2 (by omega), l1, p, rfl, h1⟩
theorem rulesO_end {l : List Tkn} : ∀ (f : Nat) (rs : List RuleM) (i o : Nat) (rs' : List RuleM) (i' o' : Nat), rulesO l f rs i o = .ok rs' i' o' → l.length ≤ i + f → i' < l.length → (cur l i').kind = 0
  | 0, rs, i, o, rs', i', o', h, h1, h2 => by simp only [rulesO, Out.ok.injEq] at h; omega
  | f + 1, rs, i, o, rs', i', o', h, h1, h2 => by
    simp only [rulesO] at h
    split at h
    · rename_i hk
      simp only [Out.ok.injEq] at h
      obtain ⟨_, rfl, _⟩ := h
      exact hk
    · obtain ⟨r, i1, o1, h3, h4⟩ := bind_ok h
      have := ruleO_lt h3
      exact rulesO_end f _ _ _ _ _ _ h4 (by omega) h2
end Go.Eng
namespace Go.Proofs.YtgpibcgebpgmiaaGreatDoor
open Go Go.Eng Go.RowKit Go.Proofs
set_option linter.unusedVariables false
theorem assertF (a c : Int) (w : World) : (Instr.typeAssert (failV a c) 20 123 true).run Tryz.prog w = .ok (.tuple #[.agg #[.int .i64 a, .int .i64 c], .bool true]) w := by kernel_rfl
theorem assertN (w : World) : (Instr.typeAssert .nilIface 20 123 true).run Tryz.prog w = .ok (.tuple #[.agg #[.int .i64 0, .int .i64 0], .bool false]) w := by kernel_rfl
theorem catch_fail (a c : Int) (b7 b4 b5 b6 : Nat) (z7 v4 v5 v6 : Value) (w : World) (e7 : Blk w b7 23 [z7]) (e4 : Blk w b4 23 [v4]) (e5 : Blk w b5 3 [v5]) (e6 : Blk w b6 24 [v6])
    (hz : z7.cells.toList = [z7]) (hz1 : z7.oneCell' = true) (n74 : b7 ≠ b4) (n75 : b7 ≠ b5) (n76 : b7 ≠ b6) (n45 : b4 ≠ b5) (n46 : b4 ≠ b6) (n56 : b5 ≠ b6) :
    CallsD Tryz.prog 66 #[.pointer (some ⟨b7, 0, none⟩), .pointer (some ⟨b4, 0, none⟩), .pointer (some ⟨b5, 0, none⟩), .pointer (some ⟨b6, 0, none⟩)] (.panicking [⟨failV a c, false, false⟩]) w
      (fun e u' w' => ∃ v, e = .returned v ∧ (u' = .panicking [⟨failV a c, true, false⟩] ∧ Blk w' b4 23 [z7] ∧ Blk w' b5 3 [.int .i64 a] ∧ Blk w' b6 24 [.int .i64 c] ∧ Stp [b4, b5, b6] w w')) := by
  refine callsD_of_wpS Tryz.func66 rfl fun c₀ cs hu => ?_
  apply wpS_seq
  apply wpS_region
  simp [wpOpsS, go_sem, recoverD, hu, Tryz.ntmps66, Exit.thenS]
  refine wpS_of_WC (n := 22) (e := [(0, .pointer (some ⟨b7, 0, none⟩)), (1, .pointer (some ⟨b4, 0, none⟩)), (2, .pointer (some ⟨b5, 0, none⟩)), (3, .pointer (some ⟨b6, 0, none⟩)), (4, failV a c)]) (Has.of rfl (by simp) (by
    intro p hp
    simp only [List.mem_cons, List.not_mem_nil, or_false] at hp
    rcases hp with rfl | rfl | rfl | rfl | rfl <;> kernel_rfl)) ?_
  refine W ?_
  refine WL_pure (PR_typeAssert rfl (assertF a c)) rfl ?_
  refine W ?_
  refine WL_eff OE_alloc rfl ?_
  rintro _ w1 ⟨bf, rfl, hbf, ef, hT⟩
  refine WL_eff0 (OE_storeA (us := [.int .i64 a, .int .i64 c]) rfl rfl rfl rfl (by intro u hu; simp at hu; rcases hu with rfl | rfl <;> rfl) ef rfl) ?_
  rintro _ w2 ⟨hT2, ef'⟩
  have nf7 := e7.lt
  have nf4 := e4.lt
  have nf5 := e5.lt
  have nf6 := e6.lt
  have hS := hT.own hT2 (fun c hc => .inr (by simp at hc; omega))
  clear hT hT2 ef
  replace e7 := e7.up hS; replace e4 := e4.up hS; replace e5 := e5.up hS; replace e6 := e6.up hS
  refine W ?_
  refine WC_drawn 8 ([b4, b5, b6]) [] [(0, 1), (1, 0), (2, 1), (3, 0), (4, 1), (5, 2), (6, 2), (7, 2)] rfl mixed (by kernel_rfl) (by kernel_rfl) (by kernel_rfl) (fun w1 hS1 => ?_)
  replace e7 := e7.up hS1; replace e4 := e4.up hS1; replace e5 := e5.up hS1; replace e6 := e6.up hS1
  replace ef' := ef'.up hS1
  replace hS := hS.trans hS1
  clear hS1
  have m7 : b7 ∉ [b4, b5, b6] := by simp; exact ⟨n74, n75, n76⟩
  have mf : bf ∉ [b4, b5, b6] := by simp; omega
  refine WR_load_blk rfl trivial rfl rfl e7 m7 rfl rfl ?_
  refine WF_fieldAddr rfl trivial rfl rfl ?_
  refine WR_load_blk rfl trivial rfl rfl ef' mf rfl rfl ?_
  refine WF_fieldAddr rfl trivial rfl rfl ?_
  refine WR_load_blk rfl trivial rfl rfl ef' mf rfl rfl ?_
  refine WD_eff0 rfl trivial (OE_storeA (us := [z7]) rfl rfl hz rfl (by simpa using hz1) e4 rfl) (fun _ _ h => h.1.mono (by simp)) ?_
  rintro _ w3 ⟨hT, e4'⟩
  replace e5 := e5.ext hT (by simpa using n45.symm)
  replace e6 := e6.ext hT (by simpa using n46.symm)
  replace hS := (hS.mono (S' := [b4, b5, b6]) (by simp)).trans (hT.mono (by simp))
  clear hT
  refine WD_eff0 rfl trivial (OE_storeA (us := [.int .i64 a]) rfl rfl rfl rfl (by simp; rfl) e5 rfl) (fun _ _ h => h.1.mono (by simp)) ?_
  rintro _ w4 ⟨hT, e5'⟩
  replace e4' := e4'.ext hT (by simpa using n45)
  replace e6 := e6.ext hT (by simpa using n56.symm)
  replace hS := hS.trans (hT.mono (by simp))
  clear hT
  refine WD_eff0 rfl trivial (OE_storeA (us := [.int .i64 c]) rfl rfl rfl rfl (by simp; rfl) e6 rfl) (fun _ _ h => h.1.mono (by simp)) ?_
  rintro _ w5 ⟨hT, e6'⟩
  replace e4' := e4'.ext hT (by simpa using n46)
  replace e5' := e5'.ext hT (by simpa using n56)
  replace hS := hS.trans (hT.mono (by simp))
  refine WD_nil ?_
  refine W ?_
  first | refine WQ_ret0 rfl ?_ | refine WQ_end0 rfl ?_
  exact ⟨⟨_, rfl⟩, rfl, e4', e5', e6', hS⟩
theorem catch_none (b7 b4 b5 b6 : Nat) (w : World) :
    CallsD Tryz.prog 66 #[.pointer (some ⟨b7, 0, none⟩), .pointer (some ⟨b4, 0, none⟩), .pointer (some ⟨b5, 0, none⟩), .pointer (some ⟨b6, 0, none⟩)] .returning w
      (fun e u' w' => ∃ v, e = .returned v ∧ (u' = .returning ∧ Stp [] w w')) := by
  refine callsD_of_wpS Tryz.func66 rfl fun c₀ cs hu => ?_
  have hc : c₀ = { c₀ with mode := .returning } := by rw [← hu]
  apply wpS_seq
  apply wpS_region
  simp [wpOpsS, go_sem, recoverD, hu, Tryz.ntmps66, Exit.thenS]
  rw [hc]
  refine wpS_of_WC (n := 22) (e := [(0, .pointer (some ⟨b7, 0, none⟩)), (1, .pointer (some ⟨b4, 0, none⟩)), (2, .pointer (some ⟨b5, 0, none⟩)), (3, .pointer (some ⟨b6, 0, none⟩)), (4, .nilIface)]) (Has.of rfl (by simp) (by
    intro p hp
    simp only [List.mem_cons, List.not_mem_nil, or_false] at hp
    rcases hp with rfl | rfl | rfl | rfl | rfl <;> kernel_rfl)) ?_
  refine W ?_
  refine WL_pure (PR_typeAssert rfl assertN) rfl ?_
  refine W ?_
  refine WL_eff OE_alloc rfl ?_
  rintro _ w1 ⟨bf, rfl, hbf, ef, hT⟩
  refine WL_eff0 (OE_storeA (us := [.int .i64 0, .int .i64 0]) rfl rfl rfl rfl (by intro u hu; simp at hu; rcases hu with rfl | rfl <;> rfl) ef rfl) ?_
  rintro _ w2 ⟨hT2, ef'⟩
  have hS := hT.own hT2 (fun c hc => .inr (by simp at hc; omega))
  refine W ?_
  refine neqNn ⟨_, rfl⟩ rfl rfl ?_
  refine W ?_
  first | refine WQ_ret0 rfl ?_ | refine WQ_end0 rfl ?_
  exact ⟨⟨_, rfl⟩, rfl, hS⟩
end Go.Proofs.YtgpibcgebpgmiaaGreatDoor


/-
Contracts of library functions (Sort, Compact, Repeat, Clone), laid at this dump by the kit's shelf.
-/
namespace Go.Proofs
open Go.Shelf
def Tryz.lays189_ren : Go.Shelf.Ren := ⟨fun | 189 => 60 | 125 => 107 | 257 => 106 | 128 => 154 | 129 => 155 | 294 => 145 | 295 => 146 | 296 => 147 | 297 => 148 | 298 => 149 | 299 => 150 | 216 => 151 | 300 => 152 | 301 => 153 | 328 => 183 | 329 => 184 | 330 => 185 | 331 => 186 | 332 => 187 | 215 => 188 | 343 => 209 | n => n, fun | 28 => 22 | 3 => 3 | 46 => 99 | 0 => 0 | 51 => 198 | 53 => 97 | 4 => 4 | 183 => 190 | 182 => 189 | 131 => 195 | 5 => 5 | 9 => 9 | 218 => 211 | 222 => 214 | 228 => 224 | 229 => 225 | n => n, fun | n => n⟩
theorem Tryz.lays189 : Go.Proofs.Lays.n189 Tryz.prog Tryz.lays189_ren := {
  mixed := by kernel_rfl
  f125 := Tryz.func107.trans (congrArg some (by kernel_rfl))
  f128 := Tryz.func154.trans (congrArg some (by kernel_rfl))
  f129 := Tryz.func155.trans (congrArg some (by kernel_rfl))
  f189 := Tryz.func60.trans (congrArg some (by kernel_rfl))
  f215 := Tryz.func188.trans (congrArg some (by kernel_rfl))
  f216 := Tryz.func151.trans (congrArg some (by kernel_rfl))
  f257 := Tryz.func106.trans (congrArg some (by kernel_rfl))
  f294 := Tryz.func145.trans (congrArg some (by kernel_rfl))
  f295 := Tryz.func146.trans (congrArg some (by kernel_rfl))
  f296 := Tryz.func147.trans (congrArg some (by kernel_rfl))
  f297 := Tryz.func148.trans (congrArg some (by kernel_rfl))
  f298 := Tryz.func149.trans (congrArg some (by kernel_rfl))
  f299 := Tryz.func150.trans (congrArg some (by kernel_rfl))
  f300 := Tryz.func152.trans (congrArg some (by kernel_rfl))
  f301 := Tryz.func153.trans (congrArg some (by kernel_rfl))
  f328 := Tryz.func183.trans (congrArg some (by kernel_rfl))
  f329 := Tryz.func184.trans (congrArg some (by kernel_rfl))
  f330 := Tryz.func185.trans (congrArg some (by kernel_rfl))
  f331 := Tryz.func186.trans (congrArg some (by kernel_rfl))
  f332 := Tryz.func187.trans (congrArg some (by kernel_rfl))
  f343 := Tryz.func209.trans (congrArg some (by kernel_rfl))
  t0 := Tryz.underlying0
  a0 := Tryz.isAgg0
  z0 := Tryz.sizeOf0
  v0 := Tryz.zeroValue0
  t3 := Tryz.underlying3
  a3 := Tryz.isAgg3
  z3 := Tryz.sizeOf3
  v3 := Tryz.zeroValue3
  t4 := Tryz.underlying4
  a4 := Tryz.isAgg4
  z4 := Tryz.sizeOf4
  v4 := Tryz.zeroValue4
  t5 := Tryz.underlying5
  a5 := Tryz.isAgg5
  z5 := Tryz.sizeOf5
  v5 := Tryz.zeroValue5
  t9 := Tryz.underlying9
  a9 := Tryz.isAgg9
  z9 := Tryz.sizeOf9
  v9 := Tryz.zeroValue9
  t28 := Tryz.underlying22
  a28 := Tryz.isAgg22
  z28 := Tryz.sizeOf22
  v28 := Tryz.zeroValue22
  t46 := Tryz.underlying99
  a46 := Tryz.isAgg99
  z46 := Tryz.sizeOf99
  v46 := Tryz.zeroValue99
  t51 := Tryz.underlying198
  a51 := Tryz.isAgg198
  z51 := Tryz.sizeOf198
  v51 := Tryz.zeroValue198
  t53 := Tryz.underlying97
  a53 := Tryz.isAgg97
  z53 := Tryz.sizeOf97
  v53 := Tryz.zeroValue97
  t131 := Tryz.underlying195
  a131 := Tryz.isAgg195
  z131 := Tryz.sizeOf195
  v131 := Tryz.zeroValue195
  t182 := Tryz.underlying189
  a182 := Tryz.isAgg189
  z182 := Tryz.sizeOf189
  v182 := Tryz.zeroValue189
  t183 := Tryz.underlying190
  a183 := Tryz.isAgg190
  z183 := Tryz.sizeOf190
  v183 := Tryz.zeroValue190
  t218 := Tryz.underlying211
  a218 := Tryz.isAgg211
  z218 := Tryz.sizeOf211
  v218 := Tryz.zeroValue211
  t222 := Tryz.underlying214
  a222 := Tryz.isAgg214
  z222 := Tryz.sizeOf214
  v222 := Tryz.zeroValue214
  t228 := Tryz.underlying224
  a228 := Tryz.isAgg224
  z228 := Tryz.sizeOf224
  v228 := Tryz.zeroValue224
  t229 := Tryz.underlying225
  a229 := Tryz.isAgg225
  z229 := Tryz.sizeOf225
  v229 := Tryz.zeroValue225 }
open Go.Sort Go.RowKit in
theorem Tryz.slices_Sort_int (blk off cap : Nat) (zs : List Int) (w : World) (hH : Holds (Value.int .i64) w blk off zs.toArray) (hblk : blk < w.heap.size) (hsz : zs.length < 4611686018427387904) :
    Calls Tryz.prog 60 #[.slice (some ⟨blk, off, none⟩) zs.length cap] w fun e w' =>
      e = .returned (.tuple #[]) ∧ ∃ n os, w' = grow (putRow (Value.int .i64) (Sort.ahead w n) blk off (zs.mergeSort fun x y => decide (x ≤ y)).toArray) os := Any.slices_Sort_int Tryz.lays189 blk off cap zs w hH hblk hsz
def Tryz.lays105_ren : Go.Shelf.Ren := ⟨fun | 105 => 86 | 212 => 131 | 99 => 132 | 165 => 133 | 166 => 30 | 170 => 134 | 169 => 33 | 263 => 172 | 264 => 173 | 206 => 174 | 240 => 82 | 241 => 175 | 276 => 129 | 277 => 207 | n => n, fun | 9 => 9 | 3 => 3 | 4 => 4 | 20 => 20 | 0 => 0 | 46 => 99 | 109 => 177 | 5 => 5 | 72 => 70 | 76 => 73 | 51 => 198 | 146 => 204 | 53 => 97 | 148 => 206 | 70 => 68 | 37 => 42 | 75 => 72 | 127 => 142 | 164 => 175 | 80 => 77 | n => n, fun | n => n⟩
theorem Tryz.lays105 : Go.Proofs.Lays.n105 Tryz.prog Tryz.lays105_ren := {
  mixed := by kernel_rfl
  f99 := Tryz.func132.trans (congrArg some (by kernel_rfl))
  f105 := Tryz.func86.trans (congrArg some (by kernel_rfl))
  f165 := Tryz.func133.trans (congrArg some (by kernel_rfl))
  f166 := Tryz.func30.trans (congrArg some (by kernel_rfl))
  f169 := Tryz.func33.trans (congrArg some (by kernel_rfl))
  f170 := Tryz.func134.trans (congrArg some (by kernel_rfl))
  f206 := Tryz.func174.trans (congrArg some (by kernel_rfl))
  f212 := Tryz.func131.trans (congrArg some (by kernel_rfl))
  f240 := Tryz.func82.trans (congrArg some (by kernel_rfl))
  f241 := Tryz.func175.trans (congrArg some (by kernel_rfl))
  f263 := Tryz.func172.trans (congrArg some (by kernel_rfl))
  f264 := Tryz.func173.trans (congrArg some (by kernel_rfl))
  f276 := Tryz.func129.trans (congrArg some (by kernel_rfl))
  f277 := Tryz.func207.trans (congrArg some (by kernel_rfl))
  t0 := Tryz.underlying0
  a0 := Tryz.isAgg0
  z0 := Tryz.sizeOf0
  v0 := Tryz.zeroValue0
  t3 := Tryz.underlying3
  a3 := Tryz.isAgg3
  z3 := Tryz.sizeOf3
  v3 := Tryz.zeroValue3
  t4 := Tryz.underlying4
  a4 := Tryz.isAgg4
  z4 := Tryz.sizeOf4
  v4 := Tryz.zeroValue4
  t5 := Tryz.underlying5
  a5 := Tryz.isAgg5
  z5 := Tryz.sizeOf5
  v5 := Tryz.zeroValue5
  t9 := Tryz.underlying9
  a9 := Tryz.isAgg9
  z9 := Tryz.sizeOf9
  v9 := Tryz.zeroValue9
  t20 := Tryz.underlying20
  a20 := Tryz.isAgg20
  z20 := Tryz.sizeOf20
  v20 := Tryz.zeroValue20
  t37 := Tryz.underlying42
  a37 := Tryz.isAgg42
  z37 := Tryz.sizeOf42
  v37 := Tryz.zeroValue42
  t46 := Tryz.underlying99
  a46 := Tryz.isAgg99
  z46 := Tryz.sizeOf99
  v46 := Tryz.zeroValue99
  t51 := Tryz.underlying198
  a51 := Tryz.isAgg198
  z51 := Tryz.sizeOf198
  v51 := Tryz.zeroValue198
  t53 := Tryz.underlying97
  a53 := Tryz.isAgg97
  z53 := Tryz.sizeOf97
  v53 := Tryz.zeroValue97
  t70 := Tryz.underlying68
  a70 := Tryz.isAgg68
  z70 := Tryz.sizeOf68
  v70 := Tryz.zeroValue68
  t72 := Tryz.underlying70
  a72 := Tryz.isAgg70
  z72 := Tryz.sizeOf70
  v72 := Tryz.zeroValue70
  t75 := Tryz.underlying72
  a75 := Tryz.isAgg72
  z75 := Tryz.sizeOf72
  v75 := Tryz.zeroValue72
  t76 := Tryz.underlying73
  a76 := Tryz.isAgg73
  z76 := Tryz.sizeOf73
  v76 := Tryz.zeroValue73
  t109 := Tryz.underlying177
  a109 := Tryz.isAgg177
  z109 := Tryz.sizeOf177
  v109 := Tryz.zeroValue177
  t127 := Tryz.underlying142
  a127 := Tryz.isAgg142
  z127 := Tryz.sizeOf142
  v127 := Tryz.zeroValue142
  t146 := Tryz.underlying204
  a146 := Tryz.isAgg204
  z146 := Tryz.sizeOf204
  v146 := Tryz.zeroValue204
  t148 := Tryz.underlying206
  a148 := Tryz.isAgg206
  z148 := Tryz.sizeOf206
  v148 := Tryz.zeroValue206
  t164 := Tryz.underlying175
  a164 := Tryz.isAgg175
  z164 := Tryz.sizeOf175
  v164 := Tryz.zeroValue175 }
theorem Tryz.Builder_Extra_105 : Builder.Extra Tryz.prog Tryz.lays105_ren := {
  sizeBuilder := by kernel_rfl
  liesBuilder := by kernel_rfl
  t5 := Tryz.underlying5
  a5 := Tryz.isAgg5
  z5 := Tryz.sizeOf5
  v5 := Tryz.zeroValue5
  infoByte := by kernel_rfl
  cellsByte := by kernel_rfl
  sizeByte := by kernel_rfl
  neB5 := by decide }
open Go.RowKit Go.Lib in
/-- **strings.Repeat: count ≥ 0, the result within one allocation: count copies of s.** (LAID: no walk: one application.) -/
theorem Tryz.strings_Repeat (s : ByteArray) (c : Nat) (w : World) (hc : c ≤ 9223372036854775807) (hlen : s.size * c ≤ 140737488355328) :
    Calls Tryz.prog 86 #[.string s, .int .i64 c] w fun e w' => e = .returned (.string ⟨(Lib.repeatL s.data.toList c).toArray⟩) ∧ Below w.heap.size w w' := Any.strings_Repeat Tryz.lays105 Tryz.Builder_Extra_105 s c w hc hlen
def Tryz.laysNm220_ren : Go.Shelf.Ren := ⟨fun | 20 => 61 | n => n, fun | 22 => 22 | 3 => 3 | 4 => 4 | 0 => 0 | n => n, fun | n => n⟩
theorem Tryz.laysNm220 : Go.Proofs.Lays2.n20 Tryz.prog Tryz.laysNm220_ren := {
  mixed := by kernel_rfl
  f20 := Tryz.func61.trans (congrArg some (by kernel_rfl))
  t0 := Tryz.underlying0
  a0 := Tryz.isAgg0
  z0 := Tryz.sizeOf0
  v0 := Tryz.zeroValue0
  t3 := Tryz.underlying3
  a3 := Tryz.isAgg3
  z3 := Tryz.sizeOf3
  v3 := Tryz.zeroValue3
  t4 := Tryz.underlying4
  a4 := Tryz.isAgg4
  z4 := Tryz.sizeOf4
  v4 := Tryz.zeroValue4
  t22 := Tryz.underlying22
  a22 := Tryz.isAgg22
  z22 := Tryz.sizeOf22
  v22 := Tryz.zeroValue22
  i3 := by kernel_rfl }
open Go.RowKit Go.Lib Go.Sort in
/-- slices.Compact at []int: "Compact replaces consecutive runs of equal elements with a single copy. This is like the uniq command found on Unix. Compact modifies the contents of the slice s and returns the modified slice, which may have a smaller length. Compact zeroes the elements between the new length and the original length. The result preserves the nilness of s.": IT RETURNS THE SLICE CUT TO 'Lib.compact zs'; ITS CELLS HOLD 'Lib.compact zs', THEN ZERO VALUES up to the old length; all else is as it was, but for the count of draws. IN THE WORDS OF slices.Sort's CONTRACT ('Holds', 'putRow'): so the everyday 'slices.Sort(xs); xs = slices.Compact(xs)' goes from the one contract to the other. It asks 'zs.length ≤ cap' (every slice's: the reslicing 's[:k]' looks at it). Length 0, nil: '.._empty'. (LAID: no walk: one application.) -/
theorem Tryz.slices_Compact_int (blk off cap : Nat) (zs : List Int) (w : World) (hH : Holds (Value.int .i64) w blk off zs.toArray) (hsz : zs.length ≤ 9223372036854775807) (hcap : zs.length ≤ cap) :
    Calls Tryz.prog 61 #[.slice (some ⟨blk, off, none⟩) zs.length cap] w fun e w' => e = .returned (.slice (some ⟨blk, off, none⟩) (Lib.compact zs).length cap) ∧ ∃ q, w' = putRow (Value.int .i64) (Sort.ahead w q) blk off (Lib.compact zs ++ List.replicate (zs.length - (Lib.compact zs).length) 0).toArray := Any.slices_Compact_int Tryz.laysNm220 blk off cap zs w hH hsz hcap
open Go.RowKit Go.Lib Go.Sort in
/-- The same at a slice of length 0, a nil one too: it comes back as it is. (LAID: no walk: one application.) -/
theorem Tryz.slices_Compact_int_empty (a : Option Addr) (cap : Nat) (w : World) :
    Calls Tryz.prog 61 #[.slice a 0 cap] w fun e w' => e = .returned (.slice a 0 cap) ∧ w' = w := Any.slices_Compact_int_empty Tryz.laysNm220 a cap w
open Go.RowKit Go.Sort in
/-- .. and plain. (LAID: no walk: one application.) -/
theorem Tryz.slices_Sort_int_none (p : Option Addr) (cap : Nat) (w : World) :
    Calls Tryz.prog 60 #[.slice p 0 cap] w fun e w' => e = .returned (.tuple #[]) ∧ w' = w := Any.slices_Sort_int_none Tryz.lays189 p cap w
end Go.Proofs


/-
The printing of dates and numbers, walked.
-/
namespace Go.Proofs.YtgpibcgebpgmiaaGreatDoor
open Go Go.Eng Go.RowKit Go.Proofs
set_option linter.unusedVariables false
/-- the powers of ten in memory -/
abbrev TabW (w : World) : Prop := Lib.TabIs Tryz.prog w "internal/strconv.uint64pow10" .u64 Lib.pow10Tab
theorem TabW.up {w w' : World} (h : TabW w) (hS : Stp [] w w') : TabW w' := by
  unfold TabW Lib.TabIs World.var? at *
  cases hg : Program.globalNamed Tryz.prog "internal/strconv.uint64pow10" with
  | none => rw [hg] at h; simp at h
  | some g =>
    rw [hg] at h
    simp only [Option.bind_some] at h ⊢
    have hlt : g < w.heap.size := by
      by_cases hl : g < w.heap.size
      · exact hl
      · rw [Array.getElem?_eq_none (by omega)] at h
        simp at h
    rw [hS.block g hlt (by simp)]
    exact h
theorem Itoa_any (n : Int) (w : World) (h0 : -9223372036854775808 ≤ n) (h1 : n ≤ 9223372036854775807) (hT : TabW w) : Calls Tryz.prog 85 #[.int .i64 n] w (Ret fun r w' => r = str (Lib.itoa n) ∧ Stp [] w w') := by
  refine (Tryz.strconv_Itoa n h0 h1 w hT).mono ?_
  rintro e w' ⟨rfl, k, os, rfl⟩
  refine .mk ⟨rfl, ?_⟩
  exact Stp.of_below ⟨rfl, rfl, rfl, by simp [Go.Sort.grow, World.drewN], fun i hi => by simp [Go.Sort.grow, World.drewN, Array.getElem?_append, hi]⟩
theorem repeatL_one (c : UInt8) : ∀ k : Nat, Lib.repeatL [c] k = List.replicate k c
  | 0 => rfl
  | k + 1 => by rw [Lib.repeatL, repeatL_one c k, List.replicate_succ]; rfl
theorem Repeat_any (c : UInt8) (k : Int) (w : World) (h0 : 0 ≤ k) (h1 : k ≤ 140737488355328) : Calls Tryz.prog 86 #[str [c], .int .i64 k] w (Ret fun r w' => r = str (List.replicate k.toNat c) ∧ Stp [] w w') := by
  obtain ⟨m, rfl⟩ : ∃ m : Nat, k = (m : Int) := ⟨k.toNat, by omega⟩
  refine (Tryz.strings_Repeat ⟨#[c]⟩ m w (by omega) (by simp [ByteArray.size]; omega)).mono ?_
  rintro e w' ⟨rfl, hB⟩
  refine .mk ⟨?_, Stp.of_below hB⟩
  show Value.string ⟨_⟩ = Value.string ⟨_⟩
  rw [show ([c] : List UInt8) = (⟨#[c]⟩ : ByteArray).data.toList from rfl, repeatL_one]
  rfl
theorem FormatBool_any (b : Bool) (w : World) : Calls Tryz.prog 88 #[.bool b] w (Ret fun r w' => r = str (if b then [116, 114, 117, 101] else [102, 97, 108, 115, 101]) ∧ Stp [] w w') := by
  refine (Tryz.strconv_FormatBool b w).mono ?_
  rintro e w' ⟨rfl, rfl⟩
  refine .mk ⟨?_, Stp.refl _ _⟩
  cases b <;> rfl
theorem pad_any (n wd : Int) (w : World) (h0 : 0 ≤ n) (h1 : n ≤ 9999) (hw : 0 ≤ wd) (hw2 : wd ≤ 4) (hl : ((Lib.itoa n).length : Int) ≤ wd) (hT : TabW w) : Calls Tryz.prog 84 #[.int .i64 n, .int .i64 wd] w (Ret fun r w' => r = str (padS wd.toNat (Lib.itoa n)) ∧ Stp [] w w') := by
  refine calls_of_WC2 (n := 15) Tryz.func84 rfl rfl rfl ?_
  refine W ?_
  refine WL_eff (OE_call rfl (evs1 rfl) (Itoa_any n _ (by omega) (by omega) hT)) rfl ?_
  rintro _ w1 ⟨rfl, hS⟩
  refine W ?_
  refine WL_eff (OE_call rfl (evs2 rfl rfl) (Repeat_any 48 _ _ (by omega) (by omega))) rfl ?_
  rintro _ w2 ⟨rfl, hS2⟩
  refine W ?_
  refine WL_addT rfl rfl (by simp; omega) rfl ?_
  refine W ?_
  first | refine WQ_ret1 rfl rfl ?_ | refine WQ_ret2 rfl rfl rfl ?_ | refine WQ_ret3 rfl rfl rfl rfl ?_ | refine WQ_ret0 rfl ?_ | refine WQ_end0 rfl ?_
  refine .mk ⟨?_, hS.trans hS2⟩
  unfold padS
  congr 3
  omega
theorem DOf_any (n : Int) (w : World) (h0 : 0 ≤ n) (h1 : n ≤ 3652058) : Calls Tryz.prog 83 #[.int .i64 n] w (Ret fun r w' => r = .tuple #[datV (ofM n).y (ofM n).m (ofM n).d, .int .i64 0] ∧ Stp [] w w') := by
  refine calls_of_WC1 (n := 73) Tryz.func83 rfl rfl rfl ?_
  refine W ?_
  refine WL_eff OE_alloc rfl ?_
  rintro _ w1 ⟨b2, rfl, hb2, e2', hS⟩
  have hw1 := hS.size
  repeat' (first | refine W1 ?_ | (exfalso; omega) | refine WL_split rfl rfl (fun hg => ?_) (fun hg => ?_) | refine WL_splitB rfl rfl (fun hg => ?_) (fun hg => ?_) | refine WC_cond rfl (fun hc => ?_) (fun hc => ?_) | refine WC_condB rfl (fun hc => ?_) (fun hc => ?_))
  unfold ofM
  simp only
  have hr0 := Int.emod_nonneg (n + 306) (b := 146097) (by decide)
  have hr1 := Int.emod_lt_of_pos (n + 306) (b := 146097) (by decide)
  have he : (n + 306) / 146097 ≤ 25 ∧ 0 ≤ (n + 306) / 146097 := by omega
  generalize (n + 306) % 146097 = doe at *
  generalize (n + 306) / 146097 = era at *
  obtain ⟨yoe, doy, e1, e2, hy, hd, -⟩ := era_ok doe hr0 hr1
  simp only [e1, e2]
  have hmb : 0 ≤ (5 * (doy : Int) + 2) / 153 ∧ (5 * (doy : Int) + 2) / 153 ≤ 11 := by omega
  repeat' (first | refine W1 ?_ | (exfalso; omega) | refine WL_split rfl rfl (fun hg => ?_) (fun hg => ?_) | refine WL_splitB rfl rfl (fun hg => ?_) (fun hg => ?_) | refine WC_cond rfl (fun hc => ?_) (fun hc => ?_) | refine WC_condB rfl (fun hc => ?_) (fun hc => ?_))
  refine WL_build (vs := [(0, .int .i64 _), (1, .int .i64 _), (2, .int .i64 _)]) rfl (buildDt _ _ _) rfl ?_
  refine WL_eff OE_alloc rfl ?_
  rintro _ w2 ⟨b10, rfl, hb10, e10, hT⟩
  have n2 : b10 ≠ b2 := by have := e2'.lt; omega
  replace e2' := e2'.up hT
  replace hS := hS.trans hT
  refine WL_eff0 (OE_storeA (us := [.int .i64 _, .int .i64 _, .int .i64 _]) rfl rfl rfl rfl (by simp; exact ⟨rfl, rfl, rfl⟩) e10 rfl) ?_
  rintro _ w3 ⟨hT, e10'⟩
  replace e2' := e2'.ext hT (by simpa using n2.symm)
  replace hS := hS.own hT (fun c hc => .inr (by simp at hc; have := hS.size; omega))
  clear e10 hT
  repeat' (first | refine W1 ?_ | (exfalso; omega) | refine WL_split rfl rfl (fun hg => ?_) (fun hg => ?_) | refine WL_splitB rfl rfl (fun hg => ?_) (fun hg => ?_) | refine WC_cond rfl (fun hc => ?_) (fun hc => ?_) | refine WC_condB rfl (fun hc => ?_) (fun hc => ?_))
  · rename_i hc
    refine WL_eff0 (OE_store1 (u := .int .i64 ((yoe : Int) + 400 * era + 1)) rfl rfl rfl rfl e10' (by simp)) ?_
    rintro _ w4 ⟨hT, e10⟩
    replace e10 : Blk w4 b10 134 [.int .i64 ((yoe : Int) + 400 * era + 1), .int .i64 ((5 * (doy : Int) + 2) / 153 + 3), .int .i64 ((doy : Int) - (153 * ((5 * (doy : Int) + 2) / 153) + 2) / 5 + 1)] := e10
    replace e2' := e2'.ext hT (by simpa using n2.symm)
    replace hS := hS.own hT (fun c hc => .inr (by simp at hc; omega))
    clear e10' hT
    refine W ?_
    refine WL_eff0 (OE_store1 (u := .int .i64 ((5 * (doy : Int) + 2) / 153 - 9)) rfl rfl rfl rfl e10 (by simp)) ?_
    rintro _ w5 ⟨hT, e10'⟩
    replace e10' : Blk w5 b10 134 [.int .i64 ((yoe : Int) + 400 * era + 1), .int .i64 ((5 * (doy : Int) + 2) / 153 - 9), .int .i64 ((doy : Int) - (153 * ((5 * (doy : Int) + 2) / 153) + 2) / 5 + 1)] := e10'
    replace e2' := e2'.ext hT (by simpa using n2.symm)
    replace hS := hS.own hT (fun c hc => .inr (by simp at hc; omega))
    clear e10 hT
    refine W ?_
    refine WL_eff0 (OE_storeA (us := [.int .i64 _, .int .i64 _, .int .i64 _]) rfl rfl rfl rfl (by simp; exact ⟨rfl, rfl, rfl⟩) e2' rfl) ?_
    rintro _ w6 ⟨hT, e2⟩
    replace hS := hS.own hT (fun c hc => .inr (by simp at hc; omega))
    refine W ?_
    refine WQ_retct rfl rfl rfl e2 rfl rfl ?_
    refine .mk ⟨?_, hS⟩
    rw [if_pos (by omega)]
  · rename_i hc
    refine WL_eff0 (OE_storeA (us := [.int .i64 _, .int .i64 _, .int .i64 _]) rfl rfl rfl rfl (by simp; exact ⟨rfl, rfl, rfl⟩) e2' rfl) ?_
    rintro _ w6 ⟨hT, e2⟩
    replace hS := hS.own hT (fun c hc => .inr (by simp at hc; omega))
    refine W ?_
    refine WQ_retct rfl rfl rfl e2 rfl rfl ?_
    refine .mk ⟨?_, hS⟩
    rw [if_neg (by omega)]
theorem DPrint_any (n : Int) (w : World) (h0 : 0 ≤ n) (h1 : n ≤ 3652058) (hT : TabW w) : Calls Tryz.prog 31 #[.int .i64 n] w (Ret fun r w' => r = str (dateS n) ∧ Stp [] w w') := by
  obtain ⟨g1, g2, g3, g4, g5, g6, g7⟩ := ofM_ok h0 h1
  have g8 := lengthM_le (ofM n).y (ofM n).m
  have hli : ∀ (z : Int) (k : Nat), 0 ≤ z → z < ((10 ^ (k + 1) : Nat) : Int) → (Lib.itoa z).length ≤ k + 1 := fun z k hz h => by
    unfold Lib.itoa
    rw [if_neg (by omega)]
    exact decDigits_len k z.toNat (by omega)
  have ly := hli (ofM n).y 3 (by omega) (by omega)
  have lm := hli (ofM n).m 1 (by omega) (by omega)
  have ld := hli (ofM n).d 1 (by omega) (by omega)
  clear hli g7
  unfold dateS
  have hOf := DOf_any n w h0 h1
  generalize ofM n = dd at *
  refine calls_of_WC1 (n := 29) Tryz.func31 rfl rfl rfl ?_
  refine W ?_
  refine WL_eff (OE_call rfl (evs1 rfl) hOf) rfl ?_
  rintro _ w1 ⟨rfl, hS⟩
  refine W ?_
  refine WL_eff OE_alloc rfl ?_
  rintro _ w2 ⟨b3, rfl, hb3, e3, hT1⟩
  have hw := hS.size
  replace hS := hS.trans hT1
  clear hT1
  refine WL_eff0 (OE_storeA (us := [.int .i64 dd.y, .int .i64 dd.m, .int .i64 dd.d]) rfl rfl rfl rfl (by simp; exact ⟨rfl, rfl, rfl⟩) e3 rfl) ?_
  rintro _ w3 ⟨hT1, e3'⟩
  replace hS := hS.own hT1 (fun c hc => .inr (by simp at hc; omega))
  clear e3 hT1
  repeat' (first | refine W1 ?_ | (exfalso; omega) | refine WL_split rfl rfl (fun hg => ?_) (fun hg => ?_) | refine WL_splitB rfl rfl (fun hg => ?_) (fun hg => ?_) | refine WC_cond rfl (fun hc => ?_) (fun hc => ?_) | refine WC_condB rfl (fun hc => ?_) (fun hc => ?_))
  refine WC_drawn 17 [] [] [(0, 0), (1, 0), (2, 1), (5, 0), (6, 0), (7, 1), (11, 0), (12, 0), (13, 1), (3, 2), (4, 0), (8, 2), (9, 0), (10, 0), (14, 2), (15, 0), (16, 0)] rfl mixed (by kernel_rfl) (by kernel_rfl) (by kernel_rfl) (fun w1 hS1 => ?_)
  replace e3' := e3'.up hS1
  replace hS := hS.trans hS1
  clear hS1
  refine D ?_
  have hp := pad_any dd.y 4 w1 (by omega) (by omega) (by omega) (by omega) (by omega) (hT.up hS)
  refine WD_eff rfl trivial (OE_call rfl (evs2 rfl rfl) hp) (fun _ _ h => h.2) rfl ?_
  clear hp
  rintro _ w5 ⟨rfl, hT1⟩
  replace e3' := e3'.up hT1
  replace hS := hS.trans hT1
  clear hT1
  refine WD_free rfl trivial (fun _ => PR_addT rfl rfl (by simp [padS]; omega)) rfl ?_
  refine D ?_
  have hp := pad_any dd.m 2 w5 (by omega) (by omega) (by omega) (by omega) (by omega) (hT.up hS)
  refine WD_eff rfl trivial (OE_call rfl (evs2 rfl rfl) hp) (fun _ _ h => h.2) rfl ?_
  clear hp
  rintro _ w6 ⟨rfl, hT1⟩
  replace e3' := e3'.up hT1
  replace hS := hS.trans hT1
  clear hT1
  refine WD_free rfl trivial (fun _ => PR_addT rfl rfl (by simp [padS]; omega)) rfl ?_
  refine WD_free rfl trivial (fun _ => PR_addT rfl rfl (by simp [padS]; omega)) rfl ?_
  refine D ?_
  have hp := pad_any dd.d 2 w6 (by omega) (by omega) (by omega) (by omega) (by omega) (hT.up hS)
  refine WD_eff rfl trivial (OE_call rfl (evs2 rfl rfl) hp) (fun _ _ h => h.2) rfl ?_
  clear hp
  rintro _ w7 ⟨rfl, hT1⟩
  replace e3' := e3'.up hT1
  replace hS := hS.trans hT1
  clear hT1
  refine WD_free rfl trivial (fun _ => PR_addT rfl rfl (by simp [padS]; omega)) rfl ?_
  refine D ?_
  refine W ?_
  first | refine WQ_ret1 rfl rfl ?_ | refine WQ_ret2 rfl rfl rfl ?_ | refine WQ_ret3 rfl rfl rfl rfl ?_ | refine WQ_ret0 rfl ?_ | refine WQ_end0 rfl ?_
  exact .mk ⟨rfl, hS⟩
end Go.Proofs.YtgpibcgebpgmiaaGreatDoor


/-
The printing of expressions, walked.
-/
namespace Go.Proofs.YtgpibcgebpgmiaaGreatDoor
open Go Go.Eng Go.RowKit Go.Proofs
set_option linter.unusedVariables false
theorem level_any (x : Nd) (X : List Nat) (v : Value) (w : World) (hx : NdV X w v x) : Calls Tryz.prog 87 #[v] w (Ret fun r w' => r = .int .i64 (lvl x : Int) ∧ Stp [] w w') := by
  obtain ⟨kv, rfl, hs⟩ := hx
  unfold lvl
  refine calls_of_WC1 (n := 18) Tryz.func87 rfl rfl rfl ?_
  refine W ?_
  refine WL_eff (OE_box rfl) rfl ?_
  rintro _ w1 ⟨b, rfl, hb, hblk, hS⟩
  replace hblk : Blk w1 b _ (ndC x kv) := hblk
  repeat' (first | refine W1 ?_ | (exfalso; omega) | refine WL_split rfl rfl (fun hg => ?_) (fun hg => ?_) | refine WL_splitB rfl rfl (fun hg => ?_) (fun hg => ?_) | refine WC_cond rfl (fun hc => ?_) (fun hc => ?_) | refine WC_condB rfl (fun hc => ?_) (fun hc => ?_))
  · refine WL_eff (OE_call rfl (evs1 rfl) (levelOf_any x.word _)) rfl ?_
    rintro _ wv ⟨rfl, hwv⟩
    subst wv
    refine W ?_
    first | refine WQ_ret1 rfl rfl ?_ | refine WQ_ret2 rfl rfl rfl ?_ | refine WQ_ret3 rfl rfl rfl rfl ?_ | refine WQ_ret0 rfl ?_ | refine WQ_end0 rfl ?_
    refine .mk ⟨?_, hS⟩
    rw [if_pos (by assumption)]
  all_goals first | refine WQ_ret1 rfl rfl ?_ | refine WQ_ret2 rfl rfl rfl ?_ | refine WQ_ret3 rfl rfl rfl rfl ?_ | refine WQ_ret0 rfl ?_ | refine WQ_end0 rfl ?_
  all_goals refine .mk ⟨?_, hS⟩
  all_goals simp [*]
/-- strings.Join -/
theorem Join_any (xs : List Str) (sep : Str) (v : Value) (w : World) (hs : SlV [] w v xs) (hl : (Lib.join xs sep).length ≤ 140737488355328) (hn : xs.length ≤ 1000) :
    Calls Tryz.prog 91 #[v, str sep] w (Ret fun r w' => r = str (Lib.join xs sep) ∧ Stp [] w w') := by
  obtain ⟨p, c, rfl, h1, h2, h3, h4⟩ := hs
  cases xs with
  | nil =>
    refine (Tryz.strings_Join_none p c ⟨sep.toArray⟩ w).mono ?_
    rintro e w' ⟨rfl, rfl⟩
    exact .mk ⟨rfl, Stp.refl _ _⟩
  | cons x0 r =>
    obtain ⟨b, o, cs, rfl, hb, -⟩ := h4 0 (by simp)
    have hm : ((x0 :: r).map fun x => (⟨x.toArray⟩ : ByteArray)).map (·.data.toList) = x0 :: r := by
      rw [List.map_map]
      exact List.map_id' _
    have := Tryz.strings_Join b o c ((x0 :: r).map fun x => (⟨x.toArray⟩ : ByteArray)) ⟨sep.toArray⟩ w ?_ hb (by simp at hn ⊢; omega) (by simpa using h1) (by rw [hm]; exact hl)
    · rw [hm] at this
      simp only [List.length_map] at this
      refine this.mono ?_
      rintro e w' ⟨rfl, hB⟩
      exact .mk ⟨rfl, Stp.of_below hB⟩
    · intro j x hx
      have hj : j < (x0 :: r).length := by
        have := (List.getElem?_eq_some_iff.1 hx).1
        simpa using this
      obtain ⟨b', o', cs', e1, _, _, hr, hc⟩ := h4 j hj
      simp only [Option.some.injEq, Addr.mk.injEq] at e1
      obtain ⟨rfl, rfl, _⟩ := e1
      have hr' : cs' = [str (x0 :: r)[j]] := hr
      subst hr'
      have h5 := hc 0 _ rfl
      have hx' : x = ⟨((x0 :: r)[j]).toArray⟩ := by
        rw [List.getElem?_map, List.getElem?_eq_getElem hj] at hx
        simpa using hx.symm
      subst hx'
      have hk : GoRep.k Str = 1 := rfl
      rw [hk] at h5
      simpa using h5
/-- what Show gives -/
def ShowP (x : Nd) : Prop := ∀ (X : List Nat) (v : Value) (w : World), NdV X w v x → TabW w → (showN dateS x).length ≤ 1000000000 → Calls Tryz.prog 32 #[v] w (Ret fun r w' => r = str (showN dateS x) ∧ Stp [] w w')
theorem operand_any (x : Nd) (hsh : ShowP x) (least : Nat) (X : List Nat) (v : Value) (w : World) (hx : NdV X w v x) (hT : TabW w) (hl : (showN dateS x).length ≤ 1000000000) :
    Calls Tryz.prog 89 #[v, .int .i64 (least : Int)] w (Ret fun r w' => r = str (parS least (lvl x, showN dateS x)) ∧ Stp [] w w') := by
  obtain ⟨kv, rfl, hs⟩ := hx
  unfold parS
  simp only
  generalize hsx : showN dateS x = sx at *
  refine calls_of_WC2 (n := 15) Tryz.func89 rfl rfl rfl ?_
  refine W ?_
  refine WL_eff (OE_box rfl) rfl ?_
  rintro _ w1 ⟨b, rfl, hb, hblk, hS⟩
  replace hblk : Blk w1 b _ (ndC x kv) := hblk
  replace hs := hs.up hS
  refine W ?_
  refine WL_eff (OE_call rfl (evs1 rfl) (level_any x X _ _ ⟨kv, rfl, hs⟩)) rfl ?_
  rintro _ w2 ⟨rfl, hT2⟩
  replace hs := hs.up hT2; replace hblk := hblk.up hT2
  replace hS := hS.trans hT2
  clear hT2
  by_cases hlt : lvl x < least
  · rw [if_pos hlt]
    repeat' (first | refine W1 ?_ | (exfalso; omega) | refine WL_split rfl rfl (fun hg => ?_) (fun hg => ?_) | refine WL_splitB rfl rfl (fun hg => ?_) (fun hg => ?_) | refine WC_cond rfl (fun hc => ?_) (fun hc => ?_) | refine WC_condB rfl (fun hc => ?_) (fun hc => ?_))
    have hsh' := hsh X _ _ ⟨kv, rfl, hs⟩ (hT.up hS) (by rw [hsx]; exact hl)
    rw [hsx] at hsh'
    refine WL_eff (OE_call rfl (evs1 rfl) hsh') rfl ?_
    rintro _ w3 ⟨rfl, hT3⟩
    replace hS := hS.trans hT3
    refine WL_addT rfl rfl (by simp; omega) rfl ?_
    refine WL_addT rfl rfl (by simp; omega) rfl ?_
    refine W ?_
    first | refine WQ_ret1 rfl rfl ?_ | refine WQ_ret2 rfl rfl rfl ?_ | refine WQ_ret3 rfl rfl rfl rfl ?_ | refine WQ_ret0 rfl ?_ | refine WQ_end0 rfl ?_
    exact .mk ⟨rfl, hS⟩
  · rw [if_neg hlt]
    repeat' (first | refine W1 ?_ | (exfalso; omega) | refine WL_split rfl rfl (fun hg => ?_) (fun hg => ?_) | refine WL_splitB rfl rfl (fun hg => ?_) (fun hg => ?_) | refine WC_cond rfl (fun hc => ?_) (fun hc => ?_) | refine WC_condB rfl (fun hc => ?_) (fun hc => ?_))
    have hsh' := hsh X _ _ ⟨kv, rfl, hs⟩ (hT.up hS) (by rw [hsx]; exact hl)
    rw [hsx] at hsh'
    refine WL_eff (OE_call rfl (evs1 rfl) hsh') rfl ?_
    rintro _ w3 ⟨rfl, hT3⟩
    replace hS := hS.trans hT3
    refine W ?_
    first | refine WQ_ret1 rfl rfl ?_ | refine WQ_ret2 rfl rfl rfl ?_ | refine WQ_ret3 rfl rfl rfl rfl ?_ | refine WQ_ret0 rfl ?_ | refine WQ_end0 rfl ?_
    exact .mk ⟨rfl, hS⟩
theorem all_any (l : List Nd) (hsh : ∀ y ∈ l, ShowP y) (hl : ∀ y ∈ l, (showN dateS y).length ≤ 1000000000) (h3 : l.length ≤ 3) (X : List Nat) (kv : Value) (w : World) (hs : SlV X w kv l) (hT : TabW w) :
    Calls Tryz.prog 90 #[kv] w (Ret fun r w' => RowF 9 w w' r (l.map (showN dateS))) := by
  refine calls_of_WC1 (n := 19) Tryz.func90 rfl rfl rfl ?_
  refine W ?_
  refine WC_loop (σ := Nat × Value) (fun q => [(3, q.2), (6, kv), (7, .int .i64 l.length), (8, .int .i64 q.1)]) (fun q w' => q.1 ≤ l.length ∧ RowF 9 w w' q.2 ((l.take q.1).map (showN dateS))) (fun q => l.length - q.1) (0, .slice none 0 0) ⟨rfl, rfl, rfl, rfl, trivial⟩ ⟨Nat.zero_le _, ⟨Row.nil, Stp.refl _ _⟩⟩ ?_
  rintro ⟨i, v⟩ w1 ⟨hi, hrow⟩
  dsimp only at hi hrow ⊢
  have hS := hrow.2
  have hs1 := hs.up hS
  by_cases hlt : i < l.length
  · obtain ⟨kv2, hk2, hc2⟩ := hs1.nd hlt
    repeat' (first | refine W1 ?_ | (exfalso; omega) | refine WL_split rfl rfl (fun hg => ?_) (fun hg => ?_) | refine WL_splitB rfl rfl (fun hg => ?_) (fun hg => ?_) | refine WC_cond rfl (fun hc => ?_) (fun hc => ?_) | refine WC_condB rfl (fun hc => ?_) (fun hc => ?_))
    apply WL_pure (PR_loadNd rfl rfl hs1 hlt hc2) rfl
    refine WL_eff OE_alloc rfl ?_
    rintro _ w2 ⟨b5, rfl, hb5, e5, hT2⟩
    refine WL_eff0 (OE_storeA (us := ndC l[i] kv2) rfl rfl rfl rfl (ndC_one hk2) e5 rfl) ?_
    rintro _ w3 ⟨hT3, e5'⟩
    have hT23 : Stp [] w1 w3 := hT2.own hT3 (fun c hc => .inr (by simp at hc; omega))
    clear hT2 hT3 e5
    replace hk2 := hk2.up hT23
    refine W ?_
    have hmem : l[i] ∈ l := List.getElem_mem hlt
    refine WL_eff (OE_call rfl (evs1 rfl) (hsh _ hmem X _ _ ⟨kv2, rfl, hk2⟩ (hT.up (hS.trans hT23)) (hl _ hmem))) rfl ?_
    rintro _ w4 ⟨rfl, hT4⟩
    replace hT4 := hT23.trans hT4
    clear hT23
    replace hrow : RowF 9 w w4 v ((l.take i).map (showN dateS)) := hrow.up hT4
    refine WL_eff (OE_buildSlice (vs := [(0, str _)]) rfl (buildSS1 _)) rfl ?_
    rintro bv w5 hN
    have hSb := hN.choose_spec.2.2.2
    have hbv : SlV (ob v) w5 bv [showN dateS l[i]] := hN.slv (fun b hb => (hrow.ob_le b hb).2) rfl rfl (by simp [maxLen])
    clear hN
    replace hrow : RowF 9 w w5 v ((l.take i).map (showN dateS)) := hrow.up hSb
    refine WL_eff (OE_appF rfl (by decide) rfl rfl hrow hbv (by simp; omega) (by simp [maxLen]; omega)) rfl ?_
    rintro v' w6 ⟨hrow', -⟩
    refine W ?_
    refine WQ_loop (i + 1, v') ⟨rfl, rfl, rfl, rfl, trivial⟩ ⟨hlt, ?_⟩ (by dsimp only; omega)
    dsimp only
    rw [List.take_succ_eq_append_getElem hlt, List.map_append]
    exact hrow'
  · have hke : i = l.length := by omega
    subst hke
    rw [List.take_length] at hrow
    repeat' (first | refine W1 ?_ | (exfalso; omega) | refine WL_split rfl rfl (fun hg => ?_) (fun hg => ?_) | refine WL_splitB rfl rfl (fun hg => ?_) (fun hg => ?_) | refine WC_cond rfl (fun hc => ?_) (fun hc => ?_) | refine WC_condB rfl (fun hc => ?_) (fun hc => ?_))
    first | refine WQ_ret1 rfl rfl ?_ | refine WQ_ret2 rfl rfl rfl ?_ | refine WQ_ret3 rfl rfl rfl rfl ?_ | refine WQ_ret0 rfl ?_ | refine WQ_end0 rfl ?_
    exact .mk hrow
end Go.Proofs.YtgpibcgebpgmiaaGreatDoor


/-
The printing of expressions: Show.
-/
namespace Go.Proofs.YtgpibcgebpgmiaaGreatDoor
open Go Go.Eng Go.RowKit Go.Proofs
set_option linter.unusedVariables false
theorem parS_len (k : Nat) (p : Nat × Str) : p.2.length ≤ (parS k p).length ∧ (parS k p).length ≤ p.2.length + 2 := by
  unfold parS
  split <;> simp <;> omega
theorem show_any (x : Nd) : Wf x → ShowP x := by
  induction x using Nd.ind with
  | h k n s l ih =>
  intro hwf X v w hx hT hl
  cases hwf with
  | num n h =>
    rw [showN_mk] at hl ⊢
    replace hl : (Lib.itoa n).length ≤ 1000000000 := hl
    show Calls _ _ _ _ (Ret fun r w' => r = str (Lib.itoa n) ∧ _)
    obtain ⟨kv, rfl, hs⟩ := hx
    replace hs : SlV X w kv [] := hs
    refine calls_of_WC1 (n := 129) Tryz.func32 rfl rfl rfl ?_
    refine W ?_
    refine WL_eff (OE_box rfl) rfl ?_
    rintro _ w1 ⟨bk, rfl, hbk, hblk, hS⟩
    replace hblk : Blk w1 bk _ [.int .i64 1, .int .i64 n, str [], kv] := hblk
    replace hs := hs.up hS
    refine W ?_
    refine WL_eff (OE_call rfl (evs1 rfl) (level_any (.mk 1 n [] []) X _ _ ⟨kv, rfl, hs⟩)) rfl ?_
    rintro _ w2 ⟨rfl, hT2⟩
    replace hs := hs.up hT2; replace hblk := hblk.up hT2
    replace hS := hS.trans hT2
    clear hT2
    repeat' (first | refine W1 ?_ | (exfalso; omega) | refine WL_split rfl rfl (fun hg => ?_) (fun hg => ?_) | refine WL_splitB rfl rfl (fun hg => ?_) (fun hg => ?_) | refine WC_cond rfl (fun hc => ?_) (fun hc => ?_) | refine WC_condB rfl (fun hc => ?_) (fun hc => ?_))
    refine WL_eff (OE_call rfl (evs1 rfl) (Itoa_any n _ (by omega) (by omega) (hT.up hS))) rfl ?_
    rintro _ w3 ⟨rfl, hT3⟩
    refine W ?_
    first | refine WQ_ret1 rfl rfl ?_ | refine WQ_ret2 rfl rfl rfl ?_ | refine WQ_ret3 rfl rfl rfl rfl ?_ | refine WQ_ret0 rfl ?_ | refine WQ_end0 rfl ?_
    exact .mk ⟨rfl, hS.trans hT3⟩
  | bool n h =>
    rw [showN_mk]
    show Calls _ _ _ _ (Ret fun r w' => r = str (if n = 1 then [116, 114, 117, 101] else [102, 97, 108, 115, 101]) ∧ _)
    obtain ⟨kv, rfl, hs⟩ := hx
    replace hs : SlV X w kv [] := hs
    refine calls_of_WC1 (n := 129) Tryz.func32 rfl rfl rfl ?_
    refine W ?_
    refine WL_eff (OE_box rfl) rfl ?_
    rintro _ w1 ⟨bk, rfl, hbk, hblk, hS⟩
    replace hblk : Blk w1 bk _ [.int .i64 2, .int .i64 n, str [], kv] := hblk
    replace hs := hs.up hS
    refine W ?_
    refine WL_eff (OE_call rfl (evs1 rfl) (level_any (.mk 2 n [] []) X _ _ ⟨kv, rfl, hs⟩)) rfl ?_
    rintro _ w2 ⟨rfl, hT2⟩
    replace hs := hs.up hT2; replace hblk := hblk.up hT2
    replace hS := hS.trans hT2
    clear hT2
    repeat' (first | refine W1 ?_ | (exfalso; omega) | refine WL_split rfl rfl (fun hg => ?_) (fun hg => ?_) | refine WL_splitB rfl rfl (fun hg => ?_) (fun hg => ?_) | refine WC_cond rfl (fun hc => ?_) (fun hc => ?_) | refine WC_condB rfl (fun hc => ?_) (fun hc => ?_))
    refine WL_eff (OE_call rfl (evs1 rfl) (FormatBool_any _ _)) rfl ?_
    rintro _ w3 ⟨rfl, hT3⟩
    refine W ?_
    first | refine WQ_ret1 rfl rfl ?_ | refine WQ_ret2 rfl rfl rfl ?_ | refine WQ_ret3 rfl rfl rfl rfl ?_ | refine WQ_ret0 rfl ?_ | refine WQ_end0 rfl ?_
    refine .mk ⟨?_, hS.trans hT3⟩
    simp only [decide_eq_true_eq]
  | day n h =>
    rw [showN_mk]
    show Calls _ _ _ _ (Ret fun r w' => r = str (64 :: dateS n) ∧ _)
    obtain ⟨kv, rfl, hs⟩ := hx
    replace hs : SlV X w kv [] := hs
    refine calls_of_WC1 (n := 129) Tryz.func32 rfl rfl rfl ?_
    refine W ?_
    refine WL_eff (OE_box rfl) rfl ?_
    rintro _ w1 ⟨bk, rfl, hbk, hblk, hS⟩
    replace hblk : Blk w1 bk _ [.int .i64 3, .int .i64 n, str [], kv] := hblk
    replace hs := hs.up hS
    refine W ?_
    refine WL_eff (OE_call rfl (evs1 rfl) (level_any (.mk 3 n [] []) X _ _ ⟨kv, rfl, hs⟩)) rfl ?_
    rintro _ w2 ⟨rfl, hT2⟩
    replace hs := hs.up hT2; replace hblk := hblk.up hT2
    replace hS := hS.trans hT2
    clear hT2
    repeat' (first | refine W1 ?_ | (exfalso; omega) | refine WL_split rfl rfl (fun hg => ?_) (fun hg => ?_) | refine WL_splitB rfl rfl (fun hg => ?_) (fun hg => ?_) | refine WC_cond rfl (fun hc => ?_) (fun hc => ?_) | refine WC_condB rfl (fun hc => ?_) (fun hc => ?_))
    refine WL_eff (OE_call rfl (evs1 rfl) (DPrint_any n _ (by omega) (by omega) (hT.up hS))) rfl ?_
    rintro _ w3 ⟨rfl, hT3⟩
    have hdl := dateS_len h.1 h.2
    refine WL_addT rfl rfl (by simp; omega) rfl ?_
    refine W ?_
    first | refine WQ_ret1 rfl rfl ?_ | refine WQ_ret2 rfl rfl rfl ?_ | refine WQ_ret3 rfl rfl rfl rfl ?_ | refine WQ_ret0 rfl ?_ | refine WQ_end0 rfl ?_
    exact .mk ⟨rfl, hS.trans hT3⟩
  | field s h =>
    rw [showN_mk]
    show Calls _ _ _ _ (Ret fun r w' => r = str s ∧ _)
    obtain ⟨kv, rfl, hs⟩ := hx
    replace hs : SlV X w kv [] := hs
    refine calls_of_WC1 (n := 129) Tryz.func32 rfl rfl rfl ?_
    refine W ?_
    refine WL_eff (OE_box rfl) rfl ?_
    rintro _ w1 ⟨bk, rfl, hbk, hblk, hS⟩
    replace hblk : Blk w1 bk _ [.int .i64 4, .int .i64 0, str s, kv] := hblk
    replace hs := hs.up hS
    refine W ?_
    refine WL_eff (OE_call rfl (evs1 rfl) (level_any (.mk 4 0 s []) X _ _ ⟨kv, rfl, hs⟩)) rfl ?_
    rintro _ w2 ⟨rfl, hT2⟩
    replace hs := hs.up hT2; replace hblk := hblk.up hT2
    replace hS := hS.trans hT2
    clear hT2
    repeat' (first | refine W1 ?_ | (exfalso; omega) | refine WL_split rfl rfl (fun hg => ?_) (fun hg => ?_) | refine WL_splitB rfl rfl (fun hg => ?_) (fun hg => ?_) | refine WC_cond rfl (fun hc => ?_) (fun hc => ?_) | refine WC_condB rfl (fun hc => ?_) (fun hc => ?_))
    first | refine WQ_ret1 rfl rfl ?_ | refine WQ_ret2 rfl rfl rfl ?_ | refine WQ_ret3 rfl rfl rfl rfl ?_ | refine WQ_ret0 rfl ?_ | refine WQ_end0 rfl ?_
    exact .mk ⟨rfl, hS⟩
  | neg a ha =>
    rw [showN_mk] at hl ⊢
    replace hl : ([45] ++ parS 7 (lvl a, showN dateS a)).length ≤ 1000000000 := hl
    have hp := parS_len 7 (lvl a, showN dateS a)
    simp only [List.length_append, List.length_cons, List.length_nil] at hl hp
    show Calls _ _ _ _ (Ret fun r w' => r = str ([45] ++ parS 7 (lvl a, showN dateS a)) ∧ _)
    obtain ⟨kv, rfl, hs⟩ := hx
    replace hs : SlV X w kv [a] := hs
    refine calls_of_WC1 (n := 129) Tryz.func32 rfl rfl rfl ?_
    refine W ?_
    refine WL_eff (OE_box rfl) rfl ?_
    rintro _ w1 ⟨bk, rfl, hbk, hblk, hS⟩
    replace hblk : Blk w1 bk _ [.int .i64 5, .int .i64 0, str [45], kv] := hblk
    replace hs := hs.up hS
    refine W ?_
    refine WL_eff (OE_call rfl (evs1 rfl) (level_any (.mk 5 0 [45] [a]) X _ _ ⟨kv, rfl, hs⟩)) rfl ?_
    rintro _ w2 ⟨rfl, hT2⟩
    replace hs := hs.up hT2; replace hblk := hblk.up hT2
    replace hS := hS.trans hT2
    clear hT2
    have h0 : 0 < ([a] : List Nd).length := by simp
    obtain ⟨k0, g0, c0⟩ := hs.nd h0
    replace g0 : SlV X w2 k0 a.kids := g0
    repeat' (first | refine W1 ?_ | (exfalso; omega) | refine WL_split rfl rfl (fun hg => ?_) (fun hg => ?_) | refine WL_splitB rfl rfl (fun hg => ?_) (fun hg => ?_) | refine WC_cond rfl (fun hc => ?_) (fun hc => ?_) | refine WC_condB rfl (fun hc => ?_) (fun hc => ?_))
    refine WL_pure (PR_loadNd rfl rfl hs h0 c0) rfl ?_
    refine W ?_
    refine WL_eff (OE_call rfl (evs2 rfl rfl) (operand_any a (ih a (by simp) ha) 7 X _ _ ⟨k0, rfl, g0⟩ (hT.up hS) (by omega))) rfl ?_
    rintro _ w3 ⟨rfl, hT3⟩
    refine WL_addT rfl rfl (by simp; omega) rfl ?_
    refine W ?_
    first | refine WQ_ret1 rfl rfl ?_ | refine WQ_ret2 rfl rfl rfl ?_ | refine WQ_ret3 rfl rfl rfl rfl ?_ | refine WQ_ret0 rfl ?_ | refine WQ_end0 rfl ?_
    exact .mk ⟨rfl, hS.trans hT3⟩
  | not a ha =>
    rw [showN_mk] at hl ⊢
    replace hl : ([110, 111, 116, 32] ++ parS 3 (lvl a, showN dateS a)).length ≤ 1000000000 := hl
    have hp := parS_len 3 (lvl a, showN dateS a)
    simp only [List.length_append, List.length_cons, List.length_nil] at hl hp
    show Calls _ _ _ _ (Ret fun r w' => r = str ([110, 111, 116, 32] ++ parS 3 (lvl a, showN dateS a)) ∧ _)
    obtain ⟨kv, rfl, hs⟩ := hx
    replace hs : SlV X w kv [a] := hs
    refine calls_of_WC1 (n := 129) Tryz.func32 rfl rfl rfl ?_
    refine W ?_
    refine WL_eff (OE_box rfl) rfl ?_
    rintro _ w1 ⟨bk, rfl, hbk, hblk, hS⟩
    replace hblk : Blk w1 bk _ [.int .i64 5, .int .i64 0, str [110, 111, 116], kv] := hblk
    replace hs := hs.up hS
    refine W ?_
    refine WL_eff (OE_call rfl (evs1 rfl) (level_any (.mk 5 0 [110, 111, 116] [a]) X _ _ ⟨kv, rfl, hs⟩)) rfl ?_
    rintro _ w2 ⟨rfl, hT2⟩
    replace hs := hs.up hT2; replace hblk := hblk.up hT2
    replace hS := hS.trans hT2
    clear hT2
    have h0 : 0 < ([a] : List Nd).length := by simp
    obtain ⟨k0, g0, c0⟩ := hs.nd h0
    replace g0 : SlV X w2 k0 a.kids := g0
    repeat' (first | refine W1 ?_ | (exfalso; omega) | refine WL_split rfl rfl (fun hg => ?_) (fun hg => ?_) | refine WL_splitB rfl rfl (fun hg => ?_) (fun hg => ?_) | refine WC_cond rfl (fun hc => ?_) (fun hc => ?_) | refine WC_condB rfl (fun hc => ?_) (fun hc => ?_))
    refine WL_pure (PR_loadNd rfl rfl hs h0 c0) rfl ?_
    refine W ?_
    refine WL_eff (OE_call rfl (evs2 rfl rfl) (operand_any a (ih a (by simp) ha) 3 X _ _ ⟨k0, rfl, g0⟩ (hT.up hS) (by omega))) rfl ?_
    rintro _ w3 ⟨rfl, hT3⟩
    refine WL_addT rfl rfl (by simp; omega) rfl ?_
    refine W ?_
    first | refine WQ_ret1 rfl rfl ?_ | refine WQ_ret2 rfl rfl rfl ?_ | refine WQ_ret3 rfl rfl rfl rfl ?_ | refine WQ_ret0 rfl ?_ | refine WQ_end0 rfl ?_
    exact .mk ⟨rfl, hS.trans hT3⟩
  | after s a b hu ha hb =>
    rw [showN_mk] at hl ⊢
    replace hl : (parS 5 (lvl a, showN dateS a) ++ [32, 43, 32] ++ parS 6 (lvl b, showN dateS b) ++ [32] ++ s).length ≤ 1000000000 := hl
    have hpa := parS_len 5 (lvl a, showN dateS a)
    have hpb := parS_len 6 (lvl b, showN dateS b)
    show Calls _ _ _ _ (Ret fun r w' => r = str (parS 5 (lvl a, showN dateS a) ++ [32, 43, 32] ++ parS 6 (lvl b, showN dateS b) ++ [32] ++ s) ∧ _)
    simp only [List.length_append, List.length_cons, List.length_nil] at hl hpa hpb
    obtain ⟨kv, rfl, hs⟩ := hx
    replace hs : SlV X w kv [a, b] := hs
    refine calls_of_WC1 (n := 129) Tryz.func32 rfl rfl rfl ?_
    refine W ?_
    refine WL_eff (OE_box rfl) rfl ?_
    rintro _ w1 ⟨bk, rfl, hbk, hblk, hS⟩
    replace hblk : Blk w1 bk _ [.int .i64 7, .int .i64 0, str s, kv] := hblk
    replace hs := hs.up hS
    refine W ?_
    refine WL_eff (OE_call rfl (evs1 rfl) (level_any (.mk 7 0 s [a, b]) X _ _ ⟨kv, rfl, hs⟩)) rfl ?_
    rintro _ w2 ⟨rfl, hT2⟩
    replace hs := hs.up hT2; replace hblk := hblk.up hT2
    replace hS := hS.trans hT2
    clear hT2
    rw [show lvl (.mk 7 0 s [a, b]) = 5 from rfl]
    repeat' (first | refine W1 ?_ | (exfalso; omega) | refine WL_split rfl rfl (fun hg => ?_) (fun hg => ?_) | refine WL_splitB rfl rfl (fun hg => ?_) (fun hg => ?_) | refine WC_cond rfl (fun hc => ?_) (fun hc => ?_) | refine WC_condB rfl (fun hc => ?_) (fun hc => ?_))
    have h0 : 0 < ([a, b] : List Nd).length := by simp
    have h1 : 1 < ([a, b] : List Nd).length := by simp
    refine WC_drawn 15 [] [] [(0, 0), (1, 1), (2, 0), (3, 1), (4, 0), (6, 0), (7, 1), (8, 0), (9, 1), (10, 0), (11, 0), (5, 2), (12, 2), (13, 0), (14, 0)] rfl mixed (by kernel_rfl) (by kernel_rfl) (by kernel_rfl) (fun w1 hS1 => ?_)
    replace hs := hs.up hS1; replace hblk := hblk.up hS1
    replace hS := hS.trans hS1
    clear hS1
    obtain ⟨k0, g0, c0⟩ := hs.nd h0
    obtain ⟨k1, g1, c1⟩ := hs.nd h1
    replace g0 : SlV X _ k0 a.kids := g0
    replace g1 : SlV X _ k1 b.kids := g1
    refine D ?_
    refine WD_read rfl trivial (fun w' hS' => PR_loadNd rfl rfl (hs.up hS') h0 (fun j u hj => cell_on hs h0 (hS'.mono (by simp)) (c0 j u hj))) rfl ?_
    refine D ?_
    refine WD_read rfl trivial (fun w' hS' => PR_loadNd rfl rfl (hs.up hS') h1 (fun j u hj => cell_on hs h1 (hS'.mono (by simp)) (c1 j u hj))) rfl ?_
    refine D ?_
    have hop := operand_any a (ih a (by simp) ha) (5) X _ _ ⟨k0, rfl, g0⟩ (hT.up hS) (by omega)
    refine WD_eff rfl trivial (OE_call rfl (evs2 rfl rfl) hop) (fun _ _ h => h.2) rfl ?_
    clear hop
    rintro _ w4 ⟨rfl, hT4⟩
    replace hs := hs.up hT4; replace hblk := hblk.up hT4; replace g1 := g1.up hT4
    replace hS := hS.trans hT4
    have hop := operand_any b (ih b (by simp) hb) (6) X _ _ ⟨k1, rfl, g1⟩ (hT.up hS) (by omega)
    refine WD_eff rfl trivial (OE_call rfl (evs2 rfl rfl) hop) (fun _ _ h => h.2) rfl ?_
    clear hop
    rintro _ w5 ⟨rfl, hT5⟩
    replace hs := hs.up hT5; replace hblk := hblk.up hT5
    replace hS := hS.trans hT5
    refine D ?_
    repeat' (first | refine W1 ?_ | (exfalso; omega) | refine WL_split rfl rfl (fun hg => ?_) (fun hg => ?_) | refine WL_splitB rfl rfl (fun hg => ?_) (fun hg => ?_) | refine WC_cond rfl (fun hc => ?_) (fun hc => ?_) | refine WC_condB rfl (fun hc => ?_) (fun hc => ?_))
    repeat' (first | refine W1 ?_ | refine WL_addT rfl rfl (by simp; omega) rfl ?_)
    first | refine WQ_ret1 rfl rfl ?_ | refine WQ_ret2 rfl rfl rfl ?_ | refine WQ_ret3 rfl rfl rfl rfl ?_ | refine WQ_ret0 rfl ?_ | refine WQ_end0 rfl ?_
    exact .mk ⟨by simp, hS⟩
  | before s a b hu ha hb =>
    rw [showN_mk] at hl ⊢
    replace hl : (parS 5 (lvl a, showN dateS a) ++ [32, 45, 32] ++ parS 6 (lvl b, showN dateS b) ++ [32] ++ s).length ≤ 1000000000 := hl
    have hpa := parS_len 5 (lvl a, showN dateS a)
    have hpb := parS_len 6 (lvl b, showN dateS b)
    show Calls _ _ _ _ (Ret fun r w' => r = str (parS 5 (lvl a, showN dateS a) ++ [32, 45, 32] ++ parS 6 (lvl b, showN dateS b) ++ [32] ++ s) ∧ _)
    simp only [List.length_append, List.length_cons, List.length_nil] at hl hpa hpb
    obtain ⟨kv, rfl, hs⟩ := hx
    replace hs : SlV X w kv [a, b] := hs
    refine calls_of_WC1 (n := 129) Tryz.func32 rfl rfl rfl ?_
    refine W ?_
    refine WL_eff (OE_box rfl) rfl ?_
    rintro _ w1 ⟨bk, rfl, hbk, hblk, hS⟩
    replace hblk : Blk w1 bk _ [.int .i64 8, .int .i64 0, str s, kv] := hblk
    replace hs := hs.up hS
    refine W ?_
    refine WL_eff (OE_call rfl (evs1 rfl) (level_any (.mk 8 0 s [a, b]) X _ _ ⟨kv, rfl, hs⟩)) rfl ?_
    rintro _ w2 ⟨rfl, hT2⟩
    replace hs := hs.up hT2; replace hblk := hblk.up hT2
    replace hS := hS.trans hT2
    clear hT2
    rw [show lvl (.mk 8 0 s [a, b]) = 5 from rfl]
    repeat' (first | refine W1 ?_ | (exfalso; omega) | refine WL_split rfl rfl (fun hg => ?_) (fun hg => ?_) | refine WL_splitB rfl rfl (fun hg => ?_) (fun hg => ?_) | refine WC_cond rfl (fun hc => ?_) (fun hc => ?_) | refine WC_condB rfl (fun hc => ?_) (fun hc => ?_))
    have h0 : 0 < ([a, b] : List Nd).length := by simp
    have h1 : 1 < ([a, b] : List Nd).length := by simp
    refine WC_drawn 15 [] [] [(0, 0), (1, 1), (2, 0), (3, 1), (4, 0), (6, 0), (7, 1), (8, 0), (9, 1), (10, 0), (11, 0), (5, 2), (12, 2), (13, 0), (14, 0)] rfl mixed (by kernel_rfl) (by kernel_rfl) (by kernel_rfl) (fun w1 hS1 => ?_)
    replace hs := hs.up hS1; replace hblk := hblk.up hS1
    replace hS := hS.trans hS1
    clear hS1
    obtain ⟨k0, g0, c0⟩ := hs.nd h0
    obtain ⟨k1, g1, c1⟩ := hs.nd h1
    replace g0 : SlV X _ k0 a.kids := g0
    replace g1 : SlV X _ k1 b.kids := g1
    refine D ?_
    refine WD_read rfl trivial (fun w' hS' => PR_loadNd rfl rfl (hs.up hS') h0 (fun j u hj => cell_on hs h0 (hS'.mono (by simp)) (c0 j u hj))) rfl ?_
    refine D ?_
    refine WD_read rfl trivial (fun w' hS' => PR_loadNd rfl rfl (hs.up hS') h1 (fun j u hj => cell_on hs h1 (hS'.mono (by simp)) (c1 j u hj))) rfl ?_
    refine D ?_
    have hop := operand_any a (ih a (by simp) ha) (5) X _ _ ⟨k0, rfl, g0⟩ (hT.up hS) (by omega)
    refine WD_eff rfl trivial (OE_call rfl (evs2 rfl rfl) hop) (fun _ _ h => h.2) rfl ?_
    clear hop
    rintro _ w4 ⟨rfl, hT4⟩
    replace hs := hs.up hT4; replace hblk := hblk.up hT4; replace g1 := g1.up hT4
    replace hS := hS.trans hT4
    have hop := operand_any b (ih b (by simp) hb) (6) X _ _ ⟨k1, rfl, g1⟩ (hT.up hS) (by omega)
    refine WD_eff rfl trivial (OE_call rfl (evs2 rfl rfl) hop) (fun _ _ h => h.2) rfl ?_
    clear hop
    rintro _ w5 ⟨rfl, hT5⟩
    replace hs := hs.up hT5; replace hblk := hblk.up hT5
    replace hS := hS.trans hT5
    refine D ?_
    repeat' (first | refine W1 ?_ | (exfalso; omega) | refine WL_split rfl rfl (fun hg => ?_) (fun hg => ?_) | refine WL_splitB rfl rfl (fun hg => ?_) (fun hg => ?_) | refine WC_cond rfl (fun hc => ?_) (fun hc => ?_) | refine WC_condB rfl (fun hc => ?_) (fun hc => ?_))
    repeat' (first | refine W1 ?_ | refine WL_addT rfl rfl (by simp; omega) rfl ?_)
    first | refine WQ_ret1 rfl rfl ?_ | refine WQ_ret2 rfl rfl rfl ?_ | refine WQ_ret3 rfl rfl rfl rfl ?_ | refine WQ_ret0 rfl ?_ | refine WQ_end0 rfl ?_
    exact .mk ⟨by simp, hS⟩
  | bin s a b hs1 ha hb =>
    have hlo := levelO_le s
    rw [showN_mk] at hl ⊢
    replace hl : (parS (leftL (levelO s)) (lvl a, showN dateS a) ++ [32] ++ s ++ [32] ++ parS (levelO s + 1) (lvl b, showN dateS b)).length ≤ 1000000000 := hl
    have hpa := parS_len (leftL (levelO s)) (lvl a, showN dateS a)
    have hpb := parS_len (levelO s + 1) (lvl b, showN dateS b)
    show Calls _ _ _ _ (Ret fun r w' => r = str (parS (leftL (levelO s)) (lvl a, showN dateS a) ++ [32] ++ s ++ [32] ++ parS (levelO s + 1) (lvl b, showN dateS b)) ∧ _)
    simp only [List.length_append, List.length_cons, List.length_nil] at hl hpa hpb
    obtain ⟨kv, rfl, hs⟩ := hx
    replace hs : SlV X w kv [a, b] := hs
    refine calls_of_WC1 (n := 129) Tryz.func32 rfl rfl rfl ?_
    refine W ?_
    refine WL_eff (OE_box rfl) rfl ?_
    rintro _ w1 ⟨bk, rfl, hbk, hblk, hS⟩
    replace hblk : Blk w1 bk _ [.int .i64 6, .int .i64 0, str s, kv] := hblk
    replace hs := hs.up hS
    refine W ?_
    refine WL_eff (OE_call rfl (evs1 rfl) (level_any (.mk 6 0 s [a, b]) X _ _ ⟨kv, rfl, hs⟩)) rfl ?_
    rintro _ w2 ⟨rfl, hT2⟩
    replace hs := hs.up hT2; replace hblk := hblk.up hT2
    replace hS := hS.trans hT2
    clear hT2
    rw [show lvl (.mk 6 0 s [a, b]) = levelO s from rfl]
    have hlf : leftL (levelO s) = if levelO s = 4 then 5 else levelO s := rfl
    generalize leftL (levelO s) = lf at *
    generalize levelO s = lv at *
    repeat' (first | refine W1 ?_ | (exfalso; omega) | refine WL_split rfl rfl (fun hg => ?_) (fun hg => ?_) | refine WL_splitB rfl rfl (fun hg => ?_) (fun hg => ?_) | refine WC_cond rfl (fun hc => ?_) (fun hc => ?_) | refine WC_condB rfl (fun hc => ?_) (fun hc => ?_))
    · have e4 : lf = 5 := by rw [hlf, if_pos (by omega)]
      subst e4
      have h0 : 0 < ([a, b] : List Nd).length := by simp
      have h1 : 1 < ([a, b] : List Nd).length := by simp
      refine WC_drawn 15 [] [] [(0, 0), (1, 1), (2, 0), (3, 1), (4, 0), (6, 0), (7, 1), (8, 0), (9, 1), (10, 0), (11, 0), (5, 2), (12, 2), (13, 0), (14, 0)] rfl mixed (by kernel_rfl) (by kernel_rfl) (by kernel_rfl) (fun w1 hS1 => ?_)
      replace hs := hs.up hS1; replace hblk := hblk.up hS1
      replace hS := hS.trans hS1
      clear hS1
      obtain ⟨k0, g0, c0⟩ := hs.nd h0
      obtain ⟨k1, g1, c1⟩ := hs.nd h1
      replace g0 : SlV X _ k0 a.kids := g0
      replace g1 : SlV X _ k1 b.kids := g1
      refine D ?_
      refine WD_read rfl trivial (fun w' hS' => PR_loadNd rfl rfl (hs.up hS') h0 (fun j u hj => cell_on hs h0 (hS'.mono (by simp)) (c0 j u hj))) rfl ?_
      refine D ?_
      refine WD_read rfl trivial (fun w' hS' => PR_loadNd rfl rfl (hs.up hS') h1 (fun j u hj => cell_on hs h1 (hS'.mono (by simp)) (c1 j u hj))) rfl ?_
      refine D ?_
      have hop := operand_any a (ih a (by simp) ha) (5) X _ _ ⟨k0, rfl, g0⟩ (hT.up hS) (by omega)
      refine WD_eff rfl trivial (OE_call rfl (evs2 rfl rfl) hop) (fun _ _ h => h.2) rfl ?_
      clear hop
      rintro _ w4 ⟨rfl, hT4⟩
      replace hs := hs.up hT4; replace hblk := hblk.up hT4; replace g1 := g1.up hT4
      replace hS := hS.trans hT4
      have hop := operand_any b (ih b (by simp) hb) (lv + 1) X _ _ ⟨k1, rfl, g1⟩ (hT.up hS) (by omega)
      refine WD_eff rfl trivial (OE_call rfl (evs2 rfl rfl) hop) (fun _ _ h => h.2) rfl ?_
      clear hop
      rintro _ w5 ⟨rfl, hT5⟩
      replace hs := hs.up hT5; replace hblk := hblk.up hT5
      replace hS := hS.trans hT5
      refine D ?_
      repeat' (first | refine W1 ?_ | (exfalso; omega) | refine WL_split rfl rfl (fun hg => ?_) (fun hg => ?_) | refine WL_splitB rfl rfl (fun hg => ?_) (fun hg => ?_) | refine WC_cond rfl (fun hc => ?_) (fun hc => ?_) | refine WC_condB rfl (fun hc => ?_) (fun hc => ?_))
      repeat' (first | refine W1 ?_ | refine WL_addT rfl rfl (by simp; omega) rfl ?_)
      first | refine WQ_ret1 rfl rfl ?_ | refine WQ_ret2 rfl rfl rfl ?_ | refine WQ_ret3 rfl rfl rfl rfl ?_ | refine WQ_ret0 rfl ?_ | refine WQ_end0 rfl ?_
      exact .mk ⟨by simp, hS⟩
    · have e4 : lf = lv := by rw [hlf, if_neg (by omega)]
      subst e4
      have h0 : 0 < ([a, b] : List Nd).length := by simp
      have h1 : 1 < ([a, b] : List Nd).length := by simp
      refine WC_drawn 15 [] [] [(0, 0), (1, 1), (2, 0), (3, 1), (4, 0), (6, 0), (7, 1), (8, 0), (9, 1), (10, 0), (11, 0), (5, 2), (12, 2), (13, 0), (14, 0)] rfl mixed (by kernel_rfl) (by kernel_rfl) (by kernel_rfl) (fun w1 hS1 => ?_)
      replace hs := hs.up hS1; replace hblk := hblk.up hS1
      replace hS := hS.trans hS1
      clear hS1
      obtain ⟨k0, g0, c0⟩ := hs.nd h0
      obtain ⟨k1, g1, c1⟩ := hs.nd h1
      replace g0 : SlV X _ k0 a.kids := g0
      replace g1 : SlV X _ k1 b.kids := g1
      refine D ?_
      refine WD_read rfl trivial (fun w' hS' => PR_loadNd rfl rfl (hs.up hS') h0 (fun j u hj => cell_on hs h0 (hS'.mono (by simp)) (c0 j u hj))) rfl ?_
      refine D ?_
      refine WD_read rfl trivial (fun w' hS' => PR_loadNd rfl rfl (hs.up hS') h1 (fun j u hj => cell_on hs h1 (hS'.mono (by simp)) (c1 j u hj))) rfl ?_
      refine D ?_
      have hop := operand_any a (ih a (by simp) ha) (lf) X _ _ ⟨k0, rfl, g0⟩ (hT.up hS) (by omega)
      refine WD_eff rfl trivial (OE_call rfl (evs2 rfl rfl) hop) (fun _ _ h => h.2) rfl ?_
      clear hop
      rintro _ w4 ⟨rfl, hT4⟩
      replace hs := hs.up hT4; replace hblk := hblk.up hT4; replace g1 := g1.up hT4
      replace hS := hS.trans hT4
      have hop := operand_any b (ih b (by simp) hb) (lf + 1) X _ _ ⟨k1, rfl, g1⟩ (hT.up hS) (by omega)
      refine WD_eff rfl trivial (OE_call rfl (evs2 rfl rfl) hop) (fun _ _ h => h.2) rfl ?_
      clear hop
      rintro _ w5 ⟨rfl, hT5⟩
      replace hs := hs.up hT5; replace hblk := hblk.up hT5
      replace hS := hS.trans hT5
      refine D ?_
      repeat' (first | refine W1 ?_ | (exfalso; omega) | refine WL_split rfl rfl (fun hg => ?_) (fun hg => ?_) | refine WL_splitB rfl rfl (fun hg => ?_) (fun hg => ?_) | refine WC_cond rfl (fun hc => ?_) (fun hc => ?_) | refine WC_condB rfl (fun hc => ?_) (fun hc => ?_))
      repeat' (first | refine W1 ?_ | refine WL_addT rfl rfl (by simp; omega) rfl ?_)
      first | refine WQ_ret1 rfl rfl ?_ | refine WQ_ret2 rfl rfl rfl ?_ | refine WQ_ret3 rfl rfl rfl rfl ?_ | refine WQ_ret0 rfl ?_ | refine WQ_end0 rfl ?_
      exact .mk ⟨by simp, hS⟩
  | cond a b c ha hb hc =>
    rw [showN_mk] at hl ⊢
    replace hl : ([105, 102, 32] ++ showN dateS a ++ [32, 116, 104, 101, 110, 32] ++ showN dateS b ++ [32, 101, 108, 115, 101, 32] ++ showN dateS c ++ [32, 101, 110, 100]).length ≤ 1000000000 := hl
    show Calls _ _ _ _ (Ret fun r w' => r = str ([105, 102, 32] ++ showN dateS a ++ [32, 116, 104, 101, 110, 32] ++ showN dateS b ++ [32, 101, 108, 115, 101, 32] ++ showN dateS c ++ [32, 101, 110, 100]) ∧ _)
    simp only [List.length_append, List.length_cons, List.length_nil] at hl
    obtain ⟨kv, rfl, hs⟩ := hx
    replace hs : SlV X w kv [a, b, c] := hs
    refine calls_of_WC1 (n := 129) Tryz.func32 rfl rfl rfl ?_
    refine W ?_
    refine WL_eff (OE_box rfl) rfl ?_
    rintro _ w1 ⟨bk, rfl, hbk, hblk, hS⟩
    replace hblk : Blk w1 bk _ [.int .i64 9, .int .i64 0, str [], kv] := hblk
    replace hs := hs.up hS
    refine W ?_
    refine WL_eff (OE_call rfl (evs1 rfl) (level_any (.mk 9 0 [] [a, b, c]) X _ _ ⟨kv, rfl, hs⟩)) rfl ?_
    rintro _ w2 ⟨rfl, hT2⟩
    replace hs := hs.up hT2; replace hblk := hblk.up hT2
    replace hS := hS.trans hT2
    clear hT2
    repeat' (first | refine W1 ?_ | (exfalso; omega) | refine WL_split rfl rfl (fun hg => ?_) (fun hg => ?_) | refine WL_splitB rfl rfl (fun hg => ?_) (fun hg => ?_) | refine WC_cond rfl (fun hc => ?_) (fun hc => ?_) | refine WC_condB rfl (fun hc => ?_) (fun hc => ?_))
    have hall := all_any [a, b, c] (fun y hy => by
      simp only [List.mem_cons, List.not_mem_nil, or_false] at hy
      rcases hy with rfl | rfl | rfl
      · exact ih _ (by simp) ha
      · exact ih _ (by simp) hb
      · exact ih _ (by simp) hc) (fun y hy => by
      simp only [List.mem_cons, List.not_mem_nil, or_false] at hy
      rcases hy with rfl | rfl | rfl <;> omega) (by simp) X _ _ hs (hT.up hS)
    refine WL_eff (OE_call rfl (evs1 rfl) hall) rfl ?_
    clear hall
    rintro rv w3 hrow
    replace hS := hS.trans hrow.2
    have hrs : SlV [] w3 rv [showN dateS a, showN dateS b, showN dateS c] := hrow.slv (by simp)
    clear hrow
    generalize showN dateS a = sa at *
    generalize showN dateS b = sb at *
    generalize showN dateS c = sc at *
    have h0 : 0 < ([sa, sb, sc] : List Str).length := by simp
    have h1 : 1 < ([sa, sb, sc] : List Str).length := by simp
    have h2 : 2 < ([sa, sb, sc] : List Str).length := by simp
    refine W ?_
    refine WC_drawn 16 [] [] [(0, 0), (1, 0), (2, 1), (3, 0), (4, 0), (5, 0), (6, 0), (7, 1), (8, 0), (9, 0), (10, 0), (11, 0), (12, 1), (13, 0), (14, 0), (15, 0)] rfl mixed (by kernel_rfl) (by kernel_rfl) (by kernel_rfl) (fun w1 hS1 => ?_)
    replace hrs := hrs.up hS1
    replace hS := hS.trans hS1
    clear hS1
    repeat' (first | refine D1 ?_ | refine WD_free rfl trivial (fun _ => PR_addT rfl rfl (by simp; omega)) rfl ?_)
    repeat' (first | refine W1 ?_ | (exfalso; omega) | refine WL_split rfl rfl (fun hg => ?_) (fun hg => ?_) | refine WL_splitB rfl rfl (fun hg => ?_) (fun hg => ?_) | refine WC_cond rfl (fun hc => ?_) (fun hc => ?_) | refine WC_condB rfl (fun hc => ?_) (fun hc => ?_))
    first | refine WQ_ret1 rfl rfl ?_ | refine WQ_ret2 rfl rfl rfl ?_ | refine WQ_ret3 rfl rfl rfl rfl ?_ | refine WQ_ret0 rfl ?_ | refine WQ_end0 rfl ?_
    exact .mk ⟨by simp, hS⟩
  | call1 s a hf h1 ha =>
    rw [showN_mk] at hl ⊢
    have hj : ([44, 32] : Str).intercalate [showN dateS a] = showN dateS a := by simp [List.intercalate, List.intersperse]
    replace hl : (s ++ [40] ++ ([44, 32] : Str).intercalate [showN dateS a] ++ [41]).length ≤ 1000000000 := hl
    show Calls _ _ _ _ (Ret fun r w' => r = str (s ++ [40] ++ ([44, 32] : Str).intercalate [showN dateS a] ++ [41]) ∧ _)
    rw [hj] at hl ⊢
    simp only [List.length_append, List.length_cons, List.length_nil] at hl
    obtain ⟨kv, rfl, hs⟩ := hx
    replace hs : SlV X w kv [a] := hs
    refine calls_of_WC1 (n := 129) Tryz.func32 rfl rfl rfl ?_
    refine W ?_
    refine WL_eff (OE_box rfl) rfl ?_
    rintro _ w1 ⟨bk, rfl, hbk, hblk, hS⟩
    replace hblk : Blk w1 bk _ [.int .i64 10, .int .i64 0, str s, kv] := hblk
    replace hs := hs.up hS
    refine W ?_
    refine WL_eff (OE_call rfl (evs1 rfl) (level_any (.mk 10 0 s [a]) X _ _ ⟨kv, rfl, hs⟩)) rfl ?_
    rintro _ w2 ⟨rfl, hT2⟩
    replace hs := hs.up hT2; replace hblk := hblk.up hT2
    replace hS := hS.trans hT2
    clear hT2
    repeat' (first | refine W1 ?_ | (exfalso; omega) | refine WL_split rfl rfl (fun hg => ?_) (fun hg => ?_) | refine WL_splitB rfl rfl (fun hg => ?_) (fun hg => ?_) | refine WC_cond rfl (fun hc => ?_) (fun hc => ?_) | refine WC_condB rfl (fun hc => ?_) (fun hc => ?_))
    refine WC_drawn 10 [] [] [(0, 0), (1, 1), (2, 0), (3, 0), (4, 1), (5, 2), (6, 2), (7, 0), (8, 0), (9, 0)] rfl mixed (by kernel_rfl) (by kernel_rfl) (by kernel_rfl) (fun w1 hS1 => ?_)
    replace hs := hs.up hS1; replace hblk := hblk.up hS1
    replace hS := hS.trans hS1
    clear hS1
    repeat' (first | refine D1 ?_ | refine WD_free rfl trivial (fun _ => PR_addT rfl rfl (by simp; omega)) rfl ?_)
    have hall := all_any [a] (fun y hy => by
      simp only [List.mem_cons, List.not_mem_nil, or_false] at hy
      rcases hy with rfl
      · exact ih _ (by simp) ha) (fun y hy => by
      simp only [List.mem_cons, List.not_mem_nil, or_false] at hy
      rcases hy with rfl <;> omega) (by simp) X _ _ hs (hT.up hS)
    refine WD_eff rfl trivial (OE_call rfl (evs1 rfl) hall) (fun _ _ h => h.2) rfl ?_
    clear hall
    rintro rv w4 hrow
    have hrs : SlV [] w4 rv [showN dateS a] := hrow.slv (by simp)
    replace hS := hS.trans hrow.2
    clear hrow
    have hjn := Join_any _ [44, 32] _ _ hrs (by show (([44, 32] : Str).intercalate [showN dateS a]).length ≤ _; rw [hj]; first | omega | (simp; omega)) (by simp)
    refine WD_eff rfl trivial (OE_call rfl (evs2 rfl rfl) hjn) (fun _ _ h => h.2) rfl ?_
    clear hjn
    rintro _ w5 ⟨rfl, hT5⟩
    rw [show Lib.join [showN dateS a] [44, 32] = showN dateS a from hj]
    replace hS := hS.trans hT5
    repeat' (first | refine D1 ?_ | refine WD_free rfl trivial (fun _ => PR_addT rfl rfl (by simp; omega)) rfl ?_)
    repeat' (first | refine W1 ?_ | (exfalso; omega) | refine WL_split rfl rfl (fun hg => ?_) (fun hg => ?_) | refine WL_splitB rfl rfl (fun hg => ?_) (fun hg => ?_) | refine WC_cond rfl (fun hc => ?_) (fun hc => ?_) | refine WC_condB rfl (fun hc => ?_) (fun hc => ?_))
    first | refine WQ_ret1 rfl rfl ?_ | refine WQ_ret2 rfl rfl rfl ?_ | refine WQ_ret3 rfl rfl rfl rfl ?_ | refine WQ_ret0 rfl ?_ | refine WQ_end0 rfl ?_
    exact .mk ⟨by simp, hS⟩
  | call2 s a b hf h1 ha hb =>
    rw [showN_mk] at hl ⊢
    have hj : ([44, 32] : Str).intercalate [showN dateS a, showN dateS b] = showN dateS a ++ [44, 32] ++ showN dateS b := by simp [List.intercalate, List.intersperse]
    replace hl : (s ++ [40] ++ ([44, 32] : Str).intercalate [showN dateS a, showN dateS b] ++ [41]).length ≤ 1000000000 := hl
    show Calls _ _ _ _ (Ret fun r w' => r = str (s ++ [40] ++ ([44, 32] : Str).intercalate [showN dateS a, showN dateS b] ++ [41]) ∧ _)
    rw [hj] at hl ⊢
    simp only [List.length_append, List.length_cons, List.length_nil] at hl
    obtain ⟨kv, rfl, hs⟩ := hx
    replace hs : SlV X w kv [a, b] := hs
    refine calls_of_WC1 (n := 129) Tryz.func32 rfl rfl rfl ?_
    refine W ?_
    refine WL_eff (OE_box rfl) rfl ?_
    rintro _ w1 ⟨bk, rfl, hbk, hblk, hS⟩
    replace hblk : Blk w1 bk _ [.int .i64 10, .int .i64 0, str s, kv] := hblk
    replace hs := hs.up hS
    refine W ?_
    refine WL_eff (OE_call rfl (evs1 rfl) (level_any (.mk 10 0 s [a, b]) X _ _ ⟨kv, rfl, hs⟩)) rfl ?_
    rintro _ w2 ⟨rfl, hT2⟩
    replace hs := hs.up hT2; replace hblk := hblk.up hT2
    replace hS := hS.trans hT2
    clear hT2
    repeat' (first | refine W1 ?_ | (exfalso; omega) | refine WL_split rfl rfl (fun hg => ?_) (fun hg => ?_) | refine WL_splitB rfl rfl (fun hg => ?_) (fun hg => ?_) | refine WC_cond rfl (fun hc => ?_) (fun hc => ?_) | refine WC_condB rfl (fun hc => ?_) (fun hc => ?_))
    refine WC_drawn 10 [] [] [(0, 0), (1, 1), (2, 0), (3, 0), (4, 1), (5, 2), (6, 2), (7, 0), (8, 0), (9, 0)] rfl mixed (by kernel_rfl) (by kernel_rfl) (by kernel_rfl) (fun w1 hS1 => ?_)
    replace hs := hs.up hS1; replace hblk := hblk.up hS1
    replace hS := hS.trans hS1
    clear hS1
    repeat' (first | refine D1 ?_ | refine WD_free rfl trivial (fun _ => PR_addT rfl rfl (by simp; omega)) rfl ?_)
    have hall := all_any [a, b] (fun y hy => by
      simp only [List.mem_cons, List.not_mem_nil, or_false] at hy
      rcases hy with rfl | rfl
      · exact ih _ (by simp) ha
      · exact ih _ (by simp) hb) (fun y hy => by
      simp only [List.mem_cons, List.not_mem_nil, or_false] at hy
      rcases hy with rfl | rfl <;> omega) (by simp) X _ _ hs (hT.up hS)
    refine WD_eff rfl trivial (OE_call rfl (evs1 rfl) hall) (fun _ _ h => h.2) rfl ?_
    clear hall
    rintro rv w4 hrow
    have hrs : SlV [] w4 rv [showN dateS a, showN dateS b] := hrow.slv (by simp)
    replace hS := hS.trans hrow.2
    clear hrow
    have hjn := Join_any _ [44, 32] _ _ hrs (by show (([44, 32] : Str).intercalate [showN dateS a, showN dateS b]).length ≤ _; rw [hj]; first | omega | (simp; omega)) (by simp)
    refine WD_eff rfl trivial (OE_call rfl (evs2 rfl rfl) hjn) (fun _ _ h => h.2) rfl ?_
    clear hjn
    rintro _ w5 ⟨rfl, hT5⟩
    rw [show Lib.join [showN dateS a, showN dateS b] [44, 32] = showN dateS a ++ [44, 32] ++ showN dateS b from hj]
    replace hS := hS.trans hT5
    repeat' (first | refine D1 ?_ | refine WD_free rfl trivial (fun _ => PR_addT rfl rfl (by simp; omega)) rfl ?_)
    repeat' (first | refine W1 ?_ | (exfalso; omega) | refine WL_split rfl rfl (fun hg => ?_) (fun hg => ?_) | refine WL_splitB rfl rfl (fun hg => ?_) (fun hg => ?_) | refine WC_cond rfl (fun hc => ?_) (fun hc => ?_) | refine WC_condB rfl (fun hc => ?_) (fun hc => ?_))
    first | refine WQ_ret1 rfl rfl ?_ | refine WQ_ret2 rfl rfl rfl ?_ | refine WQ_ret3 rfl rfl rfl rfl ?_ | refine WQ_ret0 rfl ?_ | refine WQ_end0 rfl ?_
    exact .mk ⟨by simp, hS⟩
end Go.Proofs.YtgpibcgebpgmiaaGreatDoor


/-
strings.Builder, walked.
-/
namespace Go.Eng
open Go Go.RowKit Go.Proofs
set_option linter.unusedVariables false
section
variable {P : Program} {n : Nat} {e : Env} {w : World} {d : Option Nat} {ty : TypeId} {pos : String} {af : Array Edge} {g : Option (Nat × Bool)}
theorem Blk.shape {b T : Nat} {cs : List Value} (h : Blk w b T cs) : w.shape? b = some (T, cs.length) := by
  unfold Blk at h
  simp [World.shape?, h]
theorem PR_toUnsafe {src dst t b T : Nat} {j : TypeInfo} {cs : List Value} {x : Operand} [hs : Und P src (.pointer t)] [hd : Und P dst .unsafePointer] (ht : P.info? t = some j) (hj : j.size ≠ 0) (hx : ev e x = some (.pointer (some ⟨b, 0, none⟩))) (hb : Blk w b T cs) (hl : 0 < cs.length) :
    PR P n ⟨d, .convert src dst x, ty, pos, af, g⟩ e w (.pointer (some ⟨b, 0, none⟩)) :=
  ⟨fun a ha => by
    have := Go.Lib.run_to_unsafe (P := P) w (src := src) (dst := dst) ⟨b, 0, none⟩ hs.h hd.h ht hj hb.shape hl
    simp [execOp, ha.ev hx, this]⟩
theorem PR_fromUnsafe {src dst u b T : Nat} {j : TypeInfo} {cs : List Value} {x : Operand} [hs : Und P src .unsafePointer] [hd : Und P dst (.pointer u)] (hu : P.info? u = some j) (hx : ev e x = some (.pointer (some ⟨b, 0, none⟩))) (hb : Blk w b T cs) (hl : liesAt P P.depth T (cs.length / P.cellsOf T) 0 u 1 = true) :
    PR P n ⟨d, .convert src dst x, ty, pos, af, g⟩ e w (.pointer (some ⟨b, 0, none⟩)) :=
  ⟨fun a ha => by
    have := Go.Lib.run_from_unsafe (P := P) w (src := src) (dst := dst) ⟨b, 0, none⟩ hs.h hd.h hu hb.shape hl
    simp [execOp, ha.ev hx, this]⟩
theorem PR_extern {f : Nat} {fn : Func} {x : Operand} {ts : Array TypeId} {en : Array Value → Sem Value} {c : Operand} {v u : Value} (hf : P.funcs[f]? = some fn) (hname : (fn.name == "runtime.NumGoroutine") = false)
    (hb : fn.body.isNone = true) (hnx : Extern.findNext fn = none) (he : Extern.find fn = some en) (hc : ev e c = some (.func (.func f) #[] #[])) (hx : ev e x = some v) (hen : ∀ w, (en #[v]).run P w = .ok u w) :
    PR P n ⟨d, .call { callee := .value c, args := #[x], argTypes := ts }, ty, pos, af, g⟩ e w u :=
  ⟨fun a ha => by
    have := run_callFunc_extern hf hname hb hnx he #[v] w
    simp only [execOp, resolve, ha.ev hc, Deferred.ofValue]
    simp [invoke, ha.ev hx, this, hen]⟩
theorem guardPtr (o : BinOp) (t : TypeId) (x y : Operand) (p q : Option Addr) (w : World) : (eqGuard o t x y (.pointer p) (.pointer q)).run P w = .ok () w := by cases o <;> rfl
theorem PR_binPtr {o : BinOp} {t u : TypeId} {x y : Operand} {p q : Option Addr} {c : Value} (hx : ev e x = some (.pointer p)) (hy : ev e y = some (.pointer q)) (h : ∀ w, (binOp o t (.pointer p) (.pointer q)).run P w = .ok c w) : PR P n ⟨d, .binOp o t x y u, ty, pos, af, g⟩ e w c :=
  ⟨fun s ha => by
    simp only [execOp, ha.ev hx, ha.ev hy]
    simp [h, guardPtr]⟩
end
end Go.Eng
namespace Go.Proofs.YtgpibcgebpgmiaaGreatDoor
open Go Go.Eng Go.RowKit Go.Proofs
set_option linter.unusedVariables false
theorem ptrNil (w : World) : (binOp .eql 68 (.pointer none) (.pointer none)).run Tryz.prog w = .ok (.bool true) w := by kernel_rfl
theorem ptrSome (a : Addr) (w : World) : (binOp .eql 68 (.pointer (some a)) (.pointer none)).run Tryz.prog w = .ok (.bool false) w := by kernel_rfl
theorem infoB : ∃ j, Tryz.prog.info? 70 = some j ∧ j.size ≠ 0 := by
  cases h : Tryz.prog.info? 70 with
  | none =>
    have : (Tryz.prog.info? 70).isSome = true := by kernel_rfl
    rw [h] at this
    simp at this
  | some j =>
    refine ⟨j, rfl, ?_⟩
    have : (Tryz.prog.info? 70).map (·.size) = some 2 := by kernel_rfl
    rw [h] at this
    simp at this
    omega
theorem liesB : liesAt Tryz.prog Tryz.prog.depth 70 (2 / Tryz.prog.cellsOf 70) 0 70 1 = true := by kernel_rfl
theorem copyCheck_any (b : Nat) (p v : Value) (w : World) (hb : Blk w b 70 [p, v]) (hp : p = .pointer none ∨ p = .pointer (some ⟨b, 0, none⟩)) :
    Calls Tryz.prog 82 #[.pointer (some ⟨b, 0, none⟩)] w (Ret fun r w' => Blk w' b 70 [.pointer (some ⟨b, 0, none⟩), v] ∧ Stp [b] w w') := by
  refine calls_of_WC1 (n := 20) Tryz.func82 rfl rfl rfl ?_
  obtain ⟨j, hj, hj0⟩ := infoB
  rcases hp with rfl | rfl
  · refine W ?_
    refine WL_pure (PR_binPtr rfl rfl ptrNil) rfl ?_
    refine W ?_
    refine WL_pure (PR_toUnsafe hj hj0 rfl hb (by simp)) rfl ?_
    refine WL_pure (PR_extern Tryz.func129 (by kernel_rfl) (by kernel_rfl) (by kernel_rfl) (en := Extern.AbiNoEscape.same) (by kernel_rfl) rfl rfl (fun w => Go.Lib.run_noEscape _ _)) rfl ?_
    refine WL_pure (PR_fromUnsafe hj rfl hb liesB) rfl ?_
    refine W ?_
    refine WL_eff0 (OE_store1 (u := .pointer (some ⟨b, 0, none⟩)) rfl rfl rfl rfl hb (by simp)) ?_
    rintro _ w1 ⟨hS, hb'⟩
    refine W ?_
    first | refine WQ_ret0 rfl ?_ | refine WQ_end0 rfl ?_
    exact .mk ⟨hb', hS⟩
  · refine W ?_
    refine WL_pure (PR_binPtr rfl rfl (ptrSome _)) rfl ?_
    refine W ?_
    refine WL_pure (PR_binPtr rfl rfl (fun w => Go.Lib.run_neq_ptr_same w _ (by kernel_rfl) hj)) rfl ?_
    refine W ?_
    first | refine WQ_ret0 rfl ?_ | refine WQ_end0 rfl ?_
    exact .mk ⟨hb, Stp.refl _ _⟩
/-- a builder and what was written -/
structure Bd (w : World) (b base : Nat) (v : Value) (l : Str) : Prop where
  blk : ∃ p, Blk w b 70 [p, v] ∧ (p = .pointer none ∨ p = .pointer (some ⟨b, 0, none⟩))
  row : Row [b] w base 5 v l
  ne : b ∉ ob v
  le : base ≤ b
theorem Bd.up {w w' : World} {b base : Nat} {v : Value} {l : Str} (h : Bd w b base v l) (hS : Stp [] w w') : Bd w' b base v l := by
  obtain ⟨⟨p, h1, h2⟩, h3, h4, h5⟩ := h
  exact ⟨⟨p, h1.up hS, h2⟩, h3.up hS, h4, h5⟩
theorem Bd.lt {w : World} {b base : Nat} {v : Value} {l : Str} (h : Bd w b base v l) : b < w.heap.size := let ⟨p, h1, h2⟩ := h.blk; h1.lt
theorem Write_any (b base : Nat) (v : Value) (l s : Str) (w : World) (h : Bd w b base v l) (hl : l.length + s.length ≤ 140737488355328) :
    Calls Tryz.prog 30 #[.pointer (some ⟨b, 0, none⟩), str s] w (Ret fun r w' => ∃ v', Bd w' b base v' (l ++ s) ∧ Stp (b :: ob v) w w' ∧ ∀ c ∈ ob v', c ∈ ob v ∨ w.heap.size ≤ c) := by
  obtain ⟨⟨p, hb, hp⟩, hrow, hne, hle⟩ := h
  have hbl := hb.lt
  refine calls_of_WC2 (n := 19) Tryz.func30 rfl rfl rfl ?_
  refine W ?_
  refine WL_eff (OE_call rfl (evs1 rfl) (copyCheck_any b p v _ hb hp)) rfl ?_
  rintro _ w1 ⟨hb1, hS⟩
  replace hrow := hrow.ext (X' := [b]) hS (fun c hc => by simp at hc; subst hc; exact ⟨by simp, hne⟩) (fun c hc => .inl hc)
  clear hb hp
  refine W ?_
  refine WL_eff (OE_appendT (X := [b]) (base := base) rfl rfl hrow hl (by have := hS.size; omega)) rfl ?_
  rintro v' w2 ⟨hrow', hS2, hob⟩
  have hne' : b ∉ ob v' := fun hc => by
    rcases hob b hc with h | h
    · exact hne h
    · have := hb1.lt; omega
  replace hb1 := hb1.ext hS2 hne
  refine W ?_
  have hsl := hrow'.slv (X := []) (by simp)
  refine WL_eff0 (OE_store1 (u := v') rfl rfl hsl.cells hsl.one hb1 (by simp)) ?_
  rintro _ w3 ⟨hS3, hb3⟩
  replace hb3 : Blk w3 b 70 [.pointer (some ⟨b, 0, none⟩), v'] := hb3
  replace hrow' := hrow'.ext (X' := [b]) hS3 (fun c hc => by simp at hc; subst hc; exact ⟨by simp, hne'⟩) (fun c hc => .inl hc)
  refine W ?_
  first | refine WQ_ret1 rfl rfl ?_ | refine WQ_ret2 rfl rfl rfl ?_ | refine WQ_ret3 rfl rfl rfl rfl ?_ | refine WQ_ret0 rfl ?_ | refine WQ_end0 rfl ?_
  refine .mk ⟨v', ⟨⟨_, hb3, .inr rfl⟩, hrow', hne', hle⟩, ?_, fun c hc => ?_⟩
  · exact ((hS.mono (by simp)).trans (hS2.mono (fun _ hx => List.mem_cons_of_mem _ hx))).trans (hS3.mono (by simp))
  · rcases hob c hc with h | h
    · exact .inl h
    · exact .inr (Nat.le_trans hS.size h)
/-- the line of a rule -/
theorem line_any (b base : Nat) (v : Value) (l word s : Str) (w : World) (h : Bd w b base v l) (hl : l.length + word.length + s.length ≤ 100000000000) :
    Calls Tryz.prog 29 #[str word, str s, .pointer (some ⟨b, 0, none⟩)] w (Ret fun r w' => ∃ v', Bd w' b base v' (l ++ lineS word s) ∧ Stp (b :: ob v) w w' ∧ ∀ c ∈ ob v', c ∈ ob v ∨ w.heap.size ≤ c) := by
  unfold lineS
  by_cases hs : s = []
  · rw [if_pos hs, List.append_nil]
    refine calls_of_WC3 (n := 14) Tryz.func29 rfl rfl rfl ?_
    refine W ?_
    refine WC_cond rfl (fun hc => absurd hs hc) (fun hc => ?_)
    refine W ?_
    first | refine WQ_ret0 rfl ?_ | refine WQ_end0 rfl ?_
    exact .mk ⟨v, h, Stp.refl _ _, fun c hc => .inl hc⟩
  · rw [if_neg hs]
    refine calls_of_WC3 (n := 14) Tryz.func29 rfl rfl rfl ?_
    refine W ?_
    refine WC_cond rfl (fun hc => ?_) (fun hc => absurd hs hc)
    repeat' (first | refine W1 ?_ | refine WL_addT rfl rfl (by simp; omega) rfl ?_)
    refine WL_eff (OE_call rfl (evs2 rfl rfl) (Write_any b base v l _ _ h (by simp; omega))) rfl ?_
    rintro r w1 ⟨v', h1, h2, h3⟩
    refine W ?_
    first | refine WQ_ret0 rfl ?_ | refine WQ_end0 rfl ?_
    refine .mk ⟨v', ?_, h2, h3⟩
    simpa using h1
/-- what the builder holds -/
theorem String_any (b base : Nat) (v : Value) (l : Str) (w : World) (h : Bd w b base v l) (hB : base ≤ w.heap.size) :
    Calls Tryz.prog 33 #[.pointer (some ⟨b, 0, none⟩)] w (Ret fun r w' => r = str l ∧ Below base w w') := by
  obtain ⟨⟨p, hb, hp⟩, hrow, hne, hle⟩ := h
  obtain ⟨css, h1, h2, h3⟩ := hrow
  have hcss : css.flatten = Lib.byteCells l := by
    have : css = l.map Flat.enc := by
      apply List.ext_getElem (by simp [h1])
      intro i hi hi'
      have : css[i] = Flat.enc l[i] := h2 i (by omega) hi
      simpa using this
    rw [this]
    unfold Lib.byteCells
    clear this h1 h2 h3 hb hp
    induction l with
    | nil => rfl
    | cons c r ih => rw [List.map_cons, List.flatten_cons, ih]; rfl
  rw [hcss] at h3
  have hat : Lib.BuilderAt 70 5 base b p (Lib.byteCells l) w := ⟨hle, v, hb, by rw [Lib.byteCells_length]; exact h3, by rw [← ob_own] at hne; simpa [Option.mem_toList] using hne⟩
  refine (Tryz.Builder_String_any base b l w (by rcases hp with rfl | rfl; exact .inl hat; exact .inr hat) hB).mono ?_
  rintro e w' ⟨rfl, hBl⟩
  exact .mk ⟨rfl, hBl⟩
end Go.Proofs.YtgpibcgebpgmiaaGreatDoor


/-
Print, walked.
-/
namespace Go.Eng
open Go Go.RowKit Go.Proofs
set_option linter.unusedVariables false
end Go.Eng
namespace Go.Proofs.YtgpibcgebpgmiaaGreatDoor
open Go Go.Eng Go.RowKit Go.Proofs
set_option linter.unusedVariables false
theorem slvRul {X : List Nat} {w : World} {v : Value} {l : List Rul} {i : Nat} (h : SlV X w v l) (hi : i < l.length) : ∃ ki kd, SlV X w ki l[i].cnd.kids ∧ SlV X w kd l[i].due.kids ∧ ∀ j u, (rlC l[i] ki kd)[j]? = some u → w.cell? (elAddr v i 13 j) = some u := by
  obtain ⟨cs, hr, hc⟩ := h.cell hi
  obtain ⟨ki, kd, rfl, h1, h2⟩ := hr
  exact ⟨ki, kd, h1, h2, hc⟩
theorem PR_loadRul {P : Program} {n : Nat} {e : Env} {w : World} {d : Option Nat} {ty : TypeId} {pos : String} {af : Array Edge} {g : Option (Nat × Bool)} {X : List Nat} {v : Value} {l : List Rul} {i : Nat} {ki kd : Value} {x : Operand} {t : TypeId} {D : TypeDesc} [hu : Und P t D] (hA : aggB D = true) [hsz : Siz P t 13] (hx : ev e x = some (.pointer (some (elAddr v i 13 0)))) (hs : SlV X w v l) (hi : i < l.length)
    (hc : ∀ j u, (rlC l[i] ki kd)[j]? = some u → w.cell? (elAddr v i 13 j) = some u) :
    PR P n ⟨d, .load t x, ty, pos, af, g⟩ e w (.agg (rlC l[i] ki kd).toArray) := by
  obtain ⟨p, l', c, rfl⟩ := hs.isSome hi
  refine PR_loadN (cs := rlC l[i] ki kd) hA hx rfl (fun j u hu => ?_)
  have := hc j u hu
  simpa [elAddr] using this
theorem lineS_len (w s : Str) : s.length ≤ (lineS w s).length ∧ (lineS w s).length ≤ s.length + w.length + 5 := by
  unfold lineS
  split <;> simp [*] <;> omega
theorem ifS_len (ds : DayS) (x : Nd) (h : ¬ isTrue x) : ifS ds x = lineS [105, 102] (showN ds x) := by
  unfold ifS
  rw [if_neg h]
/-- the rules that can be printed -/
structure PrOk (r : RuleM) : Prop where
  frm : 0 ≤ r.frm ∧ r.frm ≤ 3652058
  cond : Wf r.cond
  due : Wf r.due
set_option maxHeartbeats 2000000 in
theorem Print_any (X : List Nat) (lv : Value) (rs : List RuleM) (w : World) (hX : ∀ c ∈ X, c < w.heap.size) (hs : SlV X w lv (rs.map RuleM.rul)) (hok : ∀ r ∈ rs, PrOk r) (hlen : (rs.flatMap (showRule dateS)).length ≤ 1000000) (hT : TabW w) :
    Calls Tryz.prog 8 #[lv] w (Ret fun r w' => r = str (rs.flatMap (showRule dateS)) ∧ Stp [] w w') := by
  have hln : (rs.map RuleM.rul).length = rs.length := by simp
  have hmax := hs.max
  refine calls_of_WC1 (n := 59) Tryz.func8 rfl rfl rfl ?_
  refine W ?_
  refine WL_eff OE_alloc rfl ?_
  rintro _ w0 ⟨b3, rfl, hb3, e3, hS0⟩
  have hB0 : Bd w0 b3 w.heap.size (.slice none 0 0) [] := ⟨⟨_, e3, .inl rfl⟩, Row.nil, by simp [ob], hb3⟩
  have hb3w : w.heap.size ≤ b3 := hb3
  clear e3
  have hs0 := hs.up hS0
  refine W ?_
  refine WC_loop (σ := Nat × Value) (fun q => [(3, .pointer (some ⟨b3, 0, none⟩)), (4, .func (.func 29) #[] #[.pointer (some ⟨b3, 0, none⟩)]), (8, lv), (9, .int .i64 (rs.map RuleM.rul).length), (10, .int .i64 q.1)])
    (fun q w' => q.1 ≤ rs.length ∧ Bd w' b3 w.heap.size q.2 ((rs.take q.1).flatMap (showRule dateS)) ∧ Stp [] w w') (fun q => rs.length - q.1) (0, .slice none 0 0) ⟨rfl, rfl, rfl, rfl, rfl, trivial⟩ ⟨Nat.zero_le _, hB0, hS0⟩ ?_
  clear hs0 hB0 hS0
  rintro ⟨i, v⟩ w1 ⟨hi, hB, hS⟩
  dsimp only at hi hB hS ⊢
  have hs1 := hs.up hS
  by_cases hlt : i < rs.length
  · have hlt' : i < (rs.map RuleM.rul).length := by rw [hln]; exact hlt
    obtain ⟨ki, kd, hki, hkd, hcl0⟩ := slvRul hs hlt'
    have hcl : ∀ j u, (rlC (rs.map RuleM.rul)[i] ki kd)[j]? = some u → w1.cell? (elAddr lv i 13 j) = some u := fun j u hj => cell_on hs hlt' (hS.mono (by simp)) (hcl0 j u hj)
    clear hcl0
    have hri : (rs.map RuleM.rul)[i] = rs[i].rul := by simp
    rw [hri] at hki hkd
    have hri' := hok rs[i] (List.getElem_mem hlt)
    have htk : (rs.take (i + 1)).flatMap (showRule dateS) = (rs.take i).flatMap (showRule dateS) ++ showRule dateS rs[i] := by
      rw [List.take_succ_eq_append_getElem hlt, List.flatMap_append]
      simp
    have hpre : ((rs.take (i + 1)).flatMap (showRule dateS)).length ≤ 1000000 := by
      refine Nat.le_trans ?_ hlen
      conv => rhs; rw [← List.take_append_drop (i + 1) rs]
      rw [List.flatMap_append, List.length_append]
      omega
    rw [htk] at hpre
    repeat' (first | refine W1 ?_ | (exfalso; omega) | refine WL_split rfl rfl (fun hg => ?_) (fun hg => ?_) | refine WL_splitB rfl rfl (fun hg => ?_) (fun hg => ?_) | refine WC_cond rfl (fun hc => ?_) (fun hc => ?_) | refine WC_condB rfl (fun hc => ?_) (fun hc => ?_))
    refine WL_pure (PR_loadRul rfl rfl hs1 hlt' hcl) rfl ?_
    rw [hri]
    generalize (rs.take i).flatMap (showRule dateS) = l0 at *
    generalize rs[i] = r at *
    refine WL_eff OE_alloc rfl ?_
    rintro _ w2 ⟨b6, rfl, hb6, e6, hT2⟩
    refine WL_eff0 (OE_storeA (us := rlC r.rul ki kd) rfl rfl rfl rfl (rlOne _ hki hkd) e6 rfl) ?_
    rintro _ w3 ⟨hT3, e6'⟩
    replace hT2 : Stp [] w1 w3 := hT2.own hT3 (fun c hc => .inr (by simp at hc; omega))
    clear hT3 e6
    have hBl := hB.lt
    have hBo := hB.row.ob_le
    replace hB := hB.up hT2
    replace hS := hS.trans hT2
    have n6 : b6 ∉ b3 :: ob v := fun hc => by
      rcases List.mem_cons.1 hc with h | h
      · omega
      · have := (hBo b6 h).2; omega
    clear hT2
    have hsr : (showRule dateS r).length = (headS dateS r ++ lineS [111, 110] r.on ++ ifS dateS r.cond ++ lineS [100, 117, 101] (showN dateS r.due) ++ lineS [117, 110, 108, 101, 115, 115] r.unl ++ lineS [101, 108, 115, 101] r.els ++ [125, 10]).length := rfl
    have e1 := lineS_len [111, 110] r.on
    have e2 := lineS_len [100, 117, 101] (showN dateS r.due)
    have e3 := lineS_len [117, 110, 108, 101, 115, 115] r.unl
    have e4 := lineS_len [101, 108, 115, 101] r.els
    have e5 : (headS dateS r).length = 5 + r.name.length + 7 + (dateS r.frm).length + 3 := by unfold headS; simp; omega
    have e6 := dateS_len hri'.frm.1 hri'.frm.2
    simp only [List.length_append, List.length_cons, List.length_nil] at hsr hpre e1 e2 e3 e4
    repeat' (first | refine W1 ?_ | (exfalso; omega) | refine WL_split rfl rfl (fun hg => ?_) (fun hg => ?_) | refine WL_splitB rfl rfl (fun hg => ?_) (fun hg => ?_) | refine WC_cond rfl (fun hc => ?_) (fun hc => ?_) | refine WC_condB rfl (fun hc => ?_) (fun hc => ?_))
    refine WC_drawn 10 (b3 :: ob v) [] [(0, 0), (1, 1), (2, 0), (3, 0), (4, 0), (5, 1), (6, 2), (7, 0), (8, 0), (9, 2)] rfl mixed (by kernel_rfl) (by kernel_rfl) (by kernel_rfl) (fun w1 hS1 => ?_)
    replace hB := hB.up hS1
    replace e6' := e6'.up hS1
    replace hS := hS.trans hS1
    clear hS1
    refine D ?_
    refine WD_free rfl trivial (fun _ => PR_addT rfl rfl (by simp [RuleM.rul]; omega)) rfl ?_
    refine WD_free rfl trivial (fun _ => PR_addT rfl rfl (by simp [RuleM.rul]; omega)) rfl ?_
    refine D ?_
    have hdp := DPrint_any r.frm _ hri'.frm.1 hri'.frm.2 (hT.up hS)
    refine WD_eff rfl trivial (OE_call rfl (evs1 rfl) hdp) (fun _ _ h => h.2.mono (by simp)) rfl ?_
    clear hdp
    rintro _ w6 ⟨rfl, hT6⟩
    replace hB := hB.up hT6
    replace e6' := e6'.up hT6
    replace hS := hS.trans hT6
    clear hT6
    refine WD_free rfl trivial (fun _ => PR_addT rfl rfl (by simp [RuleM.rul]; omega)) rfl ?_
    refine WD_free rfl trivial (fun _ => PR_addT rfl rfl (by simp [RuleM.rul]; omega)) rfl ?_
    have hw := Write_any b3 w.heap.size v l0 (headS dateS r) _ hB (by omega)
    refine WD_eff rfl trivial (OE_call rfl (evs2 rfl rfl) hw) (fun _ _ h => h.choose_spec.2.1) rfl ?_
    clear hw
    rintro _ w7 ⟨v1, hB', hT7, hob⟩
    have n6' : b6 ∉ b3 :: ob v1 := fun hc => by
      rcases List.mem_cons.1 hc with h | h
      · exact n6 (by simp [h])
      · rcases hob b6 h with h | h
        · exact n6 (by simp [h])
        · have := e6'.lt; omega
    replace e6' := e6'.ext hT7 n6
    replace hS := hS.own hT7 (fun c hc => by
      rcases List.mem_cons.1 hc with rfl | h
      · exact .inr hb3w
      · exact .inr (hB.row.ob_le c h).1)
    clear hB n6 hob hT7
    have hB := hB'
    have n6 := n6'
    clear hB' n6'
    replace hB : Bd w7 b3 w.heap.size v1 (l0 ++ headS dateS r) := hB
    refine WD_nil ?_
    refine W ?_
    refine WL_eff (OE_callC rfl (evs2 rfl rfl) rfl (line_any b3 w.heap.size v1 (l0 ++ headS dateS r) [111, 110] (r.on) _ hB (by simp; omega))) rfl ?_
    rintro _ w8 ⟨u8, hB', hT7, hob⟩
    have n6' : b6 ∉ b3 :: ob u8 := fun hc => by
      rcases List.mem_cons.1 hc with h | h
      · exact n6 (by simp [h])
      · rcases hob b6 h with h | h
        · exact n6 (by simp [h])
        · have := e6'.lt; omega
    replace e6' := e6'.ext hT7 n6
    replace hS := hS.own hT7 (fun c hc => by
      rcases List.mem_cons.1 hc with rfl | h
      · exact .inr hb3w
      · exact .inr (hB.row.ob_le c h).1)
    clear hB n6 hob hT7
    have hB := hB'
    have n6 := n6'
    clear hB' n6'
    refine WL_nil ?_
    refine WQ_then ?_
    refine WC_cut (σ := Value) (fun q => [(3, .pointer (some ⟨b3, 0, none⟩)), (4, .func (.func 29) #[] #[.pointer (some ⟨b3, 0, none⟩)]), (6, .pointer (some ⟨b6, 0, none⟩)), (8, lv), (9, .int .i64 (rs.map RuleM.rul).length), (10, .int .i64 i)])
      (fun q w' => Bd w' b3 w.heap.size q (l0 ++ headS dateS r ++ lineS [111, 110] (r.on) ++ ifS dateS r.cond) ∧ Blk w' b6 38 (rlC r.rul ki kd) ∧ b6 ∉ b3 :: ob q ∧ Stp [] w w') ?_ ?_
    · by_cases hit : isTrue r.cond
      · have hifs : ifS dateS r.cond = [] := by unfold ifS; rw [if_pos hit]
        rw [hifs, List.append_nil]
        have hk : r.rul.cnd.kind = 2 := hit.1
        have hn : r.rul.cnd.num = 1 := hit.2
        repeat' (first | refine W1 ?_ | (exfalso; omega) | refine WL_split rfl rfl (fun hg => ?_) (fun hg => ?_) | refine WL_splitB rfl rfl (fun hg => ?_) (fun hg => ?_) | refine WC_cond rfl (fun hc => ?_) (fun hc => ?_) | refine WC_condB rfl (fun hc => ?_) (fun hc => ?_))
        exact WQ_cut u8 ⟨rfl, rfl, rfl, rfl, rfl, rfl, trivial⟩ ⟨hB, e6', n6, hS⟩
      · have hifs := ifS_len dateS r.cond hit
        have hiln := lineS_len [105, 102] (showN dateS r.cond)
        rw [hifs] at hsr ⊢
        have hni : ¬ (r.rul.cnd.kind = 2 ∧ r.rul.cnd.num = 1) := hit
        repeat' (first | refine W1 ?_ | (exfalso; omega) | refine WL_split rfl rfl (fun hg => ?_) (fun hg => ?_) | refine WL_splitB rfl rfl (fun hg => ?_) (fun hg => ?_) | refine WC_cond rfl (fun hc => ?_) (fun hc => ?_) | refine WC_condB rfl (fun hc => ?_) (fun hc => ?_))
        all_goals
          refine WL_pure (PR_loadN_blk (us := ndC r.cond ki) rfl rfl e6' rfl rfl) rfl ?_
          refine WL_eff (OE_call rfl (evs1 rfl) (show_any r.cond hri'.cond X _ _ ⟨ki, rfl, hki.up hS⟩ (hT.up hS) (by omega))) rfl ?_
          rintro _ w20 ⟨rfl, hT20⟩
          replace hB := hB.up hT20
          replace e6' := e6'.up hT20
          replace hS := hS.trans hT20
          clear hT20
          refine WL_eff (OE_callC rfl (evs2 rfl rfl) rfl (line_any b3 w.heap.size u8 (l0 ++ headS dateS r ++ lineS [111, 110] (r.on)) [105, 102] (showN dateS r.cond) _ hB (by simp; omega))) rfl ?_
          rintro _ w9 ⟨u9, hB', hT7, hob⟩
          have n6' : b6 ∉ b3 :: ob u9 := fun hc => by
            rcases List.mem_cons.1 hc with h | h
            · exact n6 (by simp [h])
            · rcases hob b6 h with h | h
              · exact n6 (by simp [h])
              · have := e6'.lt; omega
          replace e6' := e6'.ext hT7 n6
          replace hS := hS.own hT7 (fun c hc => by
            rcases List.mem_cons.1 hc with rfl | h
            · exact .inr hb3w
            · exact .inr (hB.row.ob_le c h).1)
          clear hB n6 hob hT7
          have hB := hB'
          have n6 := n6'
          clear hB' n6'
          refine W ?_
          exact WQ_cut u9 ⟨rfl, rfl, rfl, rfl, rfl, rfl, trivial⟩ ⟨hB, e6', n6, hS⟩
    · rintro q w20 ⟨hB, e6', n6, hS⟩
      repeat' (first | refine W1 ?_ | (exfalso; omega) | refine WL_split rfl rfl (fun hg => ?_) (fun hg => ?_) | refine WL_splitB rfl rfl (fun hg => ?_) (fun hg => ?_) | refine WC_cond rfl (fun hc => ?_) (fun hc => ?_) | refine WC_condB rfl (fun hc => ?_) (fun hc => ?_))
      refine WL_pure (PR_loadN_blk (us := ndC r.due kd) rfl rfl e6' rfl rfl) rfl ?_
      refine WL_eff (OE_call rfl (evs1 rfl) (show_any r.due hri'.due X _ _ ⟨kd, rfl, hkd.up hS⟩ (hT.up hS) (by omega))) rfl ?_
      rintro _ w21 ⟨rfl, hT20⟩
      replace hB := hB.up hT20
      replace e6' := e6'.up hT20
      replace hS := hS.trans hT20
      clear hT20
      refine WL_eff (OE_callC rfl (evs2 rfl rfl) rfl (line_any b3 w.heap.size q (l0 ++ headS dateS r ++ lineS [111, 110] (r.on) ++ ifS dateS r.cond) [100, 117, 101] (showN dateS r.due) _ hB (by simp; omega))) rfl ?_
      rintro _ w10 ⟨u10, hB', hT7, hob⟩
      have n6' : b6 ∉ b3 :: ob u10 := fun hc => by
        rcases List.mem_cons.1 hc with h | h
        · exact n6 (by simp [h])
        · rcases hob b6 h with h | h
          · exact n6 (by simp [h])
          · have := e6'.lt; omega
      replace e6' := e6'.ext hT7 n6
      replace hS := hS.own hT7 (fun c hc => by
        rcases List.mem_cons.1 hc with rfl | h
        · exact .inr hb3w
        · exact .inr (hB.row.ob_le c h).1)
      clear hB n6 hob hT7
      have hB := hB'
      have n6 := n6'
      clear hB' n6'
      refine W ?_
      refine WL_eff (OE_callC rfl (evs2 rfl rfl) rfl (line_any b3 w.heap.size u10 (l0 ++ headS dateS r ++ lineS [111, 110] (r.on) ++ ifS dateS r.cond ++ lineS [100, 117, 101] (showN dateS r.due)) [117, 110, 108, 101, 115, 115] (r.unl) _ hB (by simp; omega))) rfl ?_
      rintro _ w11 ⟨u11, hB', hT7, hob⟩
      have n6' : b6 ∉ b3 :: ob u11 := fun hc => by
        rcases List.mem_cons.1 hc with h | h
        · exact n6 (by simp [h])
        · rcases hob b6 h with h | h
          · exact n6 (by simp [h])
          · have := e6'.lt; omega
      replace e6' := e6'.ext hT7 n6
      replace hS := hS.own hT7 (fun c hc => by
        rcases List.mem_cons.1 hc with rfl | h
        · exact .inr hb3w
        · exact .inr (hB.row.ob_le c h).1)
      clear hB n6 hob hT7
      have hB := hB'
      have n6 := n6'
      clear hB' n6'
      refine W ?_
      refine WL_eff (OE_callC rfl (evs2 rfl rfl) rfl (line_any b3 w.heap.size u11 (l0 ++ headS dateS r ++ lineS [111, 110] (r.on) ++ ifS dateS r.cond ++ lineS [100, 117, 101] (showN dateS r.due) ++ lineS [117, 110, 108, 101, 115, 115] (r.unl)) [101, 108, 115, 101] (r.els) _ hB (by simp; omega))) rfl ?_
      rintro _ w12 ⟨u12, hB', hT7, hob⟩
      have n6' : b6 ∉ b3 :: ob u12 := fun hc => by
        rcases List.mem_cons.1 hc with h | h
        · exact n6 (by simp [h])
        · rcases hob b6 h with h | h
          · exact n6 (by simp [h])
          · have := e6'.lt; omega
      replace e6' := e6'.ext hT7 n6
      replace hS := hS.own hT7 (fun c hc => by
        rcases List.mem_cons.1 hc with rfl | h
        · exact .inr hb3w
        · exact .inr (hB.row.ob_le c h).1)
      clear hB n6 hob hT7
      have hB := hB'
      have n6 := n6'
      clear hB' n6'
      refine W ?_
      refine WL_eff (OE_call rfl (evs2 rfl rfl) (Write_any b3 w.heap.size u12 (l0 ++ headS dateS r ++ lineS [111, 110] (r.on) ++ ifS dateS r.cond ++ lineS [100, 117, 101] (showN dateS r.due) ++ lineS [117, 110, 108, 101, 115, 115] (r.unl) ++ lineS [101, 108, 115, 101] (r.els)) [125, 10] _ hB (by simp; omega))) rfl ?_
      rintro _ w30 ⟨v30, hB', hT7, hob⟩
      have n6' : b6 ∉ b3 :: ob v30 := fun hc => by
        rcases List.mem_cons.1 hc with h | h
        · exact n6 (by simp [h])
        · rcases hob b6 h with h | h
          · exact n6 (by simp [h])
          · have := e6'.lt; omega
      replace e6' := e6'.ext hT7 n6
      replace hS := hS.own hT7 (fun c hc => by
        rcases List.mem_cons.1 hc with rfl | h
        · exact .inr hb3w
        · exact .inr (hB.row.ob_le c h).1)
      clear hB n6 hob hT7
      have hB := hB'
      have n6 := n6'
      clear hB' n6'
      refine W ?_
      refine WQ_loop (i + 1, v30) ⟨rfl, rfl, rfl, rfl, rfl, trivial⟩ ⟨hlt, ?_, hS⟩ (by dsimp only; omega)
      dsimp only
      rw [htk]
      unfold showRule
      simpa [List.append_assoc] using hB
  · have hke : i = rs.length := by omega
    subst hke
    rw [List.take_length] at hB
    repeat' (first | refine W1 ?_ | (exfalso; omega) | refine WL_split rfl rfl (fun hg => ?_) (fun hg => ?_) | refine WL_splitB rfl rfl (fun hg => ?_) (fun hg => ?_) | refine WC_cond rfl (fun hc => ?_) (fun hc => ?_) | refine WC_condB rfl (fun hc => ?_) (fun hc => ?_))
    refine WL_eff (OE_call rfl (evs1 rfl) (String_any b3 w.heap.size v _ _ hB hS.size)) rfl ?_
    rintro _ w2 ⟨rfl, hBl⟩
    refine W ?_
    first | refine WQ_ret1 rfl rfl ?_ | refine WQ_ret2 rfl rfl rfl ?_ | refine WQ_ret3 rfl rfl rfl rfl ?_ | refine WQ_ret0 rfl ?_ | refine WQ_end0 rfl ?_
    refine .mk ⟨rfl, ?_⟩
    have := hS.below
    exact Stp.of_below (this.trans hBl)
end Go.Proofs.YtgpibcgebpgmiaaGreatDoor


/-
The parser whole: Parse.
-/
namespace Go.Proofs.YtgpibcgebpgmiaaGreatDoor
open Go Go.Eng Go.RowKit Go.Proofs
set_option linter.unusedVariables false
/-- what Parse gives -/
def PsV (X : List Nat) (w' : World) (r : Value) : Ps → Prop
  | .err a c => r = .tuple #[.slice none 0 0, .int .i64 a, .int .i64 c]
  | .ok rs => ∃ rv, r = .tuple #[rv, .int .i64 0, .int .i64 0] ∧ SlV X w' rv (rs.map RuleM.rul)
theorem stp_same {w w' : World} {b T : Nat} {cs : List Value} (hS : Stp [b] w w') (h : Blk w b T cs) (h' : Blk w' b T cs) : Stp [] w w' :=
  ⟨hS.os, hS.tape, hS.output, hS.size, fun k hk _ => by
    by_cases hb : k = b
    · subst hb
      rw [h, h']
    · exact hS.block k hk (by simpa using hb)⟩
theorem buildPz (p : Option Addr) (l c : Nat) (w : World) : (Instr.build 64 #[(0, .slice p l c)]).run Tryz.prog w = .ok (.agg #[.slice p l c, .int .i64 0, .int .i64 0]) w := by kernel_rfl
set_option maxHeartbeats 2000000 in
theorem parse_any (X : List Nat) (s : Str) (er : Value) (m : Int) (w : World) (hX : ∀ c ∈ X, c < w.heap.size) (hLG : LenG w) (hm : w.cell? ⟨1, 0, none⟩ = some (.int .i64 m)) (hv4 : w.cell? ⟨4, 0, none⟩ = some er) (hev : er = .nilIface ∨ ∃ te pe, er = .iface te pe) (hl : s.length ≤ 1000000) :
    Calls Tryz.prog 24 #[str s, .func (.func 25) #[] #[]] w (Ret fun r w' => PsV X w' r (parseM s) ∧ Stp [] w w') := by
  have h1w : 1 < w.heap.size := by have := block_lt_of_cell hm; simpa using this
  refine calls_of_WCD2 (n := 43) Tryz.func24 rfl rfl rfl ?_
  refine W ?_
  refine WL_eff OE_alloc rfl ?_
  rintro _ w1 ⟨b4, rfl, hb4, e4, hS⟩
  refine W ?_
  refine WL_eff OE_alloc rfl ?_
  rintro _ w2 ⟨b5, rfl, hb5, e5, hT⟩
  have n45 : b4 ≠ b5 := by have := e4.lt; omega
  have g5 : w.heap.size ≤ b5 := Nat.le_trans hS.size hb5
  replace e4 := e4.up hT
  replace hS := hS.trans hT
  refine W ?_
  refine WL_eff OE_alloc rfl ?_
  rintro _ w3 ⟨b6, rfl, hb6, e6, hT⟩
  have n46 : b4 ≠ b6 := by have := e4.lt; omega
  have n56 : b5 ≠ b6 := by have := e5.lt; omega
  have g6 : w.heap.size ≤ b6 := Nat.le_trans hS.size hb6
  replace e4 := e4.up hT; replace e5 := e5.up hT
  replace hS := hS.trans hT
  refine W ?_
  refine WL_eff OE_alloc rfl ?_
  rintro _ w4 ⟨b7, rfl, hb7, e7, hT⟩
  have n74 : b7 ≠ b4 := by have := e4.lt; omega
  have n75 : b7 ≠ b5 := by have := e5.lt; omega
  have n76 : b7 ≠ b6 := by have := e6.lt; omega
  replace e4 := e4.up hT; replace e5 := e5.up hT; replace e6 := e6.up hT
  replace hS := hS.trans hT
  clear hT
  have g4 : w.heap.size ≤ b4 := hb4
  have hlt4 : ∀ c ∈ [b4, b5, b6, b7], c < w4.heap.size := fun c hc => by
    simp only [List.mem_cons, List.not_mem_nil, or_false] at hc
    rcases hc with rfl | rfl | rfl | rfl
    · exact e4.lt
    · exact e5.lt
    · exact e6.lt
    · exact e7.lt
  refine W ?_
  refine WL_eff (OE_call rfl (evs1 rfl) (Tokens_any s er _ (hLG.up hS) (hS.cell (by simp) hv4) hev hl)) rfl ?_
  rintro r w5 ⟨hr, hT⟩
  replace e4 := e4.up hT; replace e5 := e5.up hT; replace e6 := e6.up hT; replace e7 := e7.up hT
  have hSo := hS
  replace hS := hS.trans hT
  clear hT
  have own3 : ∀ {S : List Nat}, (∀ c ∈ S, c = b4 ∨ c = b5 ∨ c = b6) → ∀ c ∈ S, c ∈ ([] : List Nat) ∨ w.heap.size ≤ c := fun h c hc => by
    rcases h c hc with rfl | rfl | rfl
    · exact .inr g4
    · exact .inr g5
    · exact .inr g6
  cases hK : tokensM s with
  | err a c =>
    rw [hK] at hr
    have hr' : r = .tuple #[.slice none 0 0, .int .i64 a, .int .i64 c] := hr
    subst hr'
    have hc0 := tokensM_err hK
    refine W ?_
    refine WL_eff0 (OE_storeA (us := [.int .i64 a]) rfl rfl rfl rfl (by simp; rfl) e5 rfl) ?_
    rintro _ w6 ⟨hT, e5'⟩
    replace e4 := e4.ext hT (by simpa using n45)
    replace e6 := e6.ext hT (by simpa using n56.symm)
    replace e7 := e7.ext hT (by simpa using n75)
    replace hS := hS.own hT (own3 (by simp))
    refine W ?_
    refine WL_eff0 (OE_storeA (us := [.int .i64 c]) rfl rfl rfl rfl (by simp; rfl) e6 rfl) ?_
    rintro _ w7 ⟨hT2, e6'⟩
    replace e4 := e4.ext hT2 (by simpa using n46)
    replace e5' := e5'.ext hT2 (by simpa using n56)
    replace e7 := e7.ext hT2 (by simpa using n76)
    replace hS := hS.own hT2 (own3 (by simp))
    clear hT hT2 e5 e6
    repeat' (first | refine W1 ?_ | (exfalso; omega) | refine WL_split rfl rfl (fun hg => ?_) (fun hg => ?_) | refine WL_splitB rfl rfl (fun hg => ?_) (fun hg => ?_) | refine WC_cond rfl (fun hc => ?_) (fun hc => ?_) | refine WC_condB rfl (fun hc => ?_) (fun hc => ?_))
    refine WC_drawn 6 ([b4]) [] [(0, 1), (1, 1), (2, 1), (3, 2), (4, 2), (5, 2)] rfl mixed (by kernel_rfl) (by kernel_rfl) (by kernel_rfl) (fun w8 hS1 => ?_)
    replace e7 := e7.up hS1; replace e4 := e4.up hS1; replace e5' := e5'.up hS1; replace e6' := e6'.up hS1
    replace hS := hS.trans hS1
    clear hS1
    refine WR_load_blk rfl trivial rfl rfl e7 (by simpa using n74) rfl rfl ?_
    refine WR_load_blk rfl trivial rfl rfl e5' (by simpa using n45.symm) rfl rfl ?_
    refine WR_load_blk rfl trivial rfl rfl e6' (by simpa using n46.symm) rfl rfl ?_
    refine WD_eff0 rfl trivial (OE_storeA (us := [.slice none 0 0]) rfl rfl rfl rfl (by simp; rfl) e4 rfl) (fun _ _ h => h.1) ?_
    rintro _ w9 ⟨hT, e4'⟩
    replace e5' := e5'.ext hT (by simpa using n45.symm)
    replace e6' := e6'.ext hT (by simpa using n46.symm)
    replace hS := hS.own hT (own3 (by simp))
    clear hT e4 e7
    refine WD_eff0 (G := fun _ w' => Stp [] w9 w') rfl trivial ((OE_storeA (us := [.int .i64 a]) rfl rfl rfl rfl (by simp; rfl) e5' rfl).mono (fun _ _ h => stp_same h.1 e5' h.2)) (fun _ _ h => h.mono (by simp)) ?_
    intro _ w10 hT
    replace e4' := e4'.up hT; replace e5' := e5'.up hT; replace e6' := e6'.up hT
    replace hS := hS.trans hT
    clear hT
    refine WD_eff0 (G := fun _ w' => Stp [] w10 w') rfl trivial ((OE_storeA (us := [.int .i64 c]) rfl rfl rfl rfl (by simp; rfl) e6' rfl).mono (fun _ _ h => stp_same h.1 e6' h.2)) (fun _ _ h => h.mono (by simp)) ?_
    intro _ w11 hT
    replace e4' := e4'.up hT; replace e5' := e5'.up hT; replace e6' := e6'.up hT
    replace hS := hS.trans hT
    clear hT
    refine WD_nil ?_
    refine W ?_
    refine ⟨fun act ha => ?_⟩
    show Leaves _ _ act.tmps _ act.defers .returning _
    rw [ha.defers]
    refine ⟨_, results3c rfl rfl rfl rfl (ha.vals 4 _ rfl) (ha.vals 5 _ rfl) (ha.vals 6 _ rfl) e4' e5' e6', ?_⟩
    refine .mk ⟨?_, hS⟩
    unfold parseM
    rw [hK]
    rfl
  | ok l =>
    rw [hK] at hr
    obtain ⟨tv, rfl, hrow⟩ : ∃ tv, r = .tuple #[tv, .int .i64 0, .int .i64 0] ∧ RowF 61 w4 w5 tv l := hr
    obtain ⟨hL, -⟩ := tokensM_toks hK
    have hts : SlV (α := Tkn) [b4, b5, b6, b7] w5 tv l := hrow.slv hlt4
    have hlp := hL.pos
    have hll : l.length ≤ 1000000 := by have := hL.len; omega
    refine W ?_
    refine WL_eff0 (OE_storeA (us := [.int .i64 0]) rfl rfl rfl rfl (by simp; rfl) e5 rfl) ?_
    rintro _ w6 ⟨hT, e5'⟩
    replace e4 := e4.ext hT (by simpa using n45)
    replace e6 := e6.ext hT (by simpa using n56.symm)
    replace e7 := e7.ext hT (by simpa using n75)
    replace hts := hts.ext (X' := [b4, b5, b6, b7]) hT (by simp) (fun _ h => .inl h)
    replace hS := hS.own hT (own3 (by simp))
    refine W ?_
    refine WL_eff0 (OE_storeA (us := [.int .i64 0]) rfl rfl rfl rfl (by simp; rfl) e6 rfl) ?_
    rintro _ w7 ⟨hT2, e6'⟩
    replace e4 := e4.ext hT2 (by simpa using n46)
    replace e5' := e5'.ext hT2 (by simpa using n56)
    replace e7 := e7.ext hT2 (by simpa using n76)
    replace hts := hts.ext (X' := [b4, b5, b6, b7]) hT2 (by simp) (fun _ h => .inl h)
    replace hS := hS.own hT2 (own3 (by simp))
    clear hT hT2 e5 e6
    repeat' (first | refine W1 ?_ | (exfalso; omega) | refine WL_split rfl rfl (fun hg => ?_) (fun hg => ?_) | refine WL_splitB rfl rfl (fun hg => ?_) (fun hg => ?_) | refine WC_cond rfl (fun hc => ?_) (fun hc => ?_) | refine WC_condB rfl (fun hc => ?_) (fun hc => ?_))
    refine WL_pure (PR_makeFunc4 rfl rfl rfl rfl) rfl ?_
    refine WL_defer rfl ?_
    refine WCD_seq (WCD_region ?_)
    refine W ?_
    obtain ⟨tp, tc, htv⟩ := hts.len
    refine WL_pure (PR_build (vs := [(0, tv)]) rfl (by rw [htv]; exact fun w => buildPz _ _ _ w)) rfl ?_
    refine WL_eff (OE_box rfl) rfl ?_
    rintro _ w8 ⟨bp, rfl, hbp, ep, hT⟩
    have l4 := e4.lt
    have l5 := e5'.lt
    have l6 := e6'.lt
    have l7 := e7.lt
    have hXp : ∀ c ∈ bp :: b4 :: b5 :: b6 :: b7 :: X, c < w8.heap.size := fun c hc => by
      have h8 := hT.size
      have hp := ep.lt
      have h0 := hS.size
      simp only [List.mem_cons] at hc
      rcases hc with rfl | rfl | rfl | rfl | rfl | hc
      · exact hp
      · omega
      · omega
      · omega
      · omega
      · have := hX c hc; omega
    have hpd : Pd w8 bp tv l 0 0 := ⟨by rw [htv]; exact ep, hts.ext hT (by simp) (fun c hc => by simp at hc; subst hc; exact .inr hbp), hlp, hll, by omega⟩
    replace hts := hts.ext (X' := [bp, b4, b5, b6, b7]) hT (by simp) (fun c hc => by
      rcases List.mem_cons.1 hc with rfl | hc
      · exact .inr hbp
      · exact .inl hc)
    replace e4 := e4.up hT; replace e5' := e5'.up hT; replace e6' := e6'.up hT; replace e7 := e7.up hT
    replace hS := hS.trans hT
    have gp : w.heap.size ≤ bp := by have := hS.size; omega
    have np4 : b4 ≠ bp := by omega
    have np5 : b5 ≠ bp := by omega
    have np6 : b6 ≠ bp := by omega
    have np7 : b7 ≠ bp := by omega
    clear hT
    refine WL_pure (PR_assign rfl) rfl ?_
    refine WL_nil ?_
    refine WQ_lft (WQD_then ?_)
    refine WCD_seq (WCD_region ?_)
    refine WL_pure (PR_move rfl) rfl ?_
    refine WL_pure (PR_move rfl) rfl ?_
    have hP := Parse1_any (bp :: b4 :: b5 :: b6 :: b7 :: X) bp tv l hL m 0 0 (l.length + 1) w8 (by omega) (by simp) hXp (hS.cell (by simp) hm) hpd (by omega)
    cases hR : rulesO l (l.length + 1) [] 0 0 with
    | err a c =>
      rw [hR] at hP
      refine WL_pcallE rfl (evs1 rfl) hP rfl ?_
      intro w9 hT
      replace e4 := e4.ext hT (by simpa using np4)
      replace e5' := e5'.ext hT (by simpa using np5)
      replace e6' := e6'.ext hT (by simpa using np6)
      replace e7 := e7.ext hT (by simpa using np7)
      replace hS := hS.own hT (fun c hc => .inr (by simp at hc; omega))
      refine WQ_lft (WQD_then_panic ?_)
      refine ⟨fun act ha => ?_⟩
      show Leaves _ _ act.tmps _ (act.defers ++ _) (.panicking _) _
      rw [ha.defers]
      refine leaves_one (f := 66) (by simp) (catch_fail a c b7 b4 b5 b6 _ _ _ _ w9 e7 e4 e5' e6' rfl rfl n74 n75 n76 n45 n46 n56) ?_
      rintro v u' w10 ⟨rfl, e4', e5'', e6'', hT⟩
      refine ⟨rfl, _, results3c rfl rfl rfl rfl (ha.vals 4 _ rfl) (ha.vals 5 _ rfl) (ha.vals 6 _ rfl) e4' e5'' e6'', ?_⟩
      refine .mk ⟨?_, hS.own hT (own3 (by simp))⟩
      unfold parseM
      rw [hK]
      simp only [hR]
      rfl
    | ok rs i' o' =>
      rw [hR] at hP
      refine WL_eff (OE_call rfl (evs1 rfl) hP) rfl ?_
      rintro rv w9 ⟨hrv, hpd', hT⟩
      replace e4 := e4.ext hT (by simpa using np4)
      replace e5' := e5'.ext hT (by simpa using np5)
      replace e6' := e6'.ext hT (by simpa using np6)
      replace e7 := e7.ext hT (by simpa using np7)
      replace hts := hts.ext (X' := [bp, b4, b5, b6, b7]) hT (by simp) (fun _ h => .inl h)
      replace hS := hS.own hT (fun c hc => .inr (by simp at hc; omega))
      obtain ⟨ep', -, hil, -, -⟩ := hpd'
      have hk0 := rulesO_end _ _ _ _ _ _ _ hR (by omega) hil
      refine WL_eff0 (OE_storeA (us := [rv]) rfl rfl hrv.cells rfl (by simpa using hrv.one) e4 rfl) ?_
      rintro _ w10 ⟨hT, e4'⟩
      replace ep' := ep'.ext hT (by simpa using np4.symm)
      replace e5' := e5'.ext hT (by simpa using n45.symm)
      replace e6' := e6'.ext hT (by simpa using n46.symm)
      replace hts := hts.ext (X' := [bp, b4, b5, b6, b7]) hT (by simp) (fun _ h => .inl h)
      replace hrv := hrv.ext (X' := bp :: b4 :: b5 :: b6 :: b7 :: X) hT (by simp) (fun _ h => .inl h)
      replace hS := hS.own hT (own3 (by simp))
      clear hT
      refine WL_nil ?_
      refine WQ_lft (WQD_then ?_)
      refine WCD_seq (WCD_seq ?_)
      refine WCD_drawn 12 [] [] [(0, 0), (1, 0), (2, 0), (3, 1), (4, 0), (5, 0), (6, 0), (7, 1), (8, 0), (9, 0), (10, 1), (11, 0)] rfl mixed (by kernel_rfl) (by kernel_rfl) (by kernel_rfl) (fun w1 hS1 => ?_)
      replace e4' := e4'.up hS1; replace e5' := e5'.up hS1; replace e6' := e6'.up hS1; replace ep' := ep'.up hS1
      replace hts := hts.up hS1
      replace hrv := hrv.up hS1
      replace hS := hS.trans hS1
      clear hS1
      refine D ?_
      refine W ?_
      refine WQ_lft (WQD_then ?_)
      rw [cur_of hil] at hk0
      refine WCD_cond_false (by simp [ev, hk0]; rfl) (WCD_skip (WQD_then (WCD_seq ?_)))
      refine WCD_region ?_
      refine WL_pure (PR_load_blk rfl rfl e4' rfl) rfl ?_
      refine WL_eff0 (G := fun _ w' => Stp [] w1 w') ((OE_storeA (us := [rv]) rfl rfl hrv.cells rfl (by simpa using hrv.one) e4' rfl).mono (fun _ _ h => stp_same h.1 e4' h.2)) ?_
      intro _ w12 hT
      replace e4' := e4'.up hT; replace e5' := e5'.up hT; replace e6' := e6'.up hT; replace hrv := hrv.up hT
      replace hS := hS.trans hT
      clear hT
      refine WL_eff0 (G := fun _ w' => Stp [] w12 w') ((OE_storeA (us := [.int .i64 0]) rfl rfl rfl rfl (by simp; rfl) e5' rfl).mono (fun _ _ h => stp_same h.1 e5' h.2)) ?_
      intro _ w13 hT
      replace e4' := e4'.up hT; replace e5' := e5'.up hT; replace e6' := e6'.up hT; replace hrv := hrv.up hT
      replace hS := hS.trans hT
      clear hT
      refine WL_eff0 (G := fun _ w' => Stp [] w13 w') ((OE_storeA (us := [.int .i64 0]) rfl rfl rfl rfl (by simp; rfl) e6' rfl).mono (fun _ _ h => stp_same h.1 e6' h.2)) ?_
      intro _ w14 hT
      replace e4' := e4'.up hT; replace e5' := e5'.up hT; replace e6' := e6'.up hT; replace hrv := hrv.up hT
      replace hS := hS.trans hT
      clear hT
      refine WL_nil ?_
      refine WQ_lft (WQD_then (WCD_ret ?_))
      refine ⟨fun act ha => ?_⟩
      show Leaves _ _ act.tmps _ (act.defers ++ _) .returning _
      rw [ha.defers]
      refine leaves_one (f := 66) (by simp) (catch_none b7 b4 b5 b6 w14) ?_
      rintro v u' w15 ⟨rfl, hT⟩
      refine ⟨rfl, _, results3c rfl rfl rfl rfl (ha.vals 4 _ rfl) (ha.vals 5 _ rfl) (ha.vals 6 _ rfl) (e4'.up hT) (e5'.up hT) (e6'.up hT), ?_⟩
      have hM : parseM s = .ok rs := by
        unfold parseM
        rw [hK]
        simp only [hR]
      rw [hM]
      exact .mk ⟨⟨rv, rfl, (hrv.up hT).ext (Stp.refl [] _) (by simp) (fun c hc => .inl (by simp [hc]))⟩, hS.trans hT⟩
/-- the whole -/
theorem Parse_any (X : List Nat) (s : Str) (er : Value) (m : Int) (w : World) (hX : ∀ c ∈ X, c < w.heap.size) (hLG : LenG w) (hm : w.cell? ⟨1, 0, none⟩ = some (.int .i64 m)) (hv4 : w.cell? ⟨4, 0, none⟩ = some er) (hev : er = .nilIface ∨ ∃ te pe, er = .iface te pe) (hl : s.length ≤ 1000000) :
    Calls Tryz.prog 6 #[str s] w (Ret fun r w' => PsV X w' r (parseM s) ∧ Stp [] w w') := by
  refine calls_of_WC1 (n := 10) Tryz.func6 rfl rfl rfl ?_
  refine W ?_
  refine WL_eff (OE_call rfl (evs2 rfl rfl) (parse_any X s er m w hX hLG hm hv4 hev hl)) rfl ?_
  rintro r w1 ⟨hr, hS⟩
  cases hK : parseM s with
  | err a c =>
    rw [hK] at hr
    have hr' : r = .tuple #[.slice none 0 0, .int .i64 a, .int .i64 c] := hr
    subst hr'
    refine W ?_
    first | refine WQ_ret1 rfl rfl ?_ | refine WQ_ret2 rfl rfl rfl ?_ | refine WQ_ret3 rfl rfl rfl rfl ?_ | refine WQ_ret0 rfl ?_ | refine WQ_end0 rfl ?_
    exact .mk ⟨rfl, hS⟩
  | ok rs =>
    rw [hK] at hr
    obtain ⟨rv, rfl, hrv⟩ := hr
    refine W ?_
    first | refine WQ_ret1 rfl rfl ?_ | refine WQ_ret2 rfl rfl rfl ?_ | refine WQ_ret3 rfl rfl rfl rfl ?_ | refine WQ_ret0 rfl ?_ | refine WQ_end0 rfl ?_
    exact .mk ⟨⟨rv, rfl, hrv⟩, hS⟩
end Go.Proofs.YtgpibcgebpgmiaaGreatDoor


namespace Go.Proofs.YtgpibcgebpgmiaaGreatDoor
open Go Go.Eng Go.RowKit Go.Proofs Go.ChangeShapes Go.WideShapes Go.Deep
set_option linter.unusedVariables false

theorem law_own : ownKnob Tryz.prog.godebug = none := by kernel_rfl
theorem law_laid : laidOutB Tryz.prog = true := by kernel_rfl
section
variable {H : Type} {enc : TypeId × Value → H} {w : World} {base : Nat} {spare : Nat → Bool} {held : Bool}
set_option maxRecDepth 100000 in
theorem ints_read {r : Reach} {b0 : Nat} {v : Value} {d : DataW H} {p : List MemPlace} (hv : Value.okWide Tryz.prog w r b0 22 v) (h : DataW.Trod enc Tryz.prog w base spare held 22 v d p) :
    ∃ l : List Int, SlV [] w v l ∧ (∀ x ∈ l, I64 x) ∧ dlen d = l.length := by
  obtain ⟨fuel, h⟩ := h
  obtain ⟨u, l, hu, hs, hok, hln⟩ := slv_ints Tryz.underlying22 (by kernel_rfl) Tryz.underlying3 h
  obtain ⟨a, m, c, rfl⟩ := okWide_slice Tryz.underlying22 hv
  have hu' : Value.slice a m c = u := by simpa [Value.cells] using hu
  subst hu'
  exact ⟨l, hs, hok, hln⟩
end
end Go.Proofs.YtgpibcgebpgmiaaGreatDoor


namespace Go.Eng
open Go Go.RowKit Go.Proofs Go.ChangeShapes Go.WideShapes Go.Deep
set_option linter.unusedVariables false
section
variable {H : Type} {enc : TypeId × Value → H} {P : Program} {w : World} {base : Nat} {spare : Nat → Bool} {held : Bool}
end
end Go.Eng
namespace Go.Proofs.YtgpibcgebpgmiaaGreatDoor
open Go Go.Eng Go.RowKit Go.Proofs Go.ChangeShapes Go.WideShapes Go.Deep
set_option linter.unusedVariables false
section
variable {H : Type} {enc : TypeId × Value → H} {w : World} {base : Nat} {spare : Nat → Bool} {held : Bool}
theorem k3 : Tryz.prog.cellsOf 3 = 1 := by kernel_rfl
end
end Go.Proofs.YtgpibcgebpgmiaaGreatDoor


namespace Go.Eng
open Go Go.RowKit
set_option linter.unusedVariables false
variable {X : List Nat} {w w' : World} {base T : Nat} {v : Value} {zs ys : List Int}
/-- an own row of numbers, in the heap's words -/
def RowI (w : World) (base T : Nat) (v : Value) (zs : List Int) : Prop := (v = .slice none 0 0 ∧ zs = []) ∨ ∃ g cap cur, v = .slice (some ⟨g, 0, none⟩) zs.length cap ∧ base ≤ g ∧ w.heap[g]? = some (.cells cur T (0, 0)) ∧ zs.length ≤ cap ∧ cap ≤ maxLen ∧ cur.size = cap ∧ cur.toList.take zs.length = zs.map (Value.int .i64)
theorem Row.toI (h : Row X w base T v zs) : RowI w base T v zs := by
  obtain ⟨css, hl, hr, hx, ho⟩ := h
  have hc : css = zs.map (fun x => [Value.int .i64 x]) := by
    apply List.ext_getElem (by simpa using hl)
    intro i h1 h2
    have : css[i] = [Value.int .i64 zs[i]] := hr i (by omega) h1
    simp [this]
  rcases ho with ⟨rfl, hn⟩ | ⟨g, cap, cur, rfl, hb, hg, hnc, hcm, hcs, ht⟩
  · exact .inl ⟨rfl, List.length_eq_zero_iff.1 hn⟩
  · refine .inr ⟨g, cap, cur, rfl, hb, hg, hnc, hcm, by simpa [GoRep.k, Flat.k] using hcs, ?_⟩
    have h2 : cur.toList.take (zs.length * 1) = css.flatten := ht
    rw [Nat.mul_one] at h2
    rw [h2, hc]
    clear h2 ht hx hr hl hc hnc hg hcs
    induction zs with
    | nil => rfl
    | cons a l ih => simp at ih ⊢; exact ih
theorem RowI.toRow (h : RowI w base T v zs) : Row X w base T v zs := by
  rcases h with ⟨rfl, rfl⟩ | ⟨g, cap, cur, rfl, hb, hg, hnc, hcm, hcs, ht⟩
  · exact Row.nil
  · refine ⟨zs.map (fun x => [Value.int .i64 x]), by simp, fun i h1 h2 => by simp; rfl, ?_⟩
    have hf : (zs.map (fun x => [Value.int .i64 x])).flatten = zs.map (Value.int .i64) := by
      clear ht hnc
      induction zs with
      | nil => rfl
      | cons a l ih => simp at ih ⊢; exact ih
    rw [hf]
    refine ⟨by simp [GoRep.k, Flat.k], .inr ⟨g, cap, cur, rfl, hb, hg, hnc, hcm, by simpa [GoRep.k, Flat.k] using hcs, by simpa [GoRep.k, Flat.k] using ht⟩⟩
theorem compact_spec {zs : List Int} (hs : zs.Pairwise (· ≤ ·)) : (Lib.compact zs).Pairwise (· < ·) ∧ ∀ y, y ∈ Lib.compact zs ↔ y ∈ zs := by
  have hd : ∀ i j, i ≤ j → j < zs.length → zs.toArray[i]! ≤ zs.toArray[j]! := by
    intro i j hij hj
    rcases Nat.lt_or_eq_of_le hij with h | rfl
    · have := List.pairwise_iff_getElem.1 hs i j (by omega) hj h
      simpa [getElem!_pos, hj, show i < zs.length by omega] using this
    · exact Int.le_refl _
  have key : ∀ m, m ≤ zs.length → (Lib.compactUpTo zs.toArray m).Pairwise (· < ·) ∧ ∀ y, y ∈ Lib.compactUpTo zs.toArray m ↔ ∃ i, i < m ∧ y = zs.toArray[i]! := by
    intro m
    induction m with
    | zero => intro _; refine ⟨by simp [Lib.compactUpTo], fun y => by simp [Lib.compactUpTo]⟩
    | succ m ih =>
      intro hm
      obtain ⟨i1, i2⟩ := ih (by omega)
      rw [Lib.compactUpTo_succ]
      by_cases hk : Lib.keeps zs.toArray m = true
      · rw [if_pos hk]
        refine ⟨List.pairwise_append.2 ⟨i1, List.pairwise_singleton _ _, fun a ha b hb => ?_⟩, fun y => ?_⟩
        · obtain ⟨i, hi, rfl⟩ := (i2 a).1 ha
          rw [List.mem_singleton.1 hb]
          have hk' : m = 0 ∨ zs.toArray[m]! ≠ zs.toArray[m - 1]! := by simpa [Lib.keeps] using hk
          have h1 := hd i (m - 1) (by omega) (by omega)
          have h2 := hd (m - 1) m (by omega) (by omega)
          have h3 := hk'.resolve_left (by omega)
          omega
        · rw [List.mem_append, i2, List.mem_singleton]
          constructor
          · rintro (⟨i, hi, rfl⟩ | rfl)
            · exact ⟨i, by omega, rfl⟩
            · exact ⟨m, by omega, rfl⟩
          · rintro ⟨i, hi, rfl⟩
            by_cases hi' : i < m
            · exact .inl ⟨i, hi', rfl⟩
            · exact .inr (by rw [show i = m by omega])
      · rw [if_neg hk, List.append_nil]
        have hk' : ¬ (m = 0 ∨ zs.toArray[m]! ≠ zs.toArray[m - 1]!) := by simpa [Lib.keeps] using hk
        have hm0 : m ≠ 0 := fun h => hk' (.inl h)
        have he : zs.toArray[m]! = zs.toArray[m - 1]! := Decidable.byContradiction fun h => hk' (.inr h)
        refine ⟨i1, fun y => ?_⟩
        rw [i2]
        constructor
        · rintro ⟨i, hi, rfl⟩
          exact ⟨i, by omega, rfl⟩
        · rintro ⟨i, hi, rfl⟩
          by_cases hi' : i < m
          · exact ⟨i, hi', rfl⟩
          · exact ⟨m - 1, by omega, by rw [show i = m by omega, he]⟩
  obtain ⟨h1, h2⟩ := key zs.length (Nat.le_refl _)
  refine ⟨h1, fun y => ?_⟩
  show y ∈ Lib.compactUpTo zs.toArray zs.length ↔ _
  rw [h2]
  constructor
  · rintro ⟨i, hi, rfl⟩
    simp [getElem!_pos, hi]
  · intro h
    obtain ⟨i, hi, rfl⟩ := List.getElem_of_mem h
    exact ⟨i, hi, by simp [getElem!_pos, hi]⟩
/-- two ascending lists of the same members -/
theorem asc_eq : ∀ {a b : List Int}, a.Pairwise (· < ·) → b.Pairwise (· < ·) → (∀ y, y ∈ a ↔ y ∈ b) → a = b
  | [], [], _, _, _ => rfl
  | [], y :: b, _, _, h => absurd ((h y).2 (by simp)) (by simp)
  | x :: a, [], _, _, h => absurd ((h x).1 (by simp)) (by simp)
  | x :: a, y :: b, ha, hb, h => by
    rw [List.pairwise_cons] at ha hb
    have hxy : x = y := by
      have h1 := (h x).1 (by simp)
      have h2 := (h y).2 (by simp)
      rcases List.mem_cons.1 h1 with e | h1
      · exact e
      · rcases List.mem_cons.1 h2 with e | h2
        · exact e.symm
        · have := hb.1 x h1
          have := ha.1 y h2
          omega
    subst hxy
    congr 1
    refine asc_eq ha.2 hb.2 fun z => ?_
    constructor
    · intro hz
      rcases List.mem_cons.1 ((h z).1 (List.mem_cons_of_mem _ hz)) with e | h1
      · have := ha.1 z hz; omega
      · exact h1
    · intro hz
      rcases List.mem_cons.1 ((h z).2 (List.mem_cons_of_mem _ hz)) with e | h1
      · have := hb.1 z hz; omega
      · exact h1
/-- sorted and compacted -/
def sortU (zs : List Int) : List Int := Lib.compact (zs.mergeSort fun x y => decide (x ≤ y))
theorem sortU_spec (zs : List Int) : (sortU zs).Pairwise (· < ·) ∧ ∀ y, y ∈ sortU zs ↔ y ∈ zs := by
  have hp : (zs.mergeSort fun x y => decide (x ≤ y)).Pairwise (· ≤ ·) := by
    have := List.pairwise_mergeSort (le := fun (x y : Int) => decide (x ≤ y)) (fun a b c h1 h2 => by simp at *; omega) (fun a b => by simp; omega) zs
    exact this.imp (fun h => by simpa using h)
  obtain ⟨h1, h2⟩ := compact_spec hp
  exact ⟨h1, fun y => by unfold sortU; rw [h2]; exact (List.mergeSort_perm zs _).mem_iff⟩
theorem put_heap {g q : Nat} {cur : Array Value} (os : Array Obj) (h : w.heap[g]? = some (.cells cur T (0, 0))) (hl : ys.length ≤ cur.size) :
    Stp [g] w (Go.Sort.grow (Go.Sort.putRow (Value.int .i64) (Go.Sort.ahead w q) g 0 ys.toArray) os) ∧
    ∃ cur', (Go.Sort.grow (Go.Sort.putRow (Value.int .i64) (Go.Sort.ahead w q) g 0 ys.toArray) os).heap[g]? = some (.cells cur' T (0, 0)) ∧ cur'.size = cur.size ∧ cur'.toList.take ys.length = ys.map (Value.int .i64) := by
  have hlt : g < w.heap.size := (Array.getElem?_eq_some_iff.1 h).1
  have hh : (Go.Sort.grow (Go.Sort.putRow (Value.int .i64) (Go.Sort.ahead w q) g 0 ys.toArray) os).heap = w.heap.modify g (Go.Sort.onCells (Go.Sort.putCells (Value.int .i64) 0 ys.toArray)) ++ os := rfl
  refine ⟨⟨rfl, rfl, rfl, by rw [hh]; simp, fun b hb hn => ?_⟩, Go.Sort.putCells (Value.int .i64) 0 ys.toArray cur, ?_, by simp [Go.Sort.putCells], ?_⟩
  · rw [hh, Array.getElem?_append_left (by simpa using hb), Array.getElem?_modify, if_neg (by simp at hn; exact fun e => hn e.symm)]
  · rw [hh, Array.getElem?_append_left (by simpa using hlt), Array.getElem?_modify, if_pos rfl, h]
    rfl
  · apply List.ext_getElem
    · simp [Go.Sort.putCells]; omega
    · intro i h1 h2
      have hi : i < ys.length := by simpa using h2
      simp [Go.Sort.putCells, hi]
theorem holds_row {g : Nat} {cur : Array Value} (h : w.heap[g]? = some (.cells cur T (0, 0))) (ht : cur.toList.take zs.length = zs.map (Value.int .i64)) : Go.Sort.Holds (Value.int .i64) w g 0 zs.toArray := by
  intro j hj
  have hj' : j < zs.length := by simpa using hj
  have hc : cur[j]? = some (.int .i64 zs[j]) := by
    have h1 : (cur.toList.take zs.length)[j]? = some (.int .i64 zs[j]) := by rw [ht]; simp [hj']
    rw [List.getElem?_take, if_pos hj'] at h1
    simpa using h1
  constructor
  · simp [World.cell?, h, hc, hj']
  · simp [World.frozen?, h]
end Go.Eng
namespace Go.Proofs.YtgpibcgebpgmiaaGreatDoor
open Go Go.Eng Go.RowKit
set_option linter.unusedVariables false
theorem Sort_row {X : List Nat} {base T : Nat} {v : Value} {zs : List Int} (w : World) (h : Row X w base T v zs) (hsz : zs.length < 4611686018427387904) :
    Calls Tryz.prog 60 #[v] w (Ret fun r w' => r = .tuple #[] ∧ Row X w' base T v (zs.mergeSort fun x y => decide (x ≤ y)) ∧ Stp (ob v) w w') := by
  rcases h.toI with ⟨rfl, rfl⟩ | ⟨g, cap, cur, rfl, hb, hg, hnc, hcm, hcs, ht⟩
  · refine (Tryz.slices_Sort_int_none none 0 w).mono ?_
    rintro _ _ ⟨rfl, rfl⟩
    exact .mk ⟨rfl, by simpa using Row.nil, Stp.refl _ _⟩
  · have hlt : g < w.heap.size := (Array.getElem?_eq_some_iff.1 hg).1
    refine (Tryz.slices_Sort_int g 0 cap zs w (holds_row hg ht) hlt hsz).mono ?_
    rintro _ _ ⟨rfl, q, os, rfl⟩
    have hl : (zs.mergeSort fun x y => decide (x ≤ y)).length = zs.length := List.length_mergeSort zs
    obtain ⟨hS, cur', h1, h2, h3⟩ := put_heap (q := q) os hg (ys := zs.mergeSort fun x y => decide (x ≤ y)) (by omega)
    refine .mk ⟨rfl, RowI.toRow (.inr ⟨g, cap, cur', by rw [hl], hb, h1, by omega, hcm, by omega, h3⟩), hS⟩
theorem Compact_row {X : List Nat} {base T : Nat} {v : Value} {zs : List Int} (w : World) (h : Row X w base T v zs) (hsz : zs.length ≤ 9223372036854775807) :
    Calls Tryz.prog 61 #[v] w (Ret fun r w' => Row X w' base T r (Lib.compact zs) ∧ Stp (ob v) w w' ∧ ob r = ob v) := by
  rcases h.toI with ⟨rfl, rfl⟩ | ⟨g, cap, cur, rfl, hb, hg, hnc, hcm, hcs, ht⟩
  · refine (Tryz.slices_Compact_int_empty none 0 w).mono ?_
    rintro _ _ ⟨rfl, rfl⟩
    exact .mk ⟨by rw [show Lib.compact ([] : List Int) = [] from rfl]; exact Row.nil, Stp.refl _ _, rfl⟩
  · refine (Tryz.slices_Compact_int g 0 cap zs w (holds_row hg ht) hsz hnc).mono ?_
    rintro _ _ ⟨rfl, q, rfl⟩
    have hcl : (Lib.compact zs).length ≤ zs.length := by
      unfold Lib.compact Lib.compactUpTo
      rw [List.length_map]
      exact Nat.le_trans (List.length_filter_le _ _) (by simp)
    have e : ∀ W : World, W = Go.Sort.grow W #[] := fun W => by simp [Go.Sort.grow]
    rw [e (Go.Sort.putRow _ _ _ _ _)]
    obtain ⟨hS, cur', h1, h2, h3⟩ := put_heap (q := q) #[] hg (ys := Lib.compact zs ++ List.replicate (zs.length - (Lib.compact zs).length) 0) (by simp; omega)
    refine .mk ⟨RowI.toRow (.inr ⟨g, cap, cur', rfl, hb, h1, by omega, hcm, by omega, ?_⟩), hS, rfl⟩
    have h4 := congrArg (List.take (Lib.compact zs).length) h3
    rw [List.take_take, Nat.min_eq_left (by simp)] at h4
    rw [h4]
    simp
end Go.Proofs.YtgpibcgebpgmiaaGreatDoor


namespace Go.Proofs.YtgpibcgebpgmiaaGreatDoor
open Go Go.Eng Go.RowKit
set_option linter.unusedVariables false

/-! ### the fields that an expression uses -/
def ownU (k : Int) (s : Str) : List Int := if (fieldF s).2.2 = true ∧ k = 4 then [(fieldF s).1] else []
def usesF : Nd → List Int
  | .mk k n s l => sortU (ownU k s ++ (l.map usesF).flatten)
theorem usesF_eq (k n : Int) (s : Str) (l : List Nd) : usesF (.mk k n s l) = sortU (ownU k s ++ (l.map usesF).flatten) := by rw [usesF]
def usesT (nm : Str) : Nd → Bool
  | .mk k n s l => (decide (k = 4) && decide (s = nm)) || (l.map (usesT nm)).any id
theorem usesT_eq (nm : Str) (k n : Int) (s : Str) (l : List Nd) : usesT nm (.mk k n s l) = ((decide (k = 4) && decide (s = nm)) || (l.map (usesT nm)).any id) := by rw [usesT]
def usesR (x : Nd) : List Int := ((List.range 7).filter (fun i => usesT (fieldNames.getD i []) x)).map (fun (i : Nat) => (i : Int))
theorem field_spec (s : Str) (y : Int) : ((fieldF s).2.2 = true ∧ y = (fieldF s).1) ↔ ∃ i, i < 7 ∧ s = fieldNames.getD i [] ∧ y = (i : Int) := by
  by_cases h0 : s = [100, 97, 121]
  · subst h0
    have e : fieldF [100, 97, 121] = (0, 3, true) := by decide +kernel
    have u : ∀ i, i < 7 → [100, 97, 121] = fieldNames.getD i [] → i = 0 := by decide +kernel
    rw [e]
    constructor
    · rintro ⟨-, rfl⟩; exact ⟨0, by decide, by decide +kernel, rfl⟩
    · rintro ⟨i, hi, he, rfl⟩; rw [u i hi he]; exact ⟨rfl, rfl⟩
  by_cases h1 : s = [115, 101, 114, 118, 101, 100]
  · subst h1
    have e : fieldF [115, 101, 114, 118, 101, 100] = (1, 3, true) := by decide +kernel
    have u : ∀ i, i < 7 → [115, 101, 114, 118, 101, 100] = fieldNames.getD i [] → i = 1 := by decide +kernel
    rw [e]
    constructor
    · rintro ⟨-, rfl⟩; exact ⟨1, by decide, by decide +kernel, rfl⟩
    · rintro ⟨i, hi, he, rfl⟩; rw [u i hi he]; exact ⟨rfl, rfl⟩
  by_cases h2 : s = [101, 120, 116, 114, 97]
  · subst h2
    have e : fieldF [101, 120, 116, 114, 97] = (2, 1, true) := by decide +kernel
    have u : ∀ i, i < 7 → [101, 120, 116, 114, 97] = fieldNames.getD i [] → i = 2 := by decide +kernel
    rw [e]
    constructor
    · rintro ⟨-, rfl⟩; exact ⟨2, by decide, by decide +kernel, rfl⟩
    · rintro ⟨i, hi, he, rfl⟩; rw [u i hi he]; exact ⟨rfl, rfl⟩
  by_cases h3 : s = [98, 121]
  · subst h3
    have e : fieldF [98, 121] = (3, 1, true) := by decide +kernel
    have u : ∀ i, i < 7 → [98, 121] = fieldNames.getD i [] → i = 3 := by decide +kernel
    rw [e]
    constructor
    · rintro ⟨-, rfl⟩; exact ⟨3, by decide, by decide +kernel, rfl⟩
    · rintro ⟨i, hi, he, rfl⟩; rw [u i hi he]; exact ⟨rfl, rfl⟩
  by_cases h4 : s = [116, 111]
  · subst h4
    have e : fieldF [116, 111] = (4, 1, true) := by decide +kernel
    have u : ∀ i, i < 7 → [116, 111] = fieldNames.getD i [] → i = 4 := by decide +kernel
    rw [e]
    constructor
    · rintro ⟨-, rfl⟩; exact ⟨4, by decide, by decide +kernel, rfl⟩
    · rintro ⟨i, hi, he, rfl⟩; rw [u i hi he]; exact ⟨rfl, rfl⟩
  by_cases h5 : s = [99, 111, 117, 114, 116]
  · subst h5
    have e : fieldF [99, 111, 117, 114, 116] = (5, 1, true) := by decide +kernel
    have u : ∀ i, i < 7 → [99, 111, 117, 114, 116] = fieldNames.getD i [] → i = 5 := by decide +kernel
    rw [e]
    constructor
    · rintro ⟨-, rfl⟩; exact ⟨5, by decide, by decide +kernel, rfl⟩
    · rintro ⟨i, hi, he, rfl⟩; rw [u i hi he]; exact ⟨rfl, rfl⟩
  by_cases h6 : s = [97, 109, 111, 117, 110, 116]
  · subst h6
    have e : fieldF [97, 109, 111, 117, 110, 116] = (6, 1, true) := by decide +kernel
    have u : ∀ i, i < 7 → [97, 109, 111, 117, 110, 116] = fieldNames.getD i [] → i = 6 := by decide +kernel
    rw [e]
    constructor
    · rintro ⟨-, rfl⟩; exact ⟨6, by decide, by decide +kernel, rfl⟩
    · rintro ⟨i, hi, he, rfl⟩; rw [u i hi he]; exact ⟨rfl, rfl⟩
  constructor
  · rintro ⟨h, -⟩
    exfalso
    have hn : fieldNames.findIdx? (isS s) = none := List.findIdx?_eq_none_iff.2 fun x hx => by
      simp only [fieldNames, List.mem_cons, List.not_mem_nil, or_false] at hx
      rcases hx with rfl | rfl | rfl | rfl | rfl | rfl | rfl <;> simp only [isS, decide_eq_false_iff_not] <;> intro e <;> first | exact (absurd e h0) | exact (absurd e.symm h0) | exact (absurd e h1) | exact (absurd e.symm h1) | exact (absurd e h2) | exact (absurd e.symm h2) | exact (absurd e h3) | exact (absurd e.symm h3) | exact (absurd e h4) | exact (absurd e.symm h4) | exact (absurd e h5) | exact (absurd e.symm h5) | exact (absurd e h6) | exact (absurd e.symm h6) | skip
    simp [fieldF, idx, hn] at h
  · rintro ⟨i, hi, he, -⟩
    exfalso
    match i, hi with
    | 0, _ => exact h0 he
    | 1, _ => exact h1 he
    | 2, _ => exact h2 he
    | 3, _ => exact h3 he
    | 4, _ => exact h4 he
    | 5, _ => exact h5 he
    | 6, _ => exact h6 he
theorem usesR_asc (x : Nd) : (usesR x).Pairwise (· < ·) := by
  unfold usesR
  rw [List.pairwise_map]
  exact (List.pairwise_lt_range.filter _).imp (fun h => by omega)
theorem mem_usesR (x : Nd) (y : Int) : y ∈ usesR x ↔ ∃ i, i < 7 ∧ usesT (fieldNames.getD i []) x = true ∧ y = (i : Int) := by
  unfold usesR
  simp only [List.mem_map, List.mem_filter, List.mem_range]
  constructor
  · rintro ⟨i, ⟨h1, h2⟩, rfl⟩; exact ⟨i, h1, h2, rfl⟩
  · rintro ⟨i, h1, h2, rfl⟩; exact ⟨i, ⟨h1, h2⟩, rfl⟩
theorem uses_eq (x : Nd) : usesF x = usesR x := by
  induction x using Nd.ind with
  | h k n s l ih =>
  rw [usesF_eq]
  refine asc_eq (sortU_spec _).1 (usesR_asc _) fun y => ?_
  rw [(sortU_spec _).2, mem_usesR, List.mem_append]
  have h1 : y ∈ ownU k s ↔ k = 4 ∧ ∃ i, i < 7 ∧ s = fieldNames.getD i [] ∧ y = (i : Int) := by
    rw [← field_spec]
    unfold ownU
    by_cases h : (fieldF s).2.2 = true ∧ k = 4
    · rw [if_pos h, List.mem_singleton]; exact ⟨fun e => ⟨h.2, h.1, e⟩, fun e => e.2.2⟩
    · rw [if_neg h]; exact ⟨fun e => (by cases e), fun e => absurd ⟨e.2.1, e.1⟩ h⟩
  rw [h1]
  constructor
  · rintro (⟨rfl, i, hi, he, rfl⟩ | h)
    · exact ⟨i, hi, by rw [usesT_eq, ← he]; simp, rfl⟩
    · obtain ⟨z, hz, hy⟩ := List.mem_flatten.1 h
      obtain ⟨c, hc, rfl⟩ := List.mem_map.1 hz
      rw [ih c hc, mem_usesR] at hy
      obtain ⟨i, hi, hu, rfl⟩ := hy
      refine ⟨i, hi, ?_, rfl⟩
      rw [usesT_eq, Bool.or_eq_true]
      exact .inr (List.any_eq_true.2 ⟨_, List.mem_map.2 ⟨c, hc, rfl⟩, hu⟩)
  · rintro ⟨i, hi, hu, rfl⟩
    rw [usesT_eq, Bool.or_eq_true] at hu
    rcases hu with hu | hu
    · simp only [Bool.and_eq_true, decide_eq_true_eq] at hu
      exact .inl ⟨hu.1, i, hi, hu.2, rfl⟩
    · obtain ⟨z, hz, hz2⟩ := List.any_eq_true.1 hu
      obtain ⟨c, hc, rfl⟩ := List.mem_map.1 hz
      exact .inr (List.mem_flatten.2 ⟨usesF c, List.mem_map.2 ⟨c, hc, rfl⟩, by rw [ih c hc, mem_usesR]; exact ⟨i, hi, hz2, rfl⟩⟩)
theorem usesF_len (x : Nd) : (usesF x).length ≤ 7 := by
  rw [uses_eq, usesR, List.length_map]
  exact Nat.le_trans (List.length_filter_le _ _) (by simp)
theorem ownU_len (k : Int) (s : Str) : (ownU k s).length ≤ 1 := by
  unfold ownU
  split <;> simp
theorem flat_len (l : List Nd) : ((l.map usesF).flatten).length ≤ 7 * l.length := by
  induction l with
  | nil => simp
  | cons a l ih =>
    have := usesF_len a
    simp only [List.map_cons, List.flatten_cons, List.length_append, List.length_cons]
    omega
set_option maxHeartbeats 1000000 in
theorem Uses_any (x : Nd) : ∀ (v : Value) (w : World), okN x = true → NdV [] w v x → SlV [] w flds fieldNames →
    Calls Tryz.prog 20 #[v] w (Ret fun r w' => Row [] w' w.heap.size 3 r (usesF x) ∧ Stp [] w w') := by
  induction x using Nd.ind with
  | h k n s l ih =>
  intro v w hok hx hF
  obtain ⟨hk1, hk2⟩ := (okN_iff _).1 hok
  replace hk1 : l.length ≤ 1000 := hk1
  replace hk2 : ∀ y ∈ l, okN y = true := hk2
  obtain ⟨kv, rfl, hs⟩ := hx
  replace hs : SlV [] w kv l := hs
  have hmax := hs.max
  have hsW := hs
  have hol := ownU_len k s
  rw [usesF_eq]
  refine calls_of_WC1 (n := 42) Tryz.func20 rfl rfl rfl ?_
  refine W ?_
  refine WL_eff (OE_box rfl) rfl ?_
  rintro _ w1 ⟨b, rfl, hbb, hblk, hS⟩
  replace hblk : Blk w1 b _ (ndL k n s kv) := hblk
  replace hs := hs.up hS
  refine W ?_
  refine WL_eff (OE_call rfl (evs1 rfl) (Field_any s _ (hF.up hS))) rfl ?_
  rintro _ w2 ⟨rfl, hT⟩
  replace hblk := hblk.up hT
  replace hs := hs.up hT
  replace hS := hS.trans hT
  clear hT hbb
  have hwb := hS.size
  refine W ?_
  refine WL_cutQ (σ := Bool) (fun q => [(1, .pointer (some ⟨b, 0, none⟩)), (3, .slice none 0 0), (4, .int .i64 (fieldF s).1), (21, .bool q)]) (fun q w' => w' = w2 ∧ q = decide ((fieldF s).2.2 = true ∧ k = 4)) ?_ ?_
  · repeat' (first | refine W1 ?_ | (exfalso; omega) | refine WL_split rfl rfl (fun hg => ?_) (fun hg => ?_) | refine WL_splitB rfl rfl (fun hg => ?_) (fun hg => ?_) | refine WC_cond rfl (fun hc => ?_) (fun hc => ?_) | refine WC_condB rfl (fun hc => ?_) (fun hc => ?_))
    all_goals exact WQ_cut _ ⟨rfl, rfl, rfl, rfl, trivial⟩ ⟨rfl, by simp [*]⟩
  rintro q _ ⟨rfl, hq⟩
  try dsimp only at hq ⊢
  refine W ?_
  refine WC_cutQ (σ := Value) (fun u => [(1, .pointer (some ⟨b, 0, none⟩)), (3, u)]) (fun u w' => Row [] w' w.heap.size 3 u (ownU k s) ∧ Blk w' b 36 (ndL k n s kv) ∧ SlV [] w' kv l ∧ Stp [] w w') ?_ ?_
  · cases q with
    | false =>
      have hno : ownU k s = [] := by unfold ownU; rw [if_neg (by simpa using hq.symm)]
      repeat' (first | refine W1 ?_ | (exfalso; omega) | refine WL_split rfl rfl (fun hg => ?_) (fun hg => ?_) | refine WL_splitB rfl rfl (fun hg => ?_) (fun hg => ?_) | refine WC_cond rfl (fun hc => ?_) (fun hc => ?_) | refine WC_condB rfl (fun hc => ?_) (fun hc => ?_))
      exact WQ_cut (.slice none 0 0) ⟨rfl, rfl, trivial⟩ ⟨by rw [hno]; exact Row.nil, hblk, hs, hS⟩
    | true =>
      have hno : ownU k s = [(fieldF s).1] := by unfold ownU; rw [if_pos (by simpa using hq.symm)]
      repeat' (first | refine W1 ?_ | (exfalso; omega) | refine WL_split rfl rfl (fun hg => ?_) (fun hg => ?_) | refine WL_splitB rfl rfl (fun hg => ?_) (fun hg => ?_) | refine WC_cond rfl (fun hc => ?_) (fun hc => ?_) | refine WC_condB rfl (fun hc => ?_) (fun hc => ?_))
      refine WL_eff (OE_buildSlice (vs := [(0, .int .i64 (fieldF s).1)]) rfl (buildSI1 _)) rfl ?_
      rintro bv w4 hN
      have hbv : SlV (ob (.slice none 0 0) ++ []) w4 bv [(fieldF s).1] := hN.slv (fun b hb => by simp [ob] at hb) rfl rfl (by simp [maxLen])
      have hS4 := NewSl.stp hN
      clear hN
      replace hblk := hblk.up hS4
      replace hs := hs.up hS4
      replace hS := hS.trans hS4
      have hwb4 := hS.size
      refine WL_eff (OE_append (X := []) (base := w.heap.size) rfl (by decide) rfl rfl Row.nil hbv (by simp only [List.length_cons, List.length_nil]; omega) (by simp only [List.length_cons, List.length_nil, maxLen]; omega) hwb4) rfl ?_
      rintro u' w5 ⟨hrow', hS5, _⟩
      replace hS5 : Stp [] w4 w5 := hS5.mono (by simp [ob])
      refine W ?_
      exact WQ_cut u' ⟨rfl, rfl, trivial⟩ ⟨by rw [hno]; exact hrow', hblk.up hS5, hs.up hS5, hS.trans hS5⟩
  clear hq q hS hblk hs hwb
  rintro u w1 ⟨hrow, hblk, hs, hS⟩
  try dsimp only at hrow hblk hs hS ⊢
  refine W ?_
  refine WC_loop (σ := Nat × Value) (fun q => [(3, q.2), (27, kv), (28, .int .i64 (l.length : Int)), (29, .int .i64 (q.1 : Int))]) (fun q w' => q.1 ≤ l.length ∧ Row [] w' w.heap.size 3 q.2 (ownU k s ++ ((l.take q.1).map usesF).flatten) ∧ Stp [] w w') (fun q => l.length - q.1) (0, u) ⟨rfl, rfl, rfl, rfl, trivial⟩ ⟨Nat.zero_le _, by simpa using hrow, hS⟩ ?_
  clear hs hblk hrow hS
  rintro ⟨j, u⟩ w2 ⟨hj, hrow, hS⟩
  dsimp only at hj hrow ⊢
  have hs := hsW.up hS
  have hfl := flat_len (l.take j)
  rw [List.length_take, Nat.min_eq_left hj] at hfl
  by_cases hlt : j < l.length
  · obtain ⟨kv2, hs2, hc2⟩ := hs.nd hlt
    have hul := usesF_len l[j]
    repeat' (first | refine W1 ?_ | (exfalso; omega) | refine WL_split rfl rfl (fun hg => ?_) (fun hg => ?_) | refine WL_splitB rfl rfl (fun hg => ?_) (fun hg => ?_) | refine WC_cond rfl (fun hc => ?_) (fun hc => ?_) | refine WC_condB rfl (fun hc => ?_) (fun hc => ?_))
    apply WL_pure (PR_loadNd rfl rfl hs hlt hc2) rfl
    refine WL_eff OE_alloc rfl ?_
    rintro _ w4 ⟨b8, rfl, hb8, e8, hT⟩
    refine WL_eff0 (OE_storeA (us := ndC l[j] kv2) rfl rfl rfl rfl (ndC_one hs2) e8 rfl) ?_
    rintro _ w5 ⟨hT2, e8'⟩
    have hT3 := hT.own hT2 (fun b hb => .inr (by simp at hb; omega))
    clear hT hT2 e8 hb8
    replace hrow := hrow.up hT3
    replace hS := hS.trans hT3
    replace hs2 := hs2.up hT3
    clear hT3
    refine W ?_
    refine WL_eff (OE_call rfl (evs1 rfl) (ih l[j] (List.getElem_mem hlt) _ _ (hk2 _ (List.getElem_mem hlt)) ⟨kv2, rfl, hs2⟩ (hF.up hS))) rfl ?_
    rintro rv w6 ⟨hr, hS6⟩
    have hrv : SlV (ob u ++ []) w6 rv (usesF l[j]) := (RowI.toRow hr.toI).slv (fun b hb => (hrow.ob_le b (by simpa using hb)).2)
    replace hrow := hrow.up hS6
    replace hS := hS.trans hS6
    have hbase := hS.size
    clear hr hS6
    refine WL_eff (OE_append (X := []) (base := w.heap.size) rfl (by decide) rfl rfl hrow hrv (by rw [List.length_append]; omega) (by rw [List.length_append]; simp only [maxLen]; omega) hbase) rfl ?_
    rintro u' w7 ⟨hrow', hS7, _⟩
    refine W ?_
    refine WQ_loop (j + 1, u') ⟨rfl, rfl, rfl, rfl, trivial⟩ ⟨by dsimp only; omega, ?_, hS.own hS7 (fun c hc => .inr (hrow.ob_le c hc).1)⟩ (by dsimp only; omega)
    · dsimp only
      rw [List.take_succ_eq_append_getElem hlt, List.map_append, List.flatten_append, ← List.append_assoc]
      simpa using hrow'
  · have hje : j = l.length := by omega
    subst hje
    rw [List.take_length] at hrow hfl
    have hll : (ownU k s ++ (l.map usesF).flatten).length ≤ 8000 := by rw [List.length_append]; omega
    repeat' (first | refine W1 ?_ | (exfalso; omega) | refine WL_split rfl rfl (fun hg => ?_) (fun hg => ?_) | refine WL_splitB rfl rfl (fun hg => ?_) (fun hg => ?_) | refine WC_cond rfl (fun hc => ?_) (fun hc => ?_) | refine WC_condB rfl (fun hc => ?_) (fun hc => ?_))
    refine WL_eff (OE_call rfl (evs1 rfl) (Sort_row _ hrow (by omega))) rfl ?_
    rintro _ w7 ⟨rfl, hrow2, hS7⟩
    refine W ?_
    refine WL_eff (OE_call rfl (evs1 rfl) (Compact_row _ hrow2 (by rw [List.length_mergeSort]; omega))) rfl ?_
    rintro rv w8 ⟨hrow3, hS8, hob⟩
    refine W ?_
    first | refine WQ_ret1 rfl rfl ?_ | refine WQ_ret2 rfl rfl rfl ?_ | refine WQ_ret3 rfl rfl rfl rfl ?_ | refine WQ_ret0 rfl ?_ | refine WQ_end0 rfl ?_
    exact .mk ⟨hrow3, (hS.own hS7 (fun c hc => .inr (hrow.ob_le c hc).1)).own hS8 (fun c hc => .inr (hrow.ob_le c hc).1)⟩
end Go.Proofs.YtgpibcgebpgmiaaGreatDoor

