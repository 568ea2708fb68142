/-
Merged by program out of own texts: Srt1, Use1, Liv3, Liv4, Lvs1, Ckc1, Flt1, Eng18, Wir0, Wir1, Wir2, Wir3, Enc1, Eng19, Siz1, Part1, Tyo1, Dec0, Dec1, Cty0, Cty1, Cty2, Eng4B, Eng20, Rdr1, Rdr2, Rdr3, Dec2, Rdr4, Rdr5, Rdr6, Rdr7, Par1, Dcr1, Eng22.
-/
import Derived.Test.YtgpibcgebpgmiaaDoorM3
import Derived.Laws.BitsAllLaws
import Derived.Laws.Bits64
import Derived.Lib.SlBytesRow
import Derived.Lib.AppendStr
import Derived.Laws.BytesArg
import Derived.Laws.Cover3
import Derived.Scope
import Derived.RangeFuncBox
import Derived.RangeFuncNested
import Derived.RangeFuncCalls
import Derived.OrdersIn

namespace Go.Eng
open Go Go.RowKit
set_option linter.unusedVariables false
variable {X : List Nat} {w w' : World} {base T : Nat} {v : Value} {zs ys : List Int}
end Go.Eng
namespace Go.Proofs.YtgpibcgebpgmiaaDoor
open Go Go.Eng Go.RowKit
set_option linter.unusedVariables false
end Go.Proofs.YtgpibcgebpgmiaaDoor


namespace Go.Proofs.YtgpibcgebpgmiaaDoor
open Go Go.Eng Go.RowKit
set_option linter.unusedVariables false

/-! ### the fields that an expression uses -/
end Go.Proofs.YtgpibcgebpgmiaaDoor


namespace Go.Proofs.YtgpibcgebpgmiaaDoor
open Go Go.Eng Go.RowKit
set_option linter.unusedVariables false

end Go.Proofs.YtgpibcgebpgmiaaDoor


namespace Go.Proofs.YtgpibcgebpgmiaaDoor
open Go Go.Eng Go.RowKit
set_option linter.unusedVariables false
theorem buildRlL (a o : Str) (k n : Int) (s : Str) (p : Option Addr) (l c : Nat) (k' n' : Int) (s' : Str) (p' : Option Addr) (l' c' : Nat) (w : World) : (Instr.build 51 #[(0, str a), (2, str o), (3, .agg #[.int .i64 k, .int .i64 n, str s, .slice p l c]), (4, .agg #[.int .i64 k', .int .i64 n', str s', .slice p' l' c'])]).run Tryd.prog w = .ok (.agg #[str a, .int .i64 0, str o, .int .i64 k, .int .i64 n, str s, .slice p l c, .int .i64 k', .int .i64 n', str s', .slice p' l' c', str [], str []]) w := by kernel_rfl
end Go.Proofs.YtgpibcgebpgmiaaDoor


namespace Go.Eng
open Go Go.RowKit
theorem Row.drop {α : Type} [GoRep α] {X : List Nat} {w : World} {base T : Nat} {v : Value} {xs : List α} (h : Row X w base T v xs) : SlV [] w v xs :=
  (h.ext (S := []) (X' := []) (Stp.refl [] w) (by simp) (by simp)).slv (by simp)
end Go.Eng
namespace Go.Proofs.YtgpibcgebpgmiaaDoor
open Go Go.Eng Go.RowKit
set_option linter.unusedVariables false
end Go.Proofs.YtgpibcgebpgmiaaDoor


namespace Go.Proofs.YtgpibcgebpgmiaaDoor
open Go Go.Eng Go.RowKit
set_option linter.unusedVariables false
abbrev rlN (s : Str) : Rul := ⟨s, 0, s, .mk 2 0 [] [], .mk 3 0 [] [], [], []⟩
theorem ckN (s : Str) : decide (checkT (rlN s) = 0) = namedT s := by
  have m1 : mustF (.mk 2 0 [] []) 2 = 0 := by
    unfold mustF
    rw [show nestN (.mk 2 0 [] []) = 1 by simp only [nestN_eq, Nd.kids, List.map_nil]; rfl, show typeT (.mk 2 0 [] []) = 2 by simp only [typeT_eq, Nd.kids, Nd.kind, Nd.num, Nd.word, List.map_nil]; rfl]
    decide
  have m2 : mustF (.mk 3 0 [] []) 3 = 0 := by
    unfold mustF
    rw [show nestN (.mk 3 0 [] []) = 1 by simp only [nestN_eq, Nd.kids, List.map_nil]; rfl, show typeT (.mk 3 0 [] []) = 3 by simp only [typeT_eq, Nd.kids, Nd.kind, Nd.num, Nd.word, List.map_nil]; rfl]
    decide
  have hn : namesT (rlN s) = namedT s := by simp [namesT]
  unfold checkT
  rw [hn, m1, m2]
  cases namedT s <;> simp
theorem buildN0k (k : Int) (w : World) : (Instr.build 25 #[(0, .int .i64 k)]).run Tryd.prog w = .ok (.agg #[.int .i64 k, .int .i64 0, str [], .slice none 0 0]) w := by kernel_rfl
theorem CNamed_any (s : Str) (m : Int) (w : World) (hF : SlV [] w flds fieldNames) (hm : w.cell? ⟨1, 0, none⟩ = some (.int .i64 m)) :
    Calls Tryd.prog 67 #[str s] w (Ret fun r w' => r = .bool (namedT s) ∧ Stp [] w w') := by
  refine calls_of_WC1 (n := 12) Tryd.func67 rfl rfl rfl ?_
  refine W ?_
  apply WL_build (vs := [(0, .int .i64 2)]) rfl (buildN0k _) rfl
  apply WL_build (vs := [(0, .int .i64 3)]) rfl (buildN0k _) rfl
  apply WL_build (vs := [(0, str s), (2, str s), (3, .agg #[.int .i64 2, .int .i64 0, str [], .slice none 0 0]), (4, .agg #[.int .i64 3, .int .i64 0, str [], .slice none 0 0])]) rfl (buildRlL _ _ _ _ _ _ _ _ _ _ _ _ _ _) rfl
  refine WL_eff OE_alloc rfl ?_
  rintro _ w1 ⟨b, rfl, hb, e0, hT⟩
  refine WL_eff0 (OE_storeA (us := rlC (rlN s) nilS nilS) rfl rfl rfl rfl (rlC_one (rlN s) (nilSlv (α := Nd) [] w) (nilSlv (α := Nd) [] w)) e0 rfl) ?_
  rintro _ w2 ⟨hT2, e1⟩
  have hS := hT.own hT2 (fun b hb => .inr (by simp at hb; omega))
  clear hT hT2 e0
  refine W ?_
  refine WL_eff (OE_call rfl (evs1 rfl) (Check14_any _ (rlN s) m _ ⟨nilS, nilS, rfl, nilSlv _ _, nilSlv _ _⟩ (hF.up hS) (hS.cell (by simp) hm))) rfl ?_
  rintro _ w3 ⟨rfl, hT⟩
  replace hS := hS.trans hT
  refine W ?_
  first | refine WQ_ret1 rfl rfl ?_ | refine WQ_ret2 rfl rfl rfl ?_ | refine WQ_ret3 rfl rfl rfl rfl ?_ | refine WQ_ret0 rfl ?_ | refine WQ_end0 rfl ?_
  exact .mk ⟨by rw [← ckN s], hS⟩
/-- a compiled rule that is not valid -/
def badC (q : Cr) : Bool := decide ((verM q.cnd).2 ≠ 0) || decide ((verM q.due).2 ≠ 0) || decide ((verM q.cnd).1 ≠ 2) || decide ((verM q.due).1 ≠ 3) || decide (q.frm < 0) || decide (q.frm > 3652058) || !namedT q.name || !namedT q.on || (decide (q.unl ≠ []) && !namedT q.unl) || (decide (q.els ≠ []) && !namedT q.els)
def chkC (q : Cr) : Int := if badC q then 22 else 0
theorem CheckC_any (v : Value) (q : Cr) (w : World) (m : Int) (hF : SlV [] w flds fieldNames) (hm : w.cell? ⟨1, 0, none⟩ = some (.int .i64 m)) (hv : CrV [] w v q) :
    Calls Tryd.prog 24 #[v] w (Ret fun r w' => r = .int .i64 (chkC q) ∧ Stp [] w w') := by
  obtain ⟨kc, kd, rfl, hc1, hd1⟩ := hv
  refine calls_of_WC1 (n := 60) Tryd.func24 rfl rfl rfl ?_
  refine W ?_
  refine WL_eff (OE_box rfl) rfl ?_
  rintro _ w1 ⟨b, rfl, hb, e1, hS⟩
  replace e1 : Blk w1 b 42 (crC q kc kd) := e1
  replace hc1 := hc1.up hS
  replace hd1 := hd1.up hS
  clear hb
  refine W ?_
  refine WL_eff (OE_call rfl (evs1 rfl) (Verify_any _ q.cnd _ hc1)) rfl ?_
  rintro _ w2 ⟨rfl, hT⟩
  replace e1 := e1.up hT
  replace hc1 := hc1.up hT
  replace hd1 := hd1.up hT
  replace hS := hS.trans hT
  clear hT
  refine W ?_
  refine WL_eff (OE_call rfl (evs1 rfl) (Verify_any _ q.due _ hd1)) rfl ?_
  rintro _ w2 ⟨rfl, hT⟩
  replace e1 := e1.up hT
  replace hc1 := hc1.up hT
  replace hd1 := hd1.up hT
  replace hS := hS.trans hT
  clear hT
  refine W ?_
  refine WC_cutQ (σ := Bool) (fun u => [(1, .pointer (some ⟨b, 0, none⟩)), (2, .int .i64 0), (19, .bool u)]) (fun u w' => Blk w' b 42 (crC q kc kd) ∧ Stp [] w w' ∧ u = badC q) ?_ ?_
  · repeat' (first | refine W1 ?_ | (exfalso; omega) | refine WL_split rfl rfl (fun hg => ?_) (fun hg => ?_) | refine WL_splitB rfl rfl (fun hg => ?_) (fun hg => ?_) | refine WC_cond rfl (fun hc => ?_) (fun hc => ?_) | refine WC_condB rfl (fun hc => ?_) (fun hc => ?_))
    all_goals try (first | exact WQ_cut true ⟨rfl, rfl, rfl, trivial⟩ ⟨e1, hS, by simp [badC, *]⟩ | exact WQ_cut false ⟨rfl, rfl, rfl, trivial⟩ ⟨e1, hS, by simp [badC, *]⟩ | exact WQ_cut _ ⟨rfl, rfl, rfl, trivial⟩ ⟨e1, hS, by simp [badC, *]⟩)
    refine W ?_
    refine WL_eff (OE_call rfl (evs1 rfl) (CNamed_any q.name m _ (hF.up hS) (hS.cell (by simp) hm))) rfl ?_
    rintro _ w3 ⟨rfl, hT⟩
    replace e1 := e1.up hT
    replace hc1 := hc1.up hT
    replace hd1 := hd1.up hT
    replace hS := hS.trans hT
    clear hT
    cases hn_name : namedT q.name with
    | false =>
      repeat' (first | refine W1 ?_ | (exfalso; omega) | refine WL_split rfl rfl (fun hg => ?_) (fun hg => ?_) | refine WL_splitB rfl rfl (fun hg => ?_) (fun hg => ?_) | refine WC_cond rfl (fun hc => ?_) (fun hc => ?_) | refine WC_condB rfl (fun hc => ?_) (fun hc => ?_))
      all_goals (first | exact WQ_cut true ⟨rfl, rfl, rfl, trivial⟩ ⟨e1, hS, by simp [badC, *]⟩ | exact WQ_cut false ⟨rfl, rfl, rfl, trivial⟩ ⟨e1, hS, by simp [badC, *]⟩ | exact WQ_cut _ ⟨rfl, rfl, rfl, trivial⟩ ⟨e1, hS, by simp [badC, *]⟩)
    | true =>
      repeat' (first | refine W1 ?_ | (exfalso; omega) | refine WL_split rfl rfl (fun hg => ?_) (fun hg => ?_) | refine WL_splitB rfl rfl (fun hg => ?_) (fun hg => ?_) | refine WC_cond rfl (fun hc => ?_) (fun hc => ?_) | refine WC_condB rfl (fun hc => ?_) (fun hc => ?_))
      refine W ?_
      refine WL_eff (OE_call rfl (evs1 rfl) (CNamed_any q.on m _ (hF.up hS) (hS.cell (by simp) hm))) rfl ?_
      rintro _ w3 ⟨rfl, hT⟩
      replace e1 := e1.up hT
      replace hc1 := hc1.up hT
      replace hd1 := hd1.up hT
      replace hS := hS.trans hT
      clear hT
      cases hn_on : namedT q.on with
      | false =>
        repeat' (first | refine W1 ?_ | (exfalso; omega) | refine WL_split rfl rfl (fun hg => ?_) (fun hg => ?_) | refine WL_splitB rfl rfl (fun hg => ?_) (fun hg => ?_) | refine WC_cond rfl (fun hc => ?_) (fun hc => ?_) | refine WC_condB rfl (fun hc => ?_) (fun hc => ?_))
        all_goals (first | exact WQ_cut true ⟨rfl, rfl, rfl, trivial⟩ ⟨e1, hS, by simp [badC, *]⟩ | exact WQ_cut false ⟨rfl, rfl, rfl, trivial⟩ ⟨e1, hS, by simp [badC, *]⟩ | exact WQ_cut _ ⟨rfl, rfl, rfl, trivial⟩ ⟨e1, hS, by simp [badC, *]⟩)
      | true =>
        repeat' (first | refine W1 ?_ | (exfalso; omega) | refine WL_split rfl rfl (fun hg => ?_) (fun hg => ?_) | refine WL_splitB rfl rfl (fun hg => ?_) (fun hg => ?_) | refine WC_cond rfl (fun hc => ?_) (fun hc => ?_) | refine WC_condB rfl (fun hc => ?_) (fun hc => ?_))
        · refine W ?_
          refine WL_eff (OE_call rfl (evs1 rfl) (CNamed_any q.unl m _ (hF.up hS) (hS.cell (by simp) hm))) rfl ?_
          rintro _ w3 ⟨rfl, hT⟩
          replace e1 := e1.up hT
          replace hc1 := hc1.up hT
          replace hd1 := hd1.up hT
          replace hS := hS.trans hT
          clear hT
          cases hn_unl : namedT q.unl with
          | false =>
            repeat' (first | refine W1 ?_ | (exfalso; omega) | refine WL_split rfl rfl (fun hg => ?_) (fun hg => ?_) | refine WL_splitB rfl rfl (fun hg => ?_) (fun hg => ?_) | refine WC_cond rfl (fun hc => ?_) (fun hc => ?_) | refine WC_condB rfl (fun hc => ?_) (fun hc => ?_))
            all_goals (first | exact WQ_cut true ⟨rfl, rfl, rfl, trivial⟩ ⟨e1, hS, by simp [badC, *]⟩ | exact WQ_cut false ⟨rfl, rfl, rfl, trivial⟩ ⟨e1, hS, by simp [badC, *]⟩ | exact WQ_cut _ ⟨rfl, rfl, rfl, trivial⟩ ⟨e1, hS, by simp [badC, *]⟩)
          | true =>
            repeat' (first | refine W1 ?_ | (exfalso; omega) | refine WL_split rfl rfl (fun hg => ?_) (fun hg => ?_) | refine WL_splitB rfl rfl (fun hg => ?_) (fun hg => ?_) | refine WC_cond rfl (fun hc => ?_) (fun hc => ?_) | refine WC_condB rfl (fun hc => ?_) (fun hc => ?_))
            · refine W ?_
              refine WL_eff (OE_call rfl (evs1 rfl) (CNamed_any q.els m _ (hF.up hS) (hS.cell (by simp) hm))) rfl ?_
              rintro _ w3 ⟨rfl, hT⟩
              replace e1 := e1.up hT
              replace hc1 := hc1.up hT
              replace hd1 := hd1.up hT
              replace hS := hS.trans hT
              clear hT
              cases hn_els : namedT q.els with
              | false =>
                repeat' (first | refine W1 ?_ | (exfalso; omega) | refine WL_split rfl rfl (fun hg => ?_) (fun hg => ?_) | refine WL_splitB rfl rfl (fun hg => ?_) (fun hg => ?_) | refine WC_cond rfl (fun hc => ?_) (fun hc => ?_) | refine WC_condB rfl (fun hc => ?_) (fun hc => ?_))
                all_goals (first | exact WQ_cut true ⟨rfl, rfl, rfl, trivial⟩ ⟨e1, hS, by simp [badC, *]⟩ | exact WQ_cut false ⟨rfl, rfl, rfl, trivial⟩ ⟨e1, hS, by simp [badC, *]⟩ | exact WQ_cut _ ⟨rfl, rfl, rfl, trivial⟩ ⟨e1, hS, by simp [badC, *]⟩)
              | true =>
                repeat' (first | refine W1 ?_ | (exfalso; omega) | refine WL_split rfl rfl (fun hg => ?_) (fun hg => ?_) | refine WL_splitB rfl rfl (fun hg => ?_) (fun hg => ?_) | refine WC_cond rfl (fun hc => ?_) (fun hc => ?_) | refine WC_condB rfl (fun hc => ?_) (fun hc => ?_))
                all_goals (first | exact WQ_cut true ⟨rfl, rfl, rfl, trivial⟩ ⟨e1, hS, by simp [badC, *]⟩ | exact WQ_cut false ⟨rfl, rfl, rfl, trivial⟩ ⟨e1, hS, by simp [badC, *]⟩ | exact WQ_cut _ ⟨rfl, rfl, rfl, trivial⟩ ⟨e1, hS, by simp [badC, *]⟩)
            all_goals (first | exact WQ_cut true ⟨rfl, rfl, rfl, trivial⟩ ⟨e1, hS, by simp [badC, *]⟩ | exact WQ_cut false ⟨rfl, rfl, rfl, trivial⟩ ⟨e1, hS, by simp [badC, *]⟩ | exact WQ_cut _ ⟨rfl, rfl, rfl, trivial⟩ ⟨e1, hS, by simp [badC, *]⟩)
        · refine W ?_
          refine WL_eff (OE_call rfl (evs1 rfl) (CNamed_any q.els m _ (hF.up hS) (hS.cell (by simp) hm))) rfl ?_
          rintro _ w3 ⟨rfl, hT⟩
          replace e1 := e1.up hT
          replace hc1 := hc1.up hT
          replace hd1 := hd1.up hT
          replace hS := hS.trans hT
          clear hT
          cases hn_els : namedT q.els with
          | false =>
            repeat' (first | refine W1 ?_ | (exfalso; omega) | refine WL_split rfl rfl (fun hg => ?_) (fun hg => ?_) | refine WL_splitB rfl rfl (fun hg => ?_) (fun hg => ?_) | refine WC_cond rfl (fun hc => ?_) (fun hc => ?_) | refine WC_condB rfl (fun hc => ?_) (fun hc => ?_))
            all_goals (first | exact WQ_cut true ⟨rfl, rfl, rfl, trivial⟩ ⟨e1, hS, by simp [badC, *]⟩ | exact WQ_cut false ⟨rfl, rfl, rfl, trivial⟩ ⟨e1, hS, by simp [badC, *]⟩ | exact WQ_cut _ ⟨rfl, rfl, rfl, trivial⟩ ⟨e1, hS, by simp [badC, *]⟩)
          | true =>
            repeat' (first | refine W1 ?_ | (exfalso; omega) | refine WL_split rfl rfl (fun hg => ?_) (fun hg => ?_) | refine WL_splitB rfl rfl (fun hg => ?_) (fun hg => ?_) | refine WC_cond rfl (fun hc => ?_) (fun hc => ?_) | refine WC_condB rfl (fun hc => ?_) (fun hc => ?_))
            all_goals (first | exact WQ_cut true ⟨rfl, rfl, rfl, trivial⟩ ⟨e1, hS, by simp [badC, *]⟩ | exact WQ_cut false ⟨rfl, rfl, rfl, trivial⟩ ⟨e1, hS, by simp [badC, *]⟩ | exact WQ_cut _ ⟨rfl, rfl, rfl, trivial⟩ ⟨e1, hS, by simp [badC, *]⟩)
        all_goals (first | exact WQ_cut true ⟨rfl, rfl, rfl, trivial⟩ ⟨e1, hS, by simp [badC, *]⟩ | exact WQ_cut false ⟨rfl, rfl, rfl, trivial⟩ ⟨e1, hS, by simp [badC, *]⟩ | exact WQ_cut _ ⟨rfl, rfl, rfl, trivial⟩ ⟨e1, hS, by simp [badC, *]⟩)
  rintro u w4 ⟨e1, hS, hu⟩
  try dsimp only at hu ⊢
  unfold chkC
  rw [← hu]
  cases u with
  | true =>
    repeat' (first | refine W1 ?_ | (exfalso; omega) | refine WL_split rfl rfl (fun hg => ?_) (fun hg => ?_) | refine WL_splitB rfl rfl (fun hg => ?_) (fun hg => ?_) | refine WC_cond rfl (fun hc => ?_) (fun hc => ?_) | refine WC_condB rfl (fun hc => ?_) (fun hc => ?_))
    first | refine WQ_ret1 rfl rfl ?_ | refine WQ_ret2 rfl rfl rfl ?_ | refine WQ_ret3 rfl rfl rfl rfl ?_ | refine WQ_ret0 rfl ?_ | refine WQ_end0 rfl ?_
    exact .mk ⟨rfl, hS⟩
  | false =>
    repeat' (first | refine W1 ?_ | (exfalso; omega) | refine WL_split rfl rfl (fun hg => ?_) (fun hg => ?_) | refine WL_splitB rfl rfl (fun hg => ?_) (fun hg => ?_) | refine WC_cond rfl (fun hc => ?_) (fun hc => ?_) | refine WC_condB rfl (fun hc => ?_) (fun hc => ?_))
    first | refine WQ_ret1 rfl rfl ?_ | refine WQ_ret2 rfl rfl rfl ?_ | refine WQ_ret3 rfl rfl rfl rfl ?_ | refine WQ_ret0 rfl ?_ | refine WQ_end0 rfl ?_
    exact .mk ⟨rfl, hS⟩
def okC (q : Cr) : Bool := namedT q.name && namedT q.on && (decide (q.unl = []) || namedT q.unl) && (decide (q.els = []) || namedT q.els)
theorem badC_eq (q : Cr) : badC q = (!okC q || decide (q.frm < 0) || decide (q.frm > 3652058) || decide ((verM q.cnd).2 ≠ 0) || decide ((verM q.due).2 ≠ 0) || decide ((verM q.cnd).1 ≠ 2) || decide ((verM q.due).1 ≠ 3)) := by
  unfold badC okC
  generalize decide ((verM q.cnd).2 ≠ 0) = a1
  generalize decide ((verM q.due).2 ≠ 0) = a2
  generalize decide ((verM q.cnd).1 ≠ 2) = a3
  generalize decide ((verM q.due).1 ≠ 3) = a4
  generalize decide (q.frm < 0) = a5
  generalize decide (q.frm > 3652058) = a6
  generalize namedT q.name = a7
  generalize namedT q.on = a8
  generalize namedT q.unl = a9
  generalize namedT q.els = b1
  have h1 : decide (q.unl ≠ []) = !decide (q.unl = []) := by simp
  have h2 : decide (q.els ≠ []) = !decide (q.els = []) := by simp
  rw [h1, h2]
  generalize decide (q.unl = []) = b2
  generalize decide (q.els = []) = b3
  simp only [Bool.not_and, Bool.not_or]
  ac_rfl
theorem CheckCR_any (v : Value) (q : Cr) (w : World) (hv : CrV [] w v q) :
    Calls Tryd.prog 53 #[v] w (Ret fun r w' => r = .int .i64 (chkC q) ∧ Stp [] w w') := by
  obtain ⟨kc, kd, rfl, hc1, hd1⟩ := hv
  refine calls_of_WC1 (n := 76) Tryd.func53 rfl rfl rfl ?_
  refine W ?_
  refine WL_eff (OE_box rfl) rfl ?_
  rintro _ w1 ⟨b, rfl, hb, e1, hS⟩
  replace e1 : Blk w1 b 42 (crC q kc kd) := e1
  replace hc1 := hc1.up hS
  replace hd1 := hd1.up hS
  clear hb
  refine W ?_
  refine WL_eff (OE_call rfl (evs1 rfl) (VerifyR_any _ q.cnd _ hc1)) rfl ?_
  rintro _ w2 ⟨rfl, hT⟩
  replace e1 := e1.up hT
  replace hc1 := hc1.up hT
  replace hd1 := hd1.up hT
  replace hS := hS.trans hT
  clear hT
  refine W ?_
  refine WL_eff (OE_call rfl (evs1 rfl) (VerifyR_any _ q.due _ hd1)) rfl ?_
  rintro _ w2 ⟨rfl, hT⟩
  replace e1 := e1.up hT
  replace hc1 := hc1.up hT
  replace hd1 := hd1.up hT
  replace hS := hS.trans hT
  clear hT
  refine W ?_
  refine WL_cutQ (σ := Bool) (fun u => [(1, .pointer (some ⟨b, 0, none⟩)), (2, .int .i64 0), (3, .int .i64 (verM q.cnd).1), (4, .int .i64 (verM q.cnd).2), (5, .int .i64 (verM q.due).1), (6, .int .i64 (verM q.due).2), (7, .bool u)]) (fun u w' => Blk w' b 42 (crC q kc kd) ∧ Stp [] w w' ∧ u = okC q) ?_ ?_
  · refine W ?_
    refine WL_eff (OE_call rfl (evs1 rfl) (Named14_any q.name _)) rfl ?_
    rintro _ w3 ⟨rfl, hT⟩
    replace e1 := e1.up hT
    replace hc1 := hc1.up hT
    replace hd1 := hd1.up hT
    replace hS := hS.trans hT
    clear hT
    cases hn_name : namedT q.name with
    | false =>
      repeat' (first | refine W1 ?_ | (exfalso; omega) | refine WL_split rfl rfl (fun hg => ?_) (fun hg => ?_) | refine WL_splitB rfl rfl (fun hg => ?_) (fun hg => ?_) | refine WC_cond rfl (fun hc => ?_) (fun hc => ?_) | refine WC_condB rfl (fun hc => ?_) (fun hc => ?_))
      all_goals (first | exact WQ_cut true ⟨rfl, rfl, rfl, rfl, rfl, rfl, rfl, trivial⟩ ⟨e1, hS, by simp [okC, *]⟩ | exact WQ_cut false ⟨rfl, rfl, rfl, rfl, rfl, rfl, rfl, trivial⟩ ⟨e1, hS, by simp [okC, *]⟩ | exact WQ_cut _ ⟨rfl, rfl, rfl, rfl, rfl, rfl, rfl, trivial⟩ ⟨e1, hS, by simp [okC, *]⟩)
    | true =>
      refine W ?_
      refine WL_eff (OE_call rfl (evs1 rfl) (Named14_any q.on _)) rfl ?_
      rintro _ w3 ⟨rfl, hT⟩
      replace e1 := e1.up hT
      replace hc1 := hc1.up hT
      replace hd1 := hd1.up hT
      replace hS := hS.trans hT
      clear hT
      cases hn_on : namedT q.on with
      | false =>
        repeat' (first | refine W1 ?_ | (exfalso; omega) | refine WL_split rfl rfl (fun hg => ?_) (fun hg => ?_) | refine WL_splitB rfl rfl (fun hg => ?_) (fun hg => ?_) | refine WC_cond rfl (fun hc => ?_) (fun hc => ?_) | refine WC_condB rfl (fun hc => ?_) (fun hc => ?_))
        all_goals (first | exact WQ_cut true ⟨rfl, rfl, rfl, rfl, rfl, rfl, rfl, trivial⟩ ⟨e1, hS, by simp [okC, *]⟩ | exact WQ_cut false ⟨rfl, rfl, rfl, rfl, rfl, rfl, rfl, trivial⟩ ⟨e1, hS, by simp [okC, *]⟩ | exact WQ_cut _ ⟨rfl, rfl, rfl, rfl, rfl, rfl, rfl, trivial⟩ ⟨e1, hS, by simp [okC, *]⟩)
      | true =>
        by_cases hu : q.unl = []
        · repeat' (first | refine W1 ?_ | (exfalso; omega) | refine WL_split rfl rfl (fun hg => ?_) (fun hg => ?_) | refine WL_splitB rfl rfl (fun hg => ?_) (fun hg => ?_) | refine WC_cond rfl (fun hc => ?_) (fun hc => ?_) | refine WC_condB rfl (fun hc => ?_) (fun hc => ?_))
          all_goals try contradiction
          all_goals try (first | exact WQ_cut true ⟨rfl, rfl, rfl, rfl, rfl, rfl, rfl, trivial⟩ ⟨e1, hS, by simp [okC, *]⟩ | exact WQ_cut false ⟨rfl, rfl, rfl, rfl, rfl, rfl, rfl, trivial⟩ ⟨e1, hS, by simp [okC, *]⟩ | exact WQ_cut _ ⟨rfl, rfl, rfl, rfl, rfl, rfl, rfl, trivial⟩ ⟨e1, hS, by simp [okC, *]⟩)
          by_cases he : q.els = []
          · repeat' (first | refine W1 ?_ | (exfalso; omega) | refine WL_split rfl rfl (fun hg => ?_) (fun hg => ?_) | refine WL_splitB rfl rfl (fun hg => ?_) (fun hg => ?_) | refine WC_cond rfl (fun hc => ?_) (fun hc => ?_) | refine WC_condB rfl (fun hc => ?_) (fun hc => ?_))
            all_goals try contradiction
            all_goals (first | exact WQ_cut true ⟨rfl, rfl, rfl, rfl, rfl, rfl, rfl, trivial⟩ ⟨e1, hS, by simp [okC, *]⟩ | exact WQ_cut false ⟨rfl, rfl, rfl, rfl, rfl, rfl, rfl, trivial⟩ ⟨e1, hS, by simp [okC, *]⟩ | exact WQ_cut _ ⟨rfl, rfl, rfl, rfl, rfl, rfl, rfl, trivial⟩ ⟨e1, hS, by simp [okC, *]⟩)
          repeat' (first | refine W1 ?_ | (exfalso; omega) | refine WL_split rfl rfl (fun hg => ?_) (fun hg => ?_) | refine WL_splitB rfl rfl (fun hg => ?_) (fun hg => ?_) | refine WC_cond rfl (fun hc => ?_) (fun hc => ?_) | refine WC_condB rfl (fun hc => ?_) (fun hc => ?_))
          all_goals try contradiction
          all_goals try (first | exact WQ_cut true ⟨rfl, rfl, rfl, rfl, rfl, rfl, rfl, trivial⟩ ⟨e1, hS, by simp [okC, *]⟩ | exact WQ_cut false ⟨rfl, rfl, rfl, rfl, rfl, rfl, rfl, trivial⟩ ⟨e1, hS, by simp [okC, *]⟩ | exact WQ_cut _ ⟨rfl, rfl, rfl, rfl, rfl, rfl, rfl, trivial⟩ ⟨e1, hS, by simp [okC, *]⟩)
          refine W ?_
          refine WL_eff (OE_call rfl (evs1 rfl) (Named14_any q.els _)) rfl ?_
          rintro _ w3 ⟨rfl, hT⟩
          replace e1 := e1.up hT
          replace hc1 := hc1.up hT
          replace hd1 := hd1.up hT
          replace hS := hS.trans hT
          clear hT
          cases hn_els : namedT q.els with
          | false =>
            repeat' (first | refine W1 ?_ | (exfalso; omega) | refine WL_split rfl rfl (fun hg => ?_) (fun hg => ?_) | refine WL_splitB rfl rfl (fun hg => ?_) (fun hg => ?_) | refine WC_cond rfl (fun hc => ?_) (fun hc => ?_) | refine WC_condB rfl (fun hc => ?_) (fun hc => ?_))
            all_goals (first | exact WQ_cut true ⟨rfl, rfl, rfl, rfl, rfl, rfl, rfl, trivial⟩ ⟨e1, hS, by simp [okC, *]⟩ | exact WQ_cut false ⟨rfl, rfl, rfl, rfl, rfl, rfl, rfl, trivial⟩ ⟨e1, hS, by simp [okC, *]⟩ | exact WQ_cut _ ⟨rfl, rfl, rfl, rfl, rfl, rfl, rfl, trivial⟩ ⟨e1, hS, by simp [okC, *]⟩)
          | true =>
            repeat' (first | refine W1 ?_ | (exfalso; omega) | refine WL_split rfl rfl (fun hg => ?_) (fun hg => ?_) | refine WL_splitB rfl rfl (fun hg => ?_) (fun hg => ?_) | refine WC_cond rfl (fun hc => ?_) (fun hc => ?_) | refine WC_condB rfl (fun hc => ?_) (fun hc => ?_))
            all_goals (first | exact WQ_cut true ⟨rfl, rfl, rfl, rfl, rfl, rfl, rfl, trivial⟩ ⟨e1, hS, by simp [okC, *]⟩ | exact WQ_cut false ⟨rfl, rfl, rfl, rfl, rfl, rfl, rfl, trivial⟩ ⟨e1, hS, by simp [okC, *]⟩ | exact WQ_cut _ ⟨rfl, rfl, rfl, rfl, rfl, rfl, rfl, trivial⟩ ⟨e1, hS, by simp [okC, *]⟩)
        repeat' (first | refine W1 ?_ | (exfalso; omega) | refine WL_split rfl rfl (fun hg => ?_) (fun hg => ?_) | refine WL_splitB rfl rfl (fun hg => ?_) (fun hg => ?_) | refine WC_cond rfl (fun hc => ?_) (fun hc => ?_) | refine WC_condB rfl (fun hc => ?_) (fun hc => ?_))
        all_goals try contradiction
        all_goals try (first | exact WQ_cut true ⟨rfl, rfl, rfl, rfl, rfl, rfl, rfl, trivial⟩ ⟨e1, hS, by simp [okC, *]⟩ | exact WQ_cut false ⟨rfl, rfl, rfl, rfl, rfl, rfl, rfl, trivial⟩ ⟨e1, hS, by simp [okC, *]⟩ | exact WQ_cut _ ⟨rfl, rfl, rfl, rfl, rfl, rfl, rfl, trivial⟩ ⟨e1, hS, by simp [okC, *]⟩)
        refine W ?_
        refine WL_eff (OE_call rfl (evs1 rfl) (Named14_any q.unl _)) rfl ?_
        rintro _ w3 ⟨rfl, hT⟩
        replace e1 := e1.up hT
        replace hc1 := hc1.up hT
        replace hd1 := hd1.up hT
        replace hS := hS.trans hT
        clear hT
        cases hn_unl : namedT q.unl with
        | false =>
          repeat' (first | refine W1 ?_ | (exfalso; omega) | refine WL_split rfl rfl (fun hg => ?_) (fun hg => ?_) | refine WL_splitB rfl rfl (fun hg => ?_) (fun hg => ?_) | refine WC_cond rfl (fun hc => ?_) (fun hc => ?_) | refine WC_condB rfl (fun hc => ?_) (fun hc => ?_))
          all_goals (first | exact WQ_cut true ⟨rfl, rfl, rfl, rfl, rfl, rfl, rfl, trivial⟩ ⟨e1, hS, by simp [okC, *]⟩ | exact WQ_cut false ⟨rfl, rfl, rfl, rfl, rfl, rfl, rfl, trivial⟩ ⟨e1, hS, by simp [okC, *]⟩ | exact WQ_cut _ ⟨rfl, rfl, rfl, rfl, rfl, rfl, rfl, trivial⟩ ⟨e1, hS, by simp [okC, *]⟩)
        | true =>
          by_cases he : q.els = []
          · repeat' (first | refine W1 ?_ | (exfalso; omega) | refine WL_split rfl rfl (fun hg => ?_) (fun hg => ?_) | refine WL_splitB rfl rfl (fun hg => ?_) (fun hg => ?_) | refine WC_cond rfl (fun hc => ?_) (fun hc => ?_) | refine WC_condB rfl (fun hc => ?_) (fun hc => ?_))
            all_goals try contradiction
            all_goals (first | exact WQ_cut true ⟨rfl, rfl, rfl, rfl, rfl, rfl, rfl, trivial⟩ ⟨e1, hS, by simp [okC, *]⟩ | exact WQ_cut false ⟨rfl, rfl, rfl, rfl, rfl, rfl, rfl, trivial⟩ ⟨e1, hS, by simp [okC, *]⟩ | exact WQ_cut _ ⟨rfl, rfl, rfl, rfl, rfl, rfl, rfl, trivial⟩ ⟨e1, hS, by simp [okC, *]⟩)
          repeat' (first | refine W1 ?_ | (exfalso; omega) | refine WL_split rfl rfl (fun hg => ?_) (fun hg => ?_) | refine WL_splitB rfl rfl (fun hg => ?_) (fun hg => ?_) | refine WC_cond rfl (fun hc => ?_) (fun hc => ?_) | refine WC_condB rfl (fun hc => ?_) (fun hc => ?_))
          all_goals try contradiction
          all_goals try (first | exact WQ_cut true ⟨rfl, rfl, rfl, rfl, rfl, rfl, rfl, trivial⟩ ⟨e1, hS, by simp [okC, *]⟩ | exact WQ_cut false ⟨rfl, rfl, rfl, rfl, rfl, rfl, rfl, trivial⟩ ⟨e1, hS, by simp [okC, *]⟩ | exact WQ_cut _ ⟨rfl, rfl, rfl, rfl, rfl, rfl, rfl, trivial⟩ ⟨e1, hS, by simp [okC, *]⟩)
          refine W ?_
          refine WL_eff (OE_call rfl (evs1 rfl) (Named14_any q.els _)) rfl ?_
          rintro _ w3 ⟨rfl, hT⟩
          replace e1 := e1.up hT
          replace hc1 := hc1.up hT
          replace hd1 := hd1.up hT
          replace hS := hS.trans hT
          clear hT
          cases hn_els : namedT q.els with
          | false =>
            repeat' (first | refine W1 ?_ | (exfalso; omega) | refine WL_split rfl rfl (fun hg => ?_) (fun hg => ?_) | refine WL_splitB rfl rfl (fun hg => ?_) (fun hg => ?_) | refine WC_cond rfl (fun hc => ?_) (fun hc => ?_) | refine WC_condB rfl (fun hc => ?_) (fun hc => ?_))
            all_goals (first | exact WQ_cut true ⟨rfl, rfl, rfl, rfl, rfl, rfl, rfl, trivial⟩ ⟨e1, hS, by simp [okC, *]⟩ | exact WQ_cut false ⟨rfl, rfl, rfl, rfl, rfl, rfl, rfl, trivial⟩ ⟨e1, hS, by simp [okC, *]⟩ | exact WQ_cut _ ⟨rfl, rfl, rfl, rfl, rfl, rfl, rfl, trivial⟩ ⟨e1, hS, by simp [okC, *]⟩)
          | true =>
            repeat' (first | refine W1 ?_ | (exfalso; omega) | refine WL_split rfl rfl (fun hg => ?_) (fun hg => ?_) | refine WL_splitB rfl rfl (fun hg => ?_) (fun hg => ?_) | refine WC_cond rfl (fun hc => ?_) (fun hc => ?_) | refine WC_condB rfl (fun hc => ?_) (fun hc => ?_))
            all_goals (first | exact WQ_cut true ⟨rfl, rfl, rfl, rfl, rfl, rfl, rfl, trivial⟩ ⟨e1, hS, by simp [okC, *]⟩ | exact WQ_cut false ⟨rfl, rfl, rfl, rfl, rfl, rfl, rfl, trivial⟩ ⟨e1, hS, by simp [okC, *]⟩ | exact WQ_cut _ ⟨rfl, rfl, rfl, rfl, rfl, rfl, rfl, trivial⟩ ⟨e1, hS, by simp [okC, *]⟩)
  rintro u w4 ⟨e1, hS, hu⟩
  try dsimp only at hu ⊢
  have hb := badC_eq q
  rw [← hu] at hb
  unfold chkC
  rw [hb]
  clear hu hb
  cases u with
  | false =>
    repeat' (first | refine W1 ?_ | (exfalso; omega) | refine WL_split rfl rfl (fun hg => ?_) (fun hg => ?_) | refine WL_splitB rfl rfl (fun hg => ?_) (fun hg => ?_) | refine WC_cond rfl (fun hc => ?_) (fun hc => ?_) | refine WC_condB rfl (fun hc => ?_) (fun hc => ?_))
    first | refine WQ_ret1 rfl rfl ?_ | refine WQ_ret2 rfl rfl rfl ?_ | refine WQ_ret3 rfl rfl rfl rfl ?_ | refine WQ_ret0 rfl ?_ | refine WQ_end0 rfl ?_
    exact .mk ⟨by simp, hS⟩
  | true =>
    repeat' (first | refine W1 ?_ | (exfalso; omega) | refine WL_split rfl rfl (fun hg => ?_) (fun hg => ?_) | refine WL_splitB rfl rfl (fun hg => ?_) (fun hg => ?_) | refine WC_cond rfl (fun hc => ?_) (fun hc => ?_) | refine WC_condB rfl (fun hc => ?_) (fun hc => ?_))
    all_goals
      first | refine WQ_ret1 rfl rfl ?_ | refine WQ_ret2 rfl rfl rfl ?_ | refine WQ_ret3 rfl rfl rfl rfl ?_ | refine WQ_ret0 rfl ?_ | refine WQ_end0 rfl ?_
      exact .mk ⟨by simp [*], hS⟩
end Go.Proofs.YtgpibcgebpgmiaaDoor


namespace Go.Proofs.YtgpibcgebpgmiaaDoor
open Go Go.Eng Go.RowKit
set_option linter.unusedVariables false
/-- a code as numbers -/
def flatF (l : List Ins) : List Int := l.flatMap fun x => [x.op, x.n]
theorem flatF_len (l : List Ins) : (flatF l).length = 2 * l.length := by
  unfold flatF
  induction l with
  | nil => rfl
  | cons a l ih => simp only [List.flatMap_cons, List.length_append, List.length_cons, List.length_nil, ih]; omega
theorem flatF_succ (l : List Ins) (j : Nat) (h : j < l.length) : flatF (l.take (j + 1)) = flatF (l.take j) ++ [l[j].op, l[j].n] := by
  unfold flatF
  rw [List.take_succ_eq_append_getElem h, List.flatMap_append]
  simp
theorem Flat_any (v : Value) (l : List Ins) (w : World) (hlen : l.length ≤ 100000) (hs : SlV [] w v l) :
    Calls Tryd.prog 58 #[v] w (Ret fun r w' => Row [] w' w.heap.size 3 r (flatF l) ∧ Stp [] w w') := by
  have hmax := hs.max
  refine calls_of_WC1 (n := 21) Tryd.func58 rfl rfl rfl ?_
  refine W ?_
  have hs0 := hs
  refine WC_loop (σ := Nat × Value) (fun q => [(3, q.2), (6, v), (7, .int .i64 (l.length : Int)), (8, .int .i64 (q.1 : Int))]) (fun q w' => q.1 ≤ l.length ∧ Row [] w' w.heap.size 3 q.2 (flatF (l.take q.1)) ∧ Stp [] w w') (fun q => l.length - q.1) (0, .slice none 0 0) ⟨rfl, rfl, rfl, rfl, trivial⟩ ⟨Nat.zero_le _, Row.nil, Stp.refl _ _⟩ ?_
  clear hs
  rintro ⟨j, u⟩ w2 ⟨hj, hrow, hS⟩
  dsimp only at hj hrow ⊢
  have hs := hs0.up hS
  by_cases hlt : j < l.length
  · repeat' (first | refine W1 ?_ | (exfalso; omega) | refine WL_split rfl rfl (fun hg => ?_) (fun hg => ?_) | refine WL_splitB rfl rfl (fun hg => ?_) (fun hg => ?_) | refine WC_cond rfl (fun hc => ?_) (fun hc => ?_) | refine WC_condB rfl (fun hc => ?_) (fun hc => ?_))
    refine WL_eff OE_alloc rfl ?_
    rintro _ w3 ⟨b5, rfl, hb5, e0, hT⟩
    refine WL_eff0 (OE_storeA (us := Flat.enc l[j]) rfl rfl rfl rfl (Flat.one _) e0 rfl) ?_
    rintro _ w4 ⟨hT2, e5⟩
    replace hT := hT.own hT2 (fun b hb => .inr (by simp at hb; omega))
    clear hT2 e0 hb5
    replace hrow := hrow.up hT
    replace hS := hS.trans hT
    clear hT
    refine W ?_
    refine WL_eff (OE_buildSlice (vs := [(0, .int .i64 l[j].op), (1, .int .i64 l[j].n)]) rfl (buildSI2 _ _)) rfl ?_
    rintro bv w5 hN
    have hbv : SlV (ob u ++ []) w5 bv [l[j].op, l[j].n] := hN.slv (fun b hb => (hrow.ob_le b (by simpa using hb)).2) rfl rfl (by simp [maxLen])
    have hT := NewSl.stp hN
    clear hN
    replace hrow := hrow.up hT
    replace hS := hS.trans hT
    clear hT
    have hbase := hS.size
    have hfl := flatF_len (l.take j)
    rw [List.length_take, Nat.min_eq_left hj] at hfl
    refine WL_eff (OE_append (X := []) (base := w.heap.size) rfl (by decide) rfl rfl hrow hbv (by simp only [List.length_cons, List.length_nil]; omega) (by simp only [List.length_cons, List.length_nil, maxLen]; omega) hbase) rfl ?_
    rintro u' w6 ⟨hrow', hT, _⟩
    have hown : ∀ b ∈ ob u, b ∈ ([] : List Nat) ∨ w.heap.size ≤ b := fun c hc => .inr (hrow.ob_le c hc).1
    refine W ?_
    exact WQ_loop (j + 1, u') ⟨rfl, rfl, rfl, rfl, trivial⟩ ⟨hlt, by dsimp only; rw [flatF_succ l j hlt]; exact hrow', hS.own hT hown⟩ (by dsimp only; omega)
  · have hje : j = l.length := by omega
    subst hje
    rw [List.take_length] at hrow
    repeat' (first | refine W1 ?_ | (exfalso; omega) | refine WL_split rfl rfl (fun hg => ?_) (fun hg => ?_) | refine WL_splitB rfl rfl (fun hg => ?_) (fun hg => ?_) | refine WC_cond rfl (fun hc => ?_) (fun hc => ?_) | refine WC_condB rfl (fun hc => ?_) (fun hc => ?_))
    first | refine WQ_ret1 rfl rfl ?_ | refine WQ_ret2 rfl rfl rfl ?_ | refine WQ_ret3 rfl rfl rfl rfl ?_ | refine WQ_ret0 rfl ?_ | refine WQ_end0 rfl ?_
    exact .mk ⟨hrow, hS⟩
end Go.Proofs.YtgpibcgebpgmiaaDoor


/-
The walk engine, part 18: numbers of other kinds: conversions, bits, shifts; strings out of bytes; append of a string to bytes.
-/
namespace Go.Eng
open Go Go.RowKit Go.Proofs
set_option linter.unusedVariables false
section
variable {P : Program} {n : Nat} {e : Env} {w : World} {d : Option Nat} {ty : TypeId} {pos : String} {af : Array Edge} {g : Option (Nat × Bool)}
theorem PR_conv {src dst : TypeId} {k k' : IntKind} {x : Operand} {a : Int} {D : TypeDesc} [hs : Und P src D] [hd : Und P dst (.int k)] (hx : ev e x = some (.int k' a)) :
    PR P n ⟨d, .convert src dst x, ty, pos, af, g⟩ e w (.int k (k.wrap a)) :=
  ⟨fun c ha => by
    have hk : P.intKind dst = k := by simp [Program.intKind, hd.h]
    have := run_convert_int (P := P) w src dst k' a (by rw [hs.h]; rfl) (by rw [hk]; exact hd.h)
    simp [execOp, ha.ev hx, this, hk]⟩
theorem PR_convTo {src dst : TypeId} {k k' : IntKind} {x : Operand} {a b : Int} {D : TypeDesc} [hs : Und P src D] [hd : Und P dst (.int k)] (hx : ev e x = some (.int k' a)) (hb : k.wrap a = b) :
    PR P n ⟨d, .convert src dst x, ty, pos, af, g⟩ e w (.int k b) := hb ▸ PR_conv hx
section
variable {x y : Operand} {t u : TypeId} {k : IntKind} {a b : Int}
theorem PR_and (hx : ev e x = some (.int k a)) (hy : ev e y = some (.int k b)) {r : Int} (hr : Go.bits .and k a b = r) : PR P n ⟨d, .binOp .and t x y u, ty, pos, af, g⟩ e w (.int k r) :=
  ⟨fun c ha => by simp only [execOp, ha.ev hx, ha.ev hy]; simp [go_sem, hr]⟩
theorem PR_or (hx : ev e x = some (.int k a)) (hy : ev e y = some (.int k b)) {r : Int} (hr : Go.bits .or k a b = r) : PR P n ⟨d, .binOp .or t x y u, ty, pos, af, g⟩ e w (.int k r) :=
  ⟨fun c ha => by simp only [execOp, ha.ev hx, ha.ev hy]; simp [go_sem, hr]⟩
theorem PR_xor (hx : ev e x = some (.int k a)) (hy : ev e y = some (.int k b)) {r : Int} (hr : Go.bits .xor k a b = r) : PR P n ⟨d, .binOp .xor t x y u, ty, pos, af, g⟩ e w (.int k r) :=
  ⟨fun c ha => by simp only [execOp, ha.ev hx, ha.ev hy]; simp [go_sem, hr]⟩
theorem PR_shl {yk : IntKind} {s : Nat} (hx : ev e x = some (.int k a)) (hy : ev e y = some (.int yk (s : Int))) (hs : s ≤ k.bits) {r : Int} (hr : k.wrap (a * 2 ^ s) = r) : PR P n ⟨d, .binOp .shl t x y u, ty, pos, af, g⟩ e w (.int k r) :=
  ⟨fun c ha => by
    have h := shift_shl k yk a (s : Int) (by omega) (by omega)
    rw [Int.toNat_natCast, hr] at h
    simp only [execOp, ha.ev hx, ha.ev hy]
    simp [go_sem, binOp, h]⟩
theorem PR_shr {yk : IntKind} {s : Nat} (hx : ev e x = some (.int k a)) (hy : ev e y = some (.int yk (s : Int))) (hs : s ≤ k.bits) {r : Int} (hr : a / 2 ^ s = r) : PR P n ⟨d, .binOp .shr t x y u, ty, pos, af, g⟩ e w (.int k r) :=
  ⟨fun c ha => by
    have h := shift_shr k yk a (s : Int) (by omega) (by omega)
    rw [Int.toNat_natCast, hr] at h
    simp only [execOp, ha.ev hx, ha.ev hy]
    simp [go_sem, binOp, h]⟩
theorem PR_addK (hx : ev e x = some (.int k a)) (hy : ev e y = some (.int k b)) {r : Int} (hr : k.wrap (a + b) = r) : PR P n ⟨d, .binOp .add t x y u, ty, pos, af, g⟩ e w (.int k r) :=
  ⟨fun c ha => by simp only [execOp, ha.ev hx, ha.ev hy]; simp [go_sem, Op.intArith, hr]⟩
theorem PR_mulK (hx : ev e x = some (.int k a)) (hy : ev e y = some (.int k b)) {r : Int} (hr : k.wrap (a * b) = r) : PR P n ⟨d, .binOp .mul t x y u, ty, pos, af, g⟩ e w (.int k r) :=
  ⟨fun c ha => by simp only [execOp, ha.ev hx, ha.ev hy]; simp [go_sem, Op.intArith, hr]⟩
theorem PR_remK (hx : ev e x = some (.int k a)) (hy : ev e y = some (.int k b)) (hb : b ≠ 0) {r : Int} (hr : a.tmod b = r) : PR P n ⟨d, .binOp .rem t x y u, ty, pos, af, g⟩ e w (.int k r) :=
  ⟨fun c ha => by simp only [execOp, ha.ev hx, ha.ev hy]; simp [go_sem, Op.intDiv, hb]; try rw [hr]⟩
theorem PR_quoK (hx : ev e x = some (.int k a)) (hy : ev e y = some (.int k b)) (hb : b ≠ 0) {r : Int} (hr : k.wrap (a.tdiv b) = r) : PR P n ⟨d, .binOp .quo t x y u, ty, pos, af, g⟩ e w (.int k r) :=
  ⟨fun c ha => by simp only [execOp, ha.ev hx, ha.ev hy]; simp [go_sem, Op.intDiv, hb]; try rw [hr]⟩
end
/-- bytes as the cells of a string -/
theorem strCells_enc (s : Str) : Lib.strCells ⟨s.toArray⟩ = s.flatMap Flat.enc := by
  show s.map _ = _
  induction s with
  | nil => rfl
  | cons b s ih => rw [List.map_cons, ih, List.flatMap_cons]; rfl

theorem append_blockT {t tu T base : Nat} {i : TypeInfo} (ht : P.underlying t = some (.slice T)) (hu : P.underlying tu = some .string) (hi : P.info? T = some i) (hz : i.zero = some (.int .u8 0))
    (hsize : i.size = 1) (hby : i.bytes = 1) {v : Value} {m : Nat} {xs : List Value} (hown : w.ownsRow base T 1 v m xs) (s : ByteArray) (hlen : m + s.size ≤ 140737488355328) {v' : Value} {w' : World}
    (hr : (Builtin.append_ #[t, tu] ty #[v, .string s]).run P w = .ok v' w') : ∀ b ∈ ob v', b ∈ ob v ∨ w.heap.size ≤ b := by
  have hxl : xs.length = m := by simpa using hown.1
  rcases hown.2 with ⟨rfl, rfl⟩ | ⟨g, cap, cur, rfl, hbg, hg, hnc, hcm, hcs, htake⟩
  · by_cases hm : s.size = 0
    · have hf := Lib.run_firstCells_string (P := P) w 1 s
      rw [hm] at hf
      have : (Builtin.append_ #[t, tu] ty #[.slice none 0 0, .string s]).run P w = .ok (.slice none 0 0) w := by
        simp [Builtin.append_, run_underlying ht, run_underlying hu, sizeOf, typeInfo, hi, hsize, Builtin.lenOf, hm, hf]
      rw [this] at hr
      cases hr
      simp [ob]
    · have h := run_append_nil_string (P := P) w t tu ty T i (.int .u8 0) ht hu hi hz s (by omega) (by omega) (by rw [hby]; omega)
      rw [h] at hr
      cases hr
      simp [ob]
  · by_cases hroom : m + s.size ≤ cap
    · have hcs' : cur.size = cap := by simpa using hcs
      have h := Lib.run_append_room_string (P := P) w t tu ty T i ht hu hi hsize g m cap cur hg s hroom (by omega)
      rw [h] at hr
      cases hr
      simp [ob]
    · have holds : ∀ j u, xs[j]? = some u → w.cell? ((⟨g, 0, none⟩ : Addr).add j) = some u := hown.cells (g := g) rfl
      have h := Lib.run_append_grow_string (P := P) w t tu ty T i (.int .u8 0) ht hu hi hz ⟨g, 0, none⟩ m cap xs (by rw [hsize]; simpa using hxl) holds s (by omega) (by omega) (by rw [hby]; exact growslice_fits (by omega) (by omega))
      rw [h] at hr
      cases hr
      simp [ob]
/-- append of a string to a row of bytes -/
theorem OE_appendT {t tu T base : Nat} {X : List Nat} {x y : Operand} {v : Value} {xs : List UInt8} {s : Str} [ht : Und P t (.slice T)] [hu : Und P tu .string] [hk : Siz P T 1] [hb : Byt P T 1] [hz : Zer P T (.int .u8 0)]
    (hx : ev e x = some v) (hy : ev e y = some (str s)) (hrow : Row X w base T v xs) (hlen : xs.length + s.length ≤ 140737488355328) (hbase : base ≤ w.heap.size) :
    OE P n ⟨d, .call { callee := .builtin .append, args := #[x, y], argTypes := #[t, tu] }, ty, pos, af, g⟩ e w (fun v' w' => Row X w' base T v' (xs ++ s) ∧ Stp (ob v) w w' ∧ ∀ b ∈ ob v', b ∈ ob v ∨ w.heap.size ≤ b) := by
  obtain ⟨i, hi, hi1, hi2, hi3⟩ : ∃ i, P.info? T = some i ∧ i.size = 1 ∧ i.bytes = 1 ∧ i.zero = some (.int .u8 0) := by
    have a1 := hk.h
    have a2 := hb.h
    have a3 := hz.h
    cases hi : P.info? T with
    | none => simp [hi] at a1
    | some i => exact ⟨i, rfl, by simpa [hi] using a1, by simpa [hi] using a2, by simpa [hi] using a3⟩
  obtain ⟨css, hl, hr, ho⟩ := hrow
  have hcss : css = xs.map Flat.enc := by
    apply List.ext_getElem (by simp [hl])
    intro i h1 h2
    have : css[i] = Flat.enc xs[i] := hr i (by omega) h1
    simpa using this
  subst hcss
  have hsz : (⟨s.toArray⟩ : ByteArray).size = s.length := str_size s
  obtain ⟨v', w', hrun, h1, h2, h3⟩ := Lib.run_append_own_string (P := P) w base t tu ty T i ht.h hu.h hi hi3 hi1 hi2 v xs.length _ ho ⟨s.toArray⟩ (by rw [hsz]; unfold maxLen; omega) (by rw [hsz]; omega) hbase
  rw [hsz, strCells_enc] at h1
  have hblk := append_blockT (P := P) ht.h hu.h hi hi3 hi1 hi2 ho ⟨s.toArray⟩ (by rw [hsz]; exact hlen) hrun
  have hS : Stp (ob v) w w' := by rw [← ob_own]; exact Stp.of_grown h2
  refine OE_value (v := v') (w' := w') (fun a ha => ?_) ⟨⟨(xs ++ s).map Flat.enc, by simp, fun i hi hi' => (List.getElem_map _ : ((xs ++ s).map Flat.enc)[i] = Flat.enc (xs ++ s)[i]), ?_⟩, hS, hblk⟩
  · simp [execOp, resolve, invoke, builtin, ha.ev hx, ha.ev hy, hrun]
  · have e1 : ((xs ++ s).map Flat.enc).flatten = (xs.map Flat.enc).flatten ++ s.flatMap Flat.enc := by rw [List.map_append, List.flatten_append, List.flatMap_def]
    rw [e1, List.length_append]
    exact h1

theorem PR_eqlNil {t u el : TypeId} {x y : Operand} {p : Option Addr} {l c : Nat} [hu : Und P t (.slice el)] (hx : ev e x = some (.slice p l c)) (hy : ev e y = some (.slice none 0 0)) :
    PR P n ⟨d, .binOp .eql t x y u, ty, pos, af, g⟩ e w (.bool p.isNone) :=
  ⟨fun a ha => by
    have h := run_equal_slice_nil (P := P) w t el p l c hu.h
    simp only [execOp, ha.ev hx, ha.ev hy]
    simp [go_sem, binOp, h]⟩
/-- a string of bytes -/
theorem PR_convB {src dst el : TypeId} {x : Operand} {v : Value} {X : List Nat} {xs : List UInt8} [hs : Und P src (.slice el)] [hd : Und P dst .string] [he : Und P el (.int .u8)] (hx : ev e x = some v) (hv : SlV X w v xs) :
    PR P n ⟨d, .convert src dst x, ty, pos, af, g⟩ e w (str xs) := by
  obtain ⟨p, c, rfl, hl, hm, hn, hc⟩ := hv
  refine ⟨fun a ha => ?_⟩
  have key : (convert src dst (.slice p xs.length c)).run P w = .ok (str xs) w := by
    cases p with
    | none =>
      have hx0 : xs = [] := by
        cases xs with
        | nil => rfl
        | cons b r =>
          obtain ⟨_, _, _, h, _⟩ := hc 0 (by simp)
          cases h
      subst hx0
      have := run_convert_bytes_nil (P := P) w src el hs.h he.h 0 c dst hd.h
      rw [List.length_nil, this]
      rfl
    | some a =>
      by_cases hx0 : xs = []
      · subst hx0
        have hl0 : (loadCells a 0).run P w = .ok ((([] : List Int).map (Value.int .u8)).toArray) w := by simp [loadCells, loadCellsFrom]
        have h2 := run_bytesToString (P := P) w a 0 c [] hl0
        rw [List.length_nil, run_convert_bytes_string w src dst el _ 0 c hs.h he.h hd.h, h2]
        rfl
      · have h0 : 0 < xs.length := List.length_pos_iff.2 hx0
        obtain ⟨b, o, cs, hp, _⟩ := hc 0 h0
        simp only [Option.some.injEq] at hp
        subst hp
        have h2 := run_convert_bytes_arg (P := P) w src el hs.h he.h b o xs.length c (xs.map fun x => (x.toNat : Int)) (by simp) (fun i hi => by
          obtain ⟨b', o', cs', hp', _, _, hr, hcell⟩ := hc i hi
          simp only [Option.some.injEq, Addr.mk.injEq, and_true] at hp'
          obtain ⟨rfl, rfl⟩ := hp'
          have hr' : cs' = Flat.enc xs[i] := hr
          subst hr'
          have := hcell 0 (.int .u8 (xs[i].toNat : Int)) rfl
          rw [show o + i * GoRep.k UInt8 + 0 = o + i by show o + i * 1 + 0 = o + i; omega] at this
          rw [this]
          simp [List.getD, List.getElem?_eq_getElem hi]) dst hd.h
        rw [h2]
        congr 2
        simp only [strOfNums, List.map_map]
        congr 2
        conv => rhs; rw [← List.map_id xs]
        apply List.map_congr_left
        intro x _
        simp
  simp [execOp, ha.ev hx, key]
end
end Go.Eng


/-
The bytes of an encoding: plain Lean.
-/
namespace Go.Eng
open Go
/-- the encoding of an unsigned number: seven bits to a byte -/
def uintB (n : Nat) : List UInt8 := if n < 128 then [UInt8.ofNat n] else UInt8.ofNat (128 + n % 128) :: uintB (n / 128)
termination_by n
decreasing_by omega
theorem uintB_lo {n : Nat} (h : n < 128) : uintB n = [UInt8.ofNat n] := by rw [uintB, if_pos h]
theorem uintB_hi {n : Nat} (h : 128 ≤ n) : uintB n = UInt8.ofNat (128 + n % 128) :: uintB (n / 128) := by rw [uintB, if_neg (by omega)]
theorem uintB_pos (n : Nat) : 1 ≤ (uintB n).length := by
  rw [uintB]
  split <;> simp
theorem uintB_len (k : Nat) : ∀ n, n < 128 ^ (k + 1) → (uintB n).length ≤ k + 1 := by
  induction k with
  | zero => intro n h; rw [uintB_lo (by simpa using h)]; simp
  | succ k ih =>
    intro n h
    by_cases hn : n < 128
    · rw [uintB_lo hn]; simp
    · rw [uintB_hi (by omega)]
      have := ih (n / 128) (by rw [Nat.pow_succ] at h; exact Nat.div_lt_of_lt_mul (by rw [Nat.mul_comm]; exact h))
      simp only [List.length_cons]
      omega
theorem uintB_len10 {n : Nat} (h : n < 18446744073709551616) : (uintB n).length ≤ 10 := uintB_len 9 n (by omega)
/-- the unsigned number of a number -/
def zigN (z : Int) : Nat := if z < 0 then 2 * (-(z + 1)).toNat + 1 else 2 * z.toNat
theorem zigN_lt {z : Int} (h : I64 z) : zigN z < 18446744073709551616 := by
  unfold I64 at h
  unfold zigN
  split <;> omega
def intB (z : Int) : List UInt8 := uintB (zigN z)
def textB (s : Str) : List UInt8 := uintB s.length ++ s
def intsB (l : List Int) : List UInt8 := uintB l.length ++ l.flatMap intB
theorem intB_len {z : Int} (h : I64 z) : (intB z).length ≤ 10 := uintB_len10 (zigN_lt h)
theorem flatMap_intB_len (l : List Int) (h : ∀ z ∈ l, I64 z) : (l.flatMap intB).length ≤ 10 * l.length := by
  induction l with
  | nil => simp
  | cons z l ih =>
    have h1 := intB_len (h z (by simp))
    have h2 := ih (fun z hz => h z (by simp [hz]))
    simp only [List.flatMap_cons, List.length_append, List.length_cons]
    omega
theorem or128 : ∀ c : Fin 256, (c.val ||| 128) = 128 + c.val % 128 := by decide +kernel
theorem or_u8 (n : Nat) : Go.bits .or .u8 ((n : Int) % 256) 128 = ((UInt8.ofNat (128 + n % 128)).toNat : Int) := by
  have h1 : ((n : Int) % 256) = ((n % 256 : Nat) : Int) := by omega
  rw [h1, show (128 : Int) = ((128 : Nat) : Int) from rfl, u8_or_nat _ _ (by omega) (by omega)]
  have h2 := or128 ⟨n % 256, by omega⟩
  simp only at h2
  rw [h2]
  simp only [UInt8.toNat_ofNat']
  omega
theorem byte_wrap (n : Nat) : IntKind.u8.wrap (n : Int) = (n : Int) % 256 := IntKind.wrap_u8' _
theorem wrap_u64_of {z : Int} (h0 : 0 ≤ z) (h : z < 18446744073709551616) : IntKind.u64.wrap z = z := by
  rw [IntKind.wrap_u64]
  omega
theorem byte_nat (n : Nat) (h : n < 256) : ((UInt8.ofNat n).toNat : Int) = (n : Int) := by
  rw [UInt8.toNat_ofNat']
  omega
theorem xor_ones (a : Nat) (ha : a < 18446744073709551616) : Go.bits .xor .u64 (a : Int) 18446744073709551615 = ((18446744073709551615 - a : Nat) : Int) := by
  have h1 : (BitVec.ofInt 64 (a : Int)).toNat = a := by
    rw [BitVec.ofInt_natCast, BitVec.toNat_ofNat]; exact Nat.mod_eq_of_lt (by omega)
  have h2 : BitVec.ofInt 64 (18446744073709551615 : Int) = BitVec.allOnes 64 := by decide
  show IntKind.u64.wrap ((BitVec.ofInt 64 (a : Int) ^^^ BitVec.ofInt 64 (18446744073709551615 : Int)).toNat : Int) = _
  rw [h2, BitVec.xor_allOnes, BitVec.toNat_not, h1, IntKind.wrap_u64]
  omega
/-- (n << 1) ^ (n >> 63) -/
theorem zig_bits {z : Int} (h : I64 z) : Go.bits .xor .u64 (IntKind.u64.wrap (IntKind.u64.wrap z * 2 ^ 1)) (IntKind.u64.wrap (z / 2 ^ 63)) = ((zigN z : Nat) : Int) := by
  unfold I64 at h
  simp only [IntKind.wrap_u64]
  by_cases hz : z < 0
  · have e1 : z % 18446744073709551616 = z + 18446744073709551616 := by omega
    have e2 : (z + 18446744073709551616) * 2 ^ 1 % 18446744073709551616 = ((2 * z + 18446744073709551616).toNat : Int) := by omega
    have e3 : z / 2 ^ 63 % 18446744073709551616 = 18446744073709551615 := by omega
    rw [e1, e2, e3, xor_ones _ (by omega)]
    unfold zigN
    rw [if_pos hz]
    omega
  · have e1 : z % 18446744073709551616 = z := by omega
    have e2 : z * 2 ^ 1 % 18446744073709551616 = ((2 * z.toNat : Nat) : Int) := by omega
    have e3 : z / 2 ^ 63 % 18446744073709551616 = ((0 : Nat) : Int) := by omega
    rw [e1, e2, e3, bits_xor_u64_nat _ _ (by omega) (by omega)]
    unfold zigN
    rw [if_neg hz]
    simp
end Go.Eng


namespace Go.Proofs.YtgpibcgebpgmiaaDoor
open Go Go.Eng Go.RowKit
set_option linter.unusedVariables false
/-- a writer: its block, its row of bytes -/
structure Wr (w : World) (bc base : Nat) (v : Value) (xs : List UInt8) : Prop where
  blk : Blk w bc 93 [v]
  row : Row [] w base 5 v xs
  apart : bc ∉ ob v
  low : bc < base
  top : base ≤ w.heap.size
/-- what a method of the writer leaves -/
def Wrs (w : World) (bc base : Nat) (v : Value) (ys : List UInt8) (w' : World) : Prop :=
  ∃ v', Wr w' bc base v' ys ∧ Stp (bc :: ob v) w w' ∧ ∀ b ∈ ob v', b ∈ ob v ∨ w.heap.size ≤ b
theorem Wr.up {w w' : World} {bc base : Nat} {v : Value} {xs : List UInt8} (h : Wr w bc base v xs) (hS : Stp [] w w') : Wr w' bc base v xs :=
  ⟨h.blk.up hS, h.row.up hS, h.apart, h.low, Nat.le_trans h.top hS.size⟩
theorem Wrs.pre {w0 w w' : World} {bc base : Nat} {v : Value} {ys : List UInt8} (hS : Stp [] w0 w) (h : Wrs w bc base v ys w') : Wrs w0 bc base v ys w' := by
  obtain ⟨v', h1, h2, h3⟩ := h
  exact ⟨v', h1, (hS.mono (by simp)).trans h2, fun b hb => (h3 b hb).imp id (fun h => Nat.le_trans hS.size h)⟩
theorem Wrs.post {w w1 w' : World} {bc base : Nat} {v : Value} {ys : List UInt8} (h : Wrs w bc base v ys w1) (hS : Stp [] w1 w') : Wrs w bc base v ys w' := by
  obtain ⟨v', h1, h2, h3⟩ := h
  exact ⟨v', h1.up hS, h2.trans (hS.mono (by simp)), h3⟩
/-- one after another -/
theorem Wrs.next {w w1 w2 : World} {bc base : Nat} {v v1 : Value} {zs : List UInt8} (hS : Stp (bc :: ob v) w w1) (hb : ∀ b ∈ ob v1, b ∈ ob v ∨ w.heap.size ≤ b) (h : Wrs w1 bc base v1 zs w2) : Wrs w bc base v zs w2 := by
  obtain ⟨v', h1, h2, h3⟩ := h
  refine ⟨v', h1, ?_, fun b hb' => ?_⟩
  · exact hS.own h2 (fun b hb' => by
      rcases List.mem_cons.1 hb' with rfl | h
      · exact .inl (by simp)
      · exact (hb b h).imp (fun h => List.mem_cons_of_mem _ h) id)
  · rcases h3 b hb' with h | h
    · exact hb b h
    · exact .inr (Nat.le_trans hS.size h)
theorem buildB1 (b : UInt8) (w : World) : (Instr.buildSlice 38 1 #[(0, .int .u8 (b.toNat : Int))]).run Tryd.prog w = .ok (.slice (some ⟨w.heap.size, 0, none⟩) 1 1) (w.alloc (.cells (Flat.enc b).toArray 5)) := by kernel_rfl
/-- the step of every method: the byte is appended, the row is stored -/
theorem Wr.stored {w w1 w2 : World} {bc base : Nat} {v v' : Value} {xs ys : List UInt8} (h : Wr w bc base v xs) (hrow : Row [] w1 base 5 v' ys) (hS : Stp (ob v) w w1) (hb : ∀ b ∈ ob v', b ∈ ob v ∨ w.heap.size ≤ b)
    (hS2 : Stp [bc] w1 w2) (hblk : Blk w2 bc 93 [v']) : Wrs w bc base v ys w2 := by
  have hap : bc ∉ ob v' := fun hx => by
    rcases hb bc hx with h1 | h1
    · exact h.apart h1
    · have := h.blk.lt; omega
  refine ⟨v', ⟨hblk, hrow.keep hS2 (by simpa using hap), hap, h.low, Nat.le_trans h.top (Nat.le_trans hS.size hS2.size)⟩, ?_, hb⟩
  exact (hS.mono (fun x hx => List.mem_cons_of_mem _ hx)).trans (hS2.mono (by simp))
theorem Uint_any (bc base : Nat) (v : Value) (xs : List UInt8) (n : Nat) (w : World) (hn : n < 18446744073709551616) (hc : Wr w bc base v xs) (hl : xs.length ≤ 70368744177664) :
    Calls Tryd.prog 91 #[.pointer (some ⟨bc, 0, none⟩), .int .u64 (n : Int)] w (Ret fun r w' => r = .tuple #[] ∧ Wrs w bc base v (xs ++ uintB n) w') := by
  have hub := uintB_len10 hn
  refine calls_of_WC2 (n := 35) Tryd.func91 rfl rfl rfl ?_
  refine W ?_
  refine WC_loop (σ := Nat × Value × List UInt8) (fun q => [(0, .pointer (some ⟨bc, 0, none⟩)), (1, .int .u64 (q.1 : Int))]) (fun q w' => q.1 < 18446744073709551616 ∧ q.2.2 ++ uintB q.1 = xs ++ uintB n ∧ Wr w' bc base q.2.1 q.2.2 ∧ Stp (bc :: ob v) w w' ∧ ∀ b ∈ ob q.2.1, b ∈ ob v ∨ w.heap.size ≤ b) (fun q => q.1) (n, v, xs) ⟨rfl, rfl, trivial⟩ ⟨hn, rfl, hc, Stp.refl _ _, fun b hb => .inl hb⟩ ?_
  rintro ⟨m, u, ys⟩ w2 ⟨hm, heq, hW, hS, hob⟩
  dsimp only at hm heq hW hS hob ⊢
  have hlen := congrArg List.length heq
  simp only [List.length_append] at hlen
  have hup := uintB_pos m
  have hblk := hW.blk
  by_cases hlt : 128 ≤ m
  · repeat' (first | refine W1 ?_ | (exfalso; omega) | refine WL_split rfl rfl (fun hg => ?_) (fun hg => ?_) | refine WL_splitB rfl rfl (fun hg => ?_) (fun hg => ?_) | refine WC_cond rfl (fun hc => ?_) (fun hc => ?_) | refine WC_condB rfl (fun hc => ?_) (fun hc => ?_))
    refine WL_pure (PR_conv rfl) rfl ?_
    rw [byte_wrap m]
    refine WL_pure (PR_or rfl rfl (or_u8 m)) rfl ?_
    refine WL_eff (OE_buildSlice (vs := [(0, .int .u8 ((UInt8.ofNat (128 + m % 128)).toNat : Int))]) rfl (buildB1 _)) rfl ?_
    rintro bv w3 hN
    have hbv : SlV (ob u ++ []) w3 bv [(UInt8.ofNat (128 + m % 128))] := hN.slv (fun b hb => (hW.row.ob_le b (by simpa using hb)).2) rfl rfl (by simp [maxLen])
    have hT := NewSl.stp hN
    clear hN
    have hW3 := hW.up hT
    have hblk3 := hW3.blk
    refine WL_eff (OE_append (X := []) (base := base) rfl (by decide) rfl rfl hW3.row hbv (by simp only [List.length_cons, List.length_nil]; omega) (by simp only [List.length_cons, List.length_nil, maxLen]; omega) hW3.top) rfl ?_
    rintro u' w4 ⟨hrow4, hT4, hob4⟩
    have hblk4 := hblk3.ext hT4 hW3.apart
    refine W ?_
    refine WL_eff0 (OE_store1 (u := u') rfl rfl hrow4.slv0.cells hrow4.slv0.one hblk4 (by simp)) ?_
    rintro _ w5 ⟨hT5, hblk5⟩
    have hst := (hW3.stored hrow4 hT4 hob4 hT5 hblk5).pre hT
    clear hblk4 hblk3 hblk
    refine W ?_
    refine WL_pure (PR_shr (s := 7) (r := ((m / 128 : Nat) : Int)) rfl rfl (by decide) (by omega)) rfl ?_
    refine W ?_
    obtain ⟨v', k1, k2, k3⟩ := hst.next hS hob
    exact WQ_loop (m / 128, v', ys ++ [UInt8.ofNat (128 + m % 128)]) ⟨rfl, rfl, trivial⟩ ⟨by dsimp only; omega, by dsimp only; rw [← heq, uintB_hi hlt, List.append_assoc]; rfl, k1, k2, k3⟩ (by dsimp only; omega)
  · repeat' (first | refine W1 ?_ | (exfalso; omega) | refine WL_split rfl rfl (fun hg => ?_) (fun hg => ?_) | refine WL_splitB rfl rfl (fun hg => ?_) (fun hg => ?_) | refine WC_cond rfl (fun hc => ?_) (fun hc => ?_) | refine WC_condB rfl (fun hc => ?_) (fun hc => ?_))
    refine WL_pure (PR_convTo (b := ((UInt8.ofNat m).toNat : Int)) rfl (by rw [byte_wrap m, byte_nat m (by omega)]; omega)) rfl ?_
    refine WL_eff (OE_buildSlice (vs := [(0, .int .u8 ((UInt8.ofNat m).toNat : Int))]) rfl (buildB1 _)) rfl ?_
    rintro bv w3 hN
    have hbv : SlV (ob u ++ []) w3 bv [(UInt8.ofNat m)] := hN.slv (fun b hb => (hW.row.ob_le b (by simpa using hb)).2) rfl rfl (by simp [maxLen])
    have hT := NewSl.stp hN
    clear hN
    have hW3 := hW.up hT
    have hblk3 := hW3.blk
    refine WL_eff (OE_append (X := []) (base := base) rfl (by decide) rfl rfl hW3.row hbv (by simp only [List.length_cons, List.length_nil]; omega) (by simp only [List.length_cons, List.length_nil, maxLen]; omega) hW3.top) rfl ?_
    rintro u' w4 ⟨hrow4, hT4, hob4⟩
    have hblk4 := hblk3.ext hT4 hW3.apart
    refine W ?_
    refine WL_eff0 (OE_store1 (u := u') rfl rfl hrow4.slv0.cells hrow4.slv0.one hblk4 (by simp)) ?_
    rintro _ w5 ⟨hT5, hblk5⟩
    have hst := (hW3.stored hrow4 hT4 hob4 hT5 hblk5).pre hT
    clear hblk4 hblk3 hblk
    refine W ?_
    first | refine WQ_ret1 rfl rfl ?_ | refine WQ_ret2 rfl rfl rfl ?_ | refine WQ_ret3 rfl rfl rfl rfl ?_ | refine WQ_ret0 rfl ?_ | refine WQ_end0 rfl ?_
    refine .mk ⟨rfl, ?_⟩
    have h := hst.next hS hob
    rwa [← uintB_lo (by omega), heq] at h
end Go.Proofs.YtgpibcgebpgmiaaDoor


namespace Go.Proofs.YtgpibcgebpgmiaaDoor
open Go Go.Eng Go.RowKit
set_option linter.unusedVariables false
theorem Int_any (bc base : Nat) (v : Value) (xs : List UInt8) (z : Int) (w : World) (hz : I64 z) (hc : Wr w bc base v xs) (hl : xs.length ≤ 70368744177664) :
    Calls Tryd.prog 56 #[.pointer (some ⟨bc, 0, none⟩), .int .i64 z] w (Ret fun r w' => r = .tuple #[] ∧ Wrs w bc base v (xs ++ intB z) w') := by
  refine calls_of_WC2 (n := 13) Tryd.func56 rfl rfl rfl ?_
  refine W ?_
  refine WL_pure (PR_conv rfl) rfl ?_
  refine WL_pure (PR_shl (s := 1) rfl rfl (by decide) rfl) rfl ?_
  refine W ?_
  refine WL_pure (PR_shr (s := 63) rfl rfl (by decide) rfl) rfl ?_
  refine WL_pure (PR_conv rfl) rfl ?_
  refine WL_pure (PR_xor rfl rfl (zig_bits hz)) rfl ?_
  refine WL_eff (OE_call rfl (evs2 rfl rfl) (Uint_any bc base v xs (zigN z) w (zigN_lt hz) hc hl)) rfl ?_
  rintro _ w1 ⟨rfl, h⟩
  refine W ?_
  first | refine WQ_ret1 rfl rfl ?_ | refine WQ_ret2 rfl rfl rfl ?_ | refine WQ_ret3 rfl rfl rfl rfl ?_ | refine WQ_ret0 rfl ?_ | refine WQ_end0 rfl ?_
  exact .mk ⟨rfl, h⟩
theorem Text_any (bc base : Nat) (v : Value) (xs : List UInt8) (s : Str) (w : World) (hs : s.length ≤ 70368744177664) (hc : Wr w bc base v xs) (hl : xs.length ≤ 35184372088832) :
    Calls Tryd.prog 55 #[.pointer (some ⟨bc, 0, none⟩), str s] w (Ret fun r w' => r = .tuple #[] ∧ Wrs w bc base v (xs ++ textB s) w') := by
  have hub := uintB_len10 (n := s.length) (by omega)
  refine calls_of_WC2 (n := 20) Tryd.func55 rfl rfl rfl ?_
  refine W ?_
  refine WL_pure (PR_convTo (b := ((s.length : Nat) : Int)) rfl (wrap_u64_of (by omega) (by omega))) rfl ?_
  refine WL_eff (OE_call rfl (evs2 rfl rfl) (Uint_any bc base v xs s.length w (by omega) hc (by omega))) rfl ?_
  rintro _ w1 ⟨rfl, u, hW, hS, hob⟩
  have hblk := hW.blk
  refine W ?_
  refine WL_eff (OE_appendT (X := []) (base := base) rfl rfl hW.row (by simp only [List.length_append]; omega) hW.top) rfl ?_
  rintro u' w4 ⟨hrow4, hT4, hob4⟩
  have hblk4 := hblk.ext hT4 hW.apart
  refine W ?_
  refine WL_eff0 (OE_store1 (u := u') rfl rfl hrow4.slv0.cells hrow4.slv0.one hblk4 (by simp)) ?_
  rintro _ w5 ⟨hT5, hblk5⟩
  have hst := hW.stored hrow4 hT4 hob4 hT5 hblk5
  clear hblk4 hblk
  refine W ?_
  first | refine WQ_ret1 rfl rfl ?_ | refine WQ_ret2 rfl rfl rfl ?_ | refine WQ_ret3 rfl rfl rfl rfl ?_ | refine WQ_ret0 rfl ?_ | refine WQ_end0 rfl ?_
  have h := hst.next hS hob
  rw [List.append_assoc] at h
  exact .mk ⟨rfl, h⟩
theorem Ints_any (bc base : Nat) (v vl : Value) (xs : List UInt8) (l : List Int) (w : World) (hI : ∀ z ∈ l, I64 z) (hll : l.length ≤ 1000000) (hv : SlV (bc :: ob v) w vl l) (hc : Wr w bc base v xs) (hl : xs.length ≤ 35184372088832) :
    Calls Tryd.prog 57 #[.pointer (some ⟨bc, 0, none⟩), vl] w (Ret fun r w' => r = .tuple #[] ∧ Wrs w bc base v (xs ++ intsB l) w') := by
  have hub := uintB_len10 (n := l.length) (by omega)
  refine calls_of_WC2 (n := 21) Tryd.func57 rfl rfl rfl ?_
  refine W ?_
  refine WL_pure (PR_convTo (b := ((l.length : Nat) : Int)) rfl (wrap_u64_of (by omega) (by omega))) rfl ?_
  refine WL_eff (OE_call rfl (evs2 rfl rfl) (Uint_any bc base v xs l.length w (by omega) hc (by omega))) rfl ?_
  rintro _ w1 ⟨rfl, u, hW, hS, hob⟩
  replace hv : SlV (bc :: ob u) w1 vl l := hv.ext hS (fun _ h => h) (fun b hb => by
    rcases List.mem_cons.1 hb with rfl | h
    · exact .inl (by simp)
    · exact (hob b h).imp (fun h => List.mem_cons_of_mem _ h) id)
  refine W ?_
  refine WC_loop (σ := Nat × Value) (fun q => [(0, .pointer (some ⟨bc, 0, none⟩)), (11, vl), (12, .int .i64 (l.length : Int)), (13, .int .i64 (q.1 : Int))]) (fun q w' => q.1 ≤ l.length ∧ SlV (bc :: ob q.2) w' vl l ∧ Wr w' bc base q.2 (xs ++ uintB l.length ++ (l.take q.1).flatMap intB) ∧ Stp (bc :: ob v) w w' ∧ ∀ b ∈ ob q.2, b ∈ ob v ∨ w.heap.size ≤ b) (fun q => l.length - q.1) (0, u) ⟨rfl, rfl, rfl, rfl, trivial⟩ ⟨Nat.zero_le _, hv, by simpa using hW, hS, hob⟩ ?_
  clear hv hW hS hob
  rintro ⟨j, u2⟩ w2 ⟨hj, hv, hW, hS, hob⟩
  dsimp only at hj hv hW hS hob ⊢
  by_cases hlt : j < l.length
  · repeat' (first | refine W1 ?_ | (exfalso; omega) | refine WL_split rfl rfl (fun hg => ?_) (fun hg => ?_) | refine WL_splitB rfl rfl (fun hg => ?_) (fun hg => ?_) | refine WC_cond rfl (fun hc => ?_) (fun hc => ?_) | refine WC_condB rfl (fun hc => ?_) (fun hc => ?_))
    have hfl := flatMap_intB_len (l.take j) (fun z hz => hI z (List.mem_of_mem_take hz))
    rw [List.length_take] at hfl
    refine WL_eff (OE_call rfl (evs2 rfl rfl) (Int_any bc base u2 _ l[j] w2 (hI _ (List.getElem_mem hlt)) hW (by simp only [List.length_append]; omega))) rfl ?_
    rintro _ w3 ⟨rfl, u3, hW3, hS3, hob3⟩
    have hv3 : SlV (bc :: ob u3) w3 vl l := hv.ext hS3 (fun _ h => h) (fun b hb => by
      rcases List.mem_cons.1 hb with rfl | h
      · exact .inl (by simp)
      · exact (hob3 b h).imp (fun h => List.mem_cons_of_mem _ h) id)
    obtain ⟨u4, k1, k2, k3⟩ := (show Wrs w2 bc base u2 _ w3 from ⟨u3, hW3, hS3, hob3⟩).next hS hob
    refine W ?_
    refine WQ_loop (j + 1, u3) ⟨rfl, rfl, rfl, rfl, trivial⟩ ⟨hlt, hv3, ?_, ?_, ?_⟩ (by dsimp only; omega)
    · dsimp only
      rw [List.take_succ_eq_append_getElem hlt, List.flatMap_append]
      simpa using hW3
    · exact hS.own hS3 (fun b hb => by
        rcases List.mem_cons.1 hb with rfl | h
        · exact .inl (by simp)
        · exact (hob b h).imp (fun h => List.mem_cons_of_mem _ h) id)
    · intro b hb
      rcases hob3 b hb with h | h
      · exact hob b h
      · exact .inr (Nat.le_trans hS.size h)
  · have hje : j = l.length := by omega
    subst hje
    repeat' (first | refine W1 ?_ | (exfalso; omega) | refine WL_split rfl rfl (fun hg => ?_) (fun hg => ?_) | refine WL_splitB rfl rfl (fun hg => ?_) (fun hg => ?_) | refine WC_cond rfl (fun hc => ?_) (fun hc => ?_) | refine WC_condB rfl (fun hc => ?_) (fun hc => ?_))
    first | refine WQ_ret1 rfl rfl ?_ | refine WQ_ret2 rfl rfl rfl ?_ | refine WQ_ret3 rfl rfl rfl rfl ?_ | refine WQ_ret0 rfl ?_ | refine WQ_end0 rfl ?_
    rw [List.take_length, List.append_assoc] at hW
    exact .mk ⟨rfl, u2, hW, hS, hob⟩
end Go.Proofs.YtgpibcgebpgmiaaDoor


namespace Go.Proofs.YtgpibcgebpgmiaaDoor
open Go Go.Eng Go.RowKit
set_option linter.unusedVariables false
theorem buildB0 (w : World) : (Instr.buildSlice 38 0 #[]).run Tryd.prog w = .ok (.slice (some ⟨w.heap.size, 0, none⟩) 0 0) (w.alloc (.cells #[] 5)) := by kernel_rfl
theorem Clone_any (v : Value) (xs : List UInt8) (w : World) (hs : SlV [] w v xs) (hl : xs.length ≤ 140737488355328) :
    Calls Tryd.prog 81 #[v] w (Ret fun r w' => Row [] w' w.heap.size 5 r xs ∧ Stp [] w w') := by
  have hs0 := hs
  obtain ⟨p, c, rfl, hlc, hm, hn, hc⟩ := hs
  refine calls_of_WC1 (n := 8) Tryd.func81 rfl rfl rfl ?_
  refine W ?_
  refine WL_pure (PR_eqlNil rfl rfl) rfl ?_
  cases p with
  | none =>
    have hx0 : xs = [] := by
      have := hn rfl
      exact List.eq_nil_of_length_eq_zero (by omega)
    subst hx0
    repeat' (first | refine W1 ?_ | (exfalso; omega) | refine WL_split rfl rfl (fun hg => ?_) (fun hg => ?_) | refine WL_splitB rfl rfl (fun hg => ?_) (fun hg => ?_) | refine WC_cond rfl (fun hc => ?_) (fun hc => ?_) | refine WC_condB rfl (fun hc => ?_) (fun hc => ?_))
    first | refine WQ_ret1 rfl rfl ?_ | refine WQ_ret2 rfl rfl rfl ?_ | refine WQ_ret3 rfl rfl rfl rfl ?_ | refine WQ_ret0 rfl ?_ | refine WQ_end0 rfl ?_
    exact .mk ⟨Row.nil, Stp.refl _ _⟩
  | some a =>
    repeat' (first | refine W1 ?_ | (exfalso; omega) | refine WL_split rfl rfl (fun hg => ?_) (fun hg => ?_) | refine WL_splitB rfl rfl (fun hg => ?_) (fun hg => ?_) | refine WC_cond rfl (fun hc => ?_) (fun hc => ?_) | refine WC_condB rfl (fun hc => ?_) (fun hc => ?_))
    refine WL_eff (OE_buildSlice (vs := []) rfl (buildB0)) rfl ?_
    rintro bv w1 hN
    have hrow : Row [] w1 w.heap.size 5 bv ([] : List UInt8) := hN.row (Nat.le_refl _) rfl rfl (by simp)
    have hT := NewSl.stp hN
    have hv : SlV (ob bv ++ []) w1 (.slice (some a) xs.length c) xs := hs0.ext hT (by simp) (fun b hb => .inr (hrow.ob_le b (by simpa using hb)).1)
    clear hN
    refine W ?_
    refine WL_eff (OE_append (X := []) (base := w.heap.size) rfl (by decide) rfl rfl hrow hv (by simp only [List.length_nil]; omega) (by simp only [List.length_nil, maxLen]; omega) hT.size) rfl ?_
    rintro r w2 ⟨hrow2, hT2, _⟩
    refine W ?_
    first | refine WQ_ret1 rfl rfl ?_ | refine WQ_ret2 rfl rfl rfl ?_ | refine WQ_ret3 rfl rfl rfl rfl ?_ | refine WQ_ret0 rfl ?_ | refine WQ_end0 rfl ?_
    exact .mk ⟨hrow2, hT.own hT2 (fun b hb => .inr (hrow.ob_le b hb).1)⟩
theorem Done_any (bc base : Nat) (v : Value) (xs : List UInt8) (w : World) (hc : Wr w bc base v xs) (hl : xs.length ≤ 140737488355328) :
    Calls Tryd.prog 59 #[.pointer (some ⟨bc, 0, none⟩)] w (Ret fun r w' => Row [] w' w.heap.size 5 r xs ∧ Stp [] w w') := by
  have hblk := hc.blk
  have hs := hc.row.slv0
  refine calls_of_WC1 (n := 8) Tryd.func59 rfl rfl rfl ?_
  refine W ?_
  refine WL_eff (OE_call rfl (evs1 rfl) (Clone_any v xs w hs hl)) rfl ?_
  rintro r w1 h
  refine W ?_
  first | refine WQ_ret1 rfl rfl ?_ | refine WQ_ret2 rfl rfl rfl ?_ | refine WQ_ret3 rfl rfl rfl rfl ?_ | refine WQ_ret0 rfl ?_ | refine WQ_end0 rfl ?_
  exact .mk h
/-! ### the reference -/
theorem SameBytes_any (v u : Value) (xs ys : List UInt8) (w : World) (hv : SlV [] w v xs) (hu : SlV [] w u ys) :
    Calls Tryd.prog 19 #[v, u] w (Ret fun r w' => r = .bool (decide (xs = ys)) ∧ w' = w) := by
  refine calls_of_WC2 (n := 10) Tryd.func19 rfl rfl rfl ?_
  refine W ?_
  refine WL_pure (PR_convB rfl hv) rfl ?_
  refine W ?_
  refine WL_pure (PR_convB rfl hu) rfl ?_
  refine W ?_
  first | refine WQ_ret1 rfl rfl ?_ | refine WQ_ret2 rfl rfl rfl ?_ | refine WQ_ret3 rfl rfl rfl rfl ?_ | refine WQ_ret0 rfl ?_ | refine WQ_end0 rfl ?_
  exact .mk ⟨rfl, rfl⟩
end Go.Proofs.YtgpibcgebpgmiaaDoor


namespace Go.Proofs.YtgpibcgebpgmiaaDoor
open Go Go.Eng Go.RowKit
set_option linter.unusedVariables false
set_option linter.unusedSimpArgs false
/-- the encoding of a compiled rule -/
def encC (q : Cr) : List UInt8 := textB q.name ++ intB q.frm ++ textB q.on ++ intsB (flatF q.cnd) ++ intsB (flatF q.due) ++ textB q.unl ++ textB q.els
/-- what the encoders ask: numbers are numbers of 64 bits, no part is immense -/
structure CrOk (q : Cr) : Prop where
  frm : I64 q.frm
  cnd : ∀ x ∈ q.cnd, I64 x.op ∧ I64 x.n
  due : ∀ x ∈ q.due, I64 x.op ∧ I64 x.n
  lcnd : q.cnd.length ≤ 100000
  ldue : q.due.length ≤ 100000
  lname : q.name.length ≤ 1048576
  lon : q.on.length ≤ 1048576
  lunl : q.unl.length ≤ 1048576
  lels : q.els.length ≤ 1048576
theorem flatF_I64 {l : List Ins} (h : ∀ x ∈ l, I64 x.op ∧ I64 x.n) : ∀ z ∈ flatF l, I64 z := by
  intro z hz
  simp only [flatF, List.mem_flatMap, List.mem_cons, List.not_mem_nil, or_false] at hz
  obtain ⟨x, hx, rfl | rfl⟩ := hz
  · exact (h x hx).1
  · exact (h x hx).2
theorem textB_len {s : Str} (h : s.length ≤ 1048576) : (textB s).length ≤ 1048586 := by
  have := uintB_len10 (n := s.length) (by omega)
  simp only [textB, List.length_append]
  omega
theorem intsB_len {l : List Ins} (h : ∀ x ∈ l, I64 x.op ∧ I64 x.n) (hl : l.length ≤ 100000) : (intsB (flatF l)).length ≤ 2000010 := by
  have h1 := flatF_len l
  have h2 := uintB_len10 (n := (flatF l).length) (by omega)
  have h3 := flatMap_intB_len _ (flatF_I64 h)
  simp only [intsB, List.length_append]
  omega
/-- a method of a writer that was made by the call itself -/
theorem Wrs.flat {w w1 w2 : World} {bc base : Nat} {v : Value} {xs ys : List UInt8} (hS : Stp [] w w1) (hW : Wr w1 bc base v xs) (hbc : w.heap.size ≤ bc) (h : Wrs w1 bc base v ys w2) : ∃ v', Wr w2 bc base v' ys ∧ Stp [] w w2 := by
  obtain ⟨v', h1, h2, _⟩ := h
  refine ⟨v', h1, hS.own h2 (fun b hb => ?_)⟩
  rcases List.mem_cons.1 hb with rfl | hb
  · exact .inr hbc
  · exact .inr (Nat.le_trans hbc (Nat.le_trans (Nat.le_of_lt hW.low) (hW.row.ob_le b hb).1))
theorem Encode_any (v : Value) (q : Cr) (w : World) (hq : CrOk q) (hv : CrV [] w v q) :
    Calls Tryd.prog 20 #[v] w (Ret fun r w' => Row [] w' w.heap.size 5 r (encC q) ∧ Stp [] w w') := by
  obtain ⟨kc, kd, rfl, hc1, hd1⟩ := hv
  have l1 := textB_len hq.lname
  have l2 := intB_len hq.frm
  have l3 := textB_len hq.lon
  have l4 := intsB_len hq.cnd hq.lcnd
  have l5 := intsB_len hq.due hq.ldue
  have l6 := textB_len hq.lunl
  have l7 := textB_len hq.lels
  have f1 := flatF_len q.cnd
  have f2 := flatF_len q.due
  have g1 := hq.lcnd
  have g2 := hq.ldue
  have g3 := hq.lname
  have g4 := hq.lon
  have g5 := hq.lunl
  have g6 := hq.lels
  refine calls_of_WC1 (n := 29) Tryd.func20 rfl rfl rfl ?_
  refine W ?_
  refine WL_eff (OE_box rfl) rfl ?_
  rintro _ wb ⟨b, rfl, hb, e0, hSb⟩
  replace e0 : Blk wb b 42 (crC q kc kd) := e0
  replace hc1 := hc1.up hSb
  replace hd1 := hd1.up hSb
  refine W ?_
  refine WL_eff OE_alloc rfl ?_
  rintro _ w1 ⟨bc, rfl, hbc, eW, hS⟩
  have hW : Wr w1 bc (bc + 1) (.slice none 0 0) [] := ⟨eW, Row.nil, by simp [ob], by omega, eW.lt⟩
  clear eW
  have e1 := e0.up hS
  refine W ?_
  refine WL_eff (OE_call rfl (evs2 rfl rfl) (Text_any bc (bc + 1) _ _ q.name _ (by omega) hW (by simp only [List.length_append, List.length_nil]; omega))) rfl ?_
  rintro _ w2 ⟨rfl, h⟩
  obtain ⟨u, hW2, hS2⟩ := h.flat hS hW hbc
  clear h hW hS e1
  have hW := hW2
  have hS := hS2
  clear hW2 hS2
  have e1 := e0.up hS
  refine W ?_
  refine WL_eff (OE_call rfl (evs2 rfl rfl) (Int_any bc (bc + 1) _ _ q.frm _ hq.frm hW (by simp only [List.length_append, List.length_nil]; omega))) rfl ?_
  rintro _ w2 ⟨rfl, h⟩
  obtain ⟨u, hW2, hS2⟩ := h.flat hS hW hbc
  clear h hW hS e1
  have hW := hW2
  have hS := hS2
  clear hW2 hS2
  have e1 := e0.up hS
  refine W ?_
  refine WL_eff (OE_call rfl (evs2 rfl rfl) (Text_any bc (bc + 1) _ _ q.on _ (by omega) hW (by simp only [List.length_append, List.length_nil]; omega))) rfl ?_
  rintro _ w2 ⟨rfl, h⟩
  obtain ⟨u, hW2, hS2⟩ := h.flat hS hW hbc
  clear h hW hS e1
  have hW := hW2
  have hS := hS2
  clear hW2 hS2
  have e1 := e0.up hS
  refine W ?_
  refine WL_eff (OE_call rfl (evs1 rfl) (Flat_any _ q.cnd _ (by omega) (hc1.up hS))) rfl ?_
  rintro vf w2 ⟨hrf, hT⟩
  have hle := hW.blk.lt
  have hvf : SlV (bc :: ob u) w2 vf (flatF q.cnd) := hrf.slv (X := bc :: ob u) (fun x hx => by
    rcases List.mem_cons.1 hx with rfl | hx
    · exact hle
    · exact (hW.row.ob_le x hx).2)
  replace hW := hW.up hT
  replace hS := hS.trans hT
  refine WL_eff (OE_call rfl (evs2 rfl rfl) (Ints_any bc (bc + 1) _ _ _ (flatF q.cnd) _ (flatF_I64 hq.cnd) (by omega) hvf hW (by simp only [List.length_append, List.length_nil]; omega))) rfl ?_
  rintro _ w3 ⟨rfl, h⟩
  obtain ⟨u, hW2, hS2⟩ := h.flat hS hW hbc
  clear h hW hS e1 hrf hvf hT
  have hW := hW2
  have hS := hS2
  clear hW2 hS2
  have e1 := e0.up hS
  refine W ?_
  refine WL_eff (OE_call rfl (evs1 rfl) (Flat_any _ q.due _ (by omega) (hd1.up hS))) rfl ?_
  rintro vf w2 ⟨hrf, hT⟩
  have hle := hW.blk.lt
  have hvf : SlV (bc :: ob u) w2 vf (flatF q.due) := hrf.slv (X := bc :: ob u) (fun x hx => by
    rcases List.mem_cons.1 hx with rfl | hx
    · exact hle
    · exact (hW.row.ob_le x hx).2)
  replace hW := hW.up hT
  replace hS := hS.trans hT
  refine WL_eff (OE_call rfl (evs2 rfl rfl) (Ints_any bc (bc + 1) _ _ _ (flatF q.due) _ (flatF_I64 hq.due) (by omega) hvf hW (by simp only [List.length_append, List.length_nil]; omega))) rfl ?_
  rintro _ w3 ⟨rfl, h⟩
  obtain ⟨u, hW2, hS2⟩ := h.flat hS hW hbc
  clear h hW hS e1 hrf hvf hT
  have hW := hW2
  have hS := hS2
  clear hW2 hS2
  have e1 := e0.up hS
  refine W ?_
  refine WL_eff (OE_call rfl (evs2 rfl rfl) (Text_any bc (bc + 1) _ _ q.unl _ (by omega) hW (by simp only [List.length_append, List.length_nil]; omega))) rfl ?_
  rintro _ w2 ⟨rfl, h⟩
  obtain ⟨u, hW2, hS2⟩ := h.flat hS hW hbc
  clear h hW hS e1
  have hW := hW2
  have hS := hS2
  clear hW2 hS2
  have e1 := e0.up hS
  refine W ?_
  refine WL_eff (OE_call rfl (evs2 rfl rfl) (Text_any bc (bc + 1) _ _ q.els _ (by omega) hW (by simp only [List.length_append, List.length_nil]; omega))) rfl ?_
  rintro _ w2 ⟨rfl, h⟩
  obtain ⟨u, hW2, hS2⟩ := h.flat hS hW hbc
  clear h hW hS e1
  have hW := hW2
  have hS := hS2
  clear hW2 hS2
  have e1 := e0.up hS
  refine W ?_
  refine WL_eff (OE_call rfl (evs1 rfl) (Done_any bc (bc + 1) _ _ _ hW (by simp only [List.length_append, List.length_nil]; omega))) rfl ?_
  rintro r w2 ⟨hr, hT⟩
  refine W ?_
  first | refine WQ_ret1 rfl rfl ?_ | refine WQ_ret2 rfl rfl rfl ?_ | refine WQ_ret3 rfl rfl rfl rfl ?_ | refine WQ_ret0 rfl ?_ | refine WQ_end0 rfl ?_
  have hSS := (hSb.trans hS).trans hT
  exact .mk ⟨by simpa [encC, List.append_assoc] using hr.lower (Nat.le_trans hSb.size hS.size), hSS⟩
end Go.Proofs.YtgpibcgebpgmiaaDoor


/-
The walk engine, part 19: a drawn region in which some operations 'alloc' hang free beside a chain of others: they may come at any time before the operations that join them.
-/
namespace Go.Eng
open Go Go.RowKit Go.Proofs
set_option linter.unusedVariables false

/-- an 'alloc' that hangs free: its number, its slot, its type, the zero value -/
structure Fl where
  i : Nat
  d : Nat
  T : Nat
  z : Value
structure FlOk (P : Program) (n : Nat) (ops : Array Oper) (F : List Fl) : Prop where
  op : ∀ f ∈ F, ∃ ty pos af, ops[f.i]? = some ⟨some f.d, .alloc f.T, ty, pos, af, none⟩
  zero : ∀ f ∈ F, Zer P f.T f.z
  small : ∀ f ∈ F, Nat.blt f.d n = true
  idx : (F.map Fl.i).Nodup
  dst : ∀ f ∈ F, ∀ g ∈ F, f.d = g.d → f = g

def checkP (ops : Array Oper) (Lt : List Nat) (is : List Nat) : List (Nat × Nat) → List (Nat × Nat) → Array Bool → Bool
  | [], join, listed => (subs is).all (fun rem => rem.isEmpty || Region.ready .any ops (lst listed is rem) == rem) && checkD ops Lt join (lst listed is [])
  | (i, 0) :: r, join, listed => (subs is).all (fun rem => (Region.ready .any ops (lst listed is rem)).contains i && Region.free .any ops (lst listed is rem) i) && !is.contains i && checkP ops Lt is r join (listed.setIfInBounds i true)
  | (i, 1) :: r, join, listed => (subs is).all (fun rem => (Region.ready .any ops (lst listed is rem)).contains i && Region.free .any ops (lst listed is rem) i) && bound ops Lt i && !is.contains i && checkP ops Lt is r join (listed.setIfInBounds i true)
  | (i, 2) :: r, join, listed => (subs is).all (fun rem => (Region.ready .any ops (lst listed is rem)).contains i && (Region.ready .any ops (lst listed is rem)).all (fun j => j == i || rem.contains j)) && !is.contains i && checkP ops Lt is r join (listed.setIfInBounds i true)
  | _ :: _, _, _ => false

theorem Has.cons {n : Nat} {e : Env} {a : Act} {d : Nat} {v : Value} (h : Has n e a) (hv : a.tmps.getD d undef = v) : Has n ((d, v) :: e) a := by
  refine ⟨h.defers, h.size, fun t x hx => ?_⟩
  rw [look_cons] at hx
  by_cases hd : d = t
  · subst hd; simp at hx; subst hx; exact hv
  · rw [if_neg hd] at hx; exact h.vals _ _ hx
theorem put_other {a : Act} {d t : Nat} {v : Value} (h : d ≠ t) : (a.put (some d) v).tmps.getD t undef = a.tmps.getD t undef := by
  simp [Act.put, Array.getElem?_setIfInBounds_ne h]
theorem put_same {n : Nat} {e : Env} {a : Act} {d : Nat} {v : Value} (h : Has n e a) (hd : Nat.blt d n = true) : (a.put (some d) v).tmps.getD d undef = v := by
  have hlt : d < a.tmps.size := by rw [h.size]; exact Nat.le_of_ble_eq_true hd
  simp [Act.put, hlt]
/-- what stands while the operations F hang free: those of 'done' have their blocks, which lie in D -/
structure FlAt (F : List Fl) (rem : List Nat) (done : List (Fl × Nat)) (w : World) (D : List Nat) (a : Act) : Prop where
  all : ∀ f ∈ F, f.i ∈ rem ∨ ∃ b, (f, b) ∈ done
  blk : ∀ p ∈ done, Blk w p.2 p.1.T p.1.z.cells.toList
  mem : ∀ p ∈ done, p.1 ∈ F ∧ p.2 ∈ D
  val : ∀ p ∈ done, a.tmps.getD p.1.d undef = .pointer (some ⟨p.2, 0, none⟩)
  inj : ∀ p ∈ done, ∀ q ∈ done, p.2 = q.2 → p = q
  old : ∀ p ∈ done, ¬ p.1.i ∈ rem

structure WP (P : Program) (n : Nat) (ops : Array Oper) (Lt : List Nat) (Q : Exit → Act → World → Prop) (F : List Fl) (main join : List (Nat × Nat)) (e : Env) (J : World → List Nat → Prop) : Prop where
  h : ∀ listed : Array Bool, Region.noSelect ops = true → checkP ops Lt (F.map Fl.i) main join listed = true → (∀ f ∈ F, look e f.d = none) → ∀ rem : List Nat, rem.Sublist (F.map Fl.i) → ∀ done w D a, FlAt F rem done w D a → J w D → Has n e a →
    wpAnyE P .any ops [] (fun j => Lt.contains j) (fun a w => Q .normal a w) (wt main + rem.length + wt join) (lst listed (F.map Fl.i) rem) a w
section rules
variable {P : Program} {n : Nat} {ops : Array Oper} {Lt : List Nat} {Q : Exit → Act → World → Prop} {F : List Fl} {rest join : List (Nat × Nat)} {e : Env} {J : World → List Nat → Prop}
variable {i d : Nat} {op : Op} {ty : TypeId} {pos : String} {af : Array Edge} {gd : Option (Nat × Bool)} {v : Value}

theorem FlAt.put {rem : List Nat} {done : List (Fl × Nat)} {w : World} {D : List Nat} {a : Act} (h : FlAt F rem done w D a) (hd : F.all (fun f => f.d != d) = true) : FlAt F rem done w D (a.put (some d) v) :=
  ⟨h.all, h.blk, h.mem, fun p hp => by
    have := List.all_eq_true.1 hd p.1 (h.mem p hp).1
    rw [put_other (by simp at this; exact fun h => this h.symm)]
    exact h.val p hp, h.inj, h.old⟩
/-- one of the free ones comes -/
theorem FlAt.next (hF : FlOk P n ops F) {rem : List Nat} {done : List (Fl × Nat)} {w w' : World} {D : List Nat} {a : Act} (h : FlAt F rem done w D a) {f : Fl} (hf : f ∈ F) (hr : f.i ∈ rem) (hnd : rem.Nodup) {b : Nat} (hb : w.heap.size ≤ b) (hB : Blk w' b f.T f.z.cells.toList) (hS : Stp [] w w') (ha : Has n e a) :
    FlAt F (rem.erase f.i) ((f, b) :: done) w' (b :: D) (a.put (some f.d) (.pointer (some ⟨b, 0, none⟩))) := by
  have hone : ∀ g ∈ F, g.i = f.i → g = f := by
    intro g hg hi
    have := hF.idx
    obtain ⟨x, hx, rfl⟩ := List.getElem_of_mem hf
    obtain ⟨y, hy, rfl⟩ := List.getElem_of_mem hg
    have h1 : (F.map Fl.i)[y]'(by simpa using hy) = (F.map Fl.i)[x]'(by simpa using hx) := by simpa using hi
    have h2 := (List.getElem_inj this).1 h1
    subst h2
    rfl
  have hne : ∀ p ∈ done, p.1 ≠ f := fun p hp hpf => h.old p hp (hpf ▸ hr)
  refine ⟨fun g hg => ?_, fun p hp => ?_, fun p hp => ?_, fun p hp => ?_, fun p hp q hq hpq => ?_, fun p hp => ?_⟩
  · by_cases hi : g.i = f.i
    · obtain rfl := hone g hg hi
      exact .inr ⟨b, by simp⟩
    · rcases h.all g hg with h1 | ⟨b', h1⟩
      · exact .inl ((List.mem_erase_of_ne hi).2 h1)
      · exact .inr ⟨b', by simp [h1]⟩
  · rcases List.mem_cons.1 hp with rfl | hp
    · exact hB
    · exact (h.blk p hp).up hS
  · rcases List.mem_cons.1 hp with rfl | hp
    · exact ⟨hf, by simp⟩
    · exact ⟨(h.mem p hp).1, by simp [(h.mem p hp).2]⟩
  · rcases List.mem_cons.1 hp with rfl | hp
    · exact put_same ha (hF.small _ hf)
    · rw [put_other (fun hd => hne p hp (hF.dst f hf p.1 (h.mem p hp).1 hd).symm)]
      exact h.val p hp
  · rcases List.mem_cons.1 hp with rfl | hp <;> rcases List.mem_cons.1 hq with rfl | hq
    · rfl
    · have := (h.blk q hq).lt; simp only at hpq; omega
    · have := (h.blk p hp).lt; simp only at hpq; omega
    · exact h.inj p hp q hq hpq
  · rcases List.mem_cons.1 hp with rfl | hp
    · exact hnd.not_mem_erase
    · exact fun hm => h.old p hp (List.mem_of_mem_erase hm)

end rules
end Go.Eng


namespace Go.Eng
open Go Go.RowKit Go.Proofs
set_option linter.unusedVariables false
section post
variable {P : Program} {n : Nat} {fn : Func} {R : Ending → World → Prop} {e : Env} {w : World} {Q : Exit → Act → World → Prop}
end post
end Go.Eng
namespace Go.Proofs.YtgpibcgebpgmiaaDoor
open Go Go.Eng Go.RowKit
set_option linter.unusedVariables false
/-- a part of a tree, and the tree in which it is replaced by m -/
inductive PartR (m : Nd) : Nd → Nd → Nd → Prop
  | here (n : Nd) : PartR m n n m
  | kid (n : Nd) (i : Nat) (hi : i < n.kids.length) (a b : Nd) (h : PartR m n.kids[i] a b) : PartR m n a (.mk n.kind n.num n.word (n.kids.set i b))
theorem sum_set (l : List Nat) (i : Nat) (h : i < l.length) (a : Nat) : (l.set i a).sum + l[i] = l.sum + a := by
  induction l generalizing i with
  | nil => simp at h
  | cons x l ih =>
    cases i with
    | zero => simp; omega
    | succ i =>
      have := ih i (by simpa using h)
      simp only [List.set_cons_succ, List.sum_cons, List.getElem_cons_succ]
      omega
theorem PartR.size {m n a b : Nd} (h : PartR m n a b) : sizeN a ≤ sizeN n ∧ sizeN b ≤ sizeN n + sizeN m := by
  induction h with
  | here n => exact ⟨Nat.le_refl _, by omega⟩
  | kid n i hi a b h ih =>
    have hk := size_kid (List.getElem_mem hi)
    refine ⟨by omega, ?_⟩
    rw [sizeN_eq (.mk _ _ _ _), sizeN_eq n]
    show 1 + ((n.kids.set i b).map sizeN).sum ≤ _
    rw [List.map_set]
    have := sum_set (n.kids.map sizeN) i (by simpa using hi) (sizeN b)
    simp only [List.getElem_map] at this
    omega
end Go.Proofs.YtgpibcgebpgmiaaDoor


namespace Go.Proofs.YtgpibcgebpgmiaaDoor
open Go Go.Eng Go.RowKit
set_option linter.unusedVariables false
/-- the sum of the sizes of the first kids -/
abbrev pre (l : List Nd) (j : Nat) : Nat := ((l.take j).map sizeN).sum
theorem pre_succ {l : List Nd} {j : Nat} (h : j < l.length) : pre l (j + 1) = pre l j + sizeN l[j] := by
  unfold pre
  rw [List.take_succ_eq_append_getElem h, List.map_append, List.sum_append]
  simp
theorem pre_all (l : List Nd) : pre l l.length = (l.map sizeN).sum := by unfold pre; rw [List.take_length]
/-- what the loop has found -/
def Fnd (m x : Nd) (at0 : Nat) (j : Nat) (p : Nd) (ks : List Nd) : Prop :=
  (pre x.kids j < at0 ∧ p = x ∧ ks = x.kids.take j) ∨ (at0 ≤ pre x.kids j ∧ ∃ i b, ∃ hi : i < x.kids.length, i < j ∧ PartR m x.kids[i] p b ∧ ks = (x.kids.set i b).take j)
theorem Fnd.len {m x p : Nd} {at0 j : Nat} {ks : List Nd} (h : Fnd m x at0 j p ks) (hj : j ≤ x.kids.length) : ks.length = j := by
  rcases h with ⟨_, _, rfl⟩ | ⟨_, i, b, hi, _, _, rfl⟩ <;> simp <;> omega
theorem Fnd.skip {m x p : Nd} {at0 j : Nat} {ks : List Nd} (h : Fnd m x at0 j p ks) (hj : j < x.kids.length) (hn : pre x.kids (j + 1) < at0 ∨ at0 ≤ pre x.kids j) : Fnd m x at0 (j + 1) p (ks ++ [x.kids[j]]) := by
  have hs := pre_succ hj
  have hp := size_pos x.kids[j]
  rcases h with ⟨h1, rfl, rfl⟩ | ⟨h1, i, b, hi, hij, hr, rfl⟩
  · left
    refine ⟨by omega, rfl, ?_⟩
    rw [List.take_succ_eq_append_getElem hj]
  · right
    refine ⟨by omega, i, b, hi, by omega, hr, ?_⟩
    rw [List.take_succ_eq_append_getElem (by simpa using hj), List.getElem_set_ne (by omega)]
theorem Fnd.fin {m x p : Nd} {at0 : Nat} {ks : List Nd} (h : Fnd m x at0 x.kids.length p ks) (h1 : at0 < sizeN x) : PartR m x p (.mk x.kind x.num x.word ks) := by
  rw [sizeN_eq] at h1
  rcases h with ⟨h2, _⟩ | ⟨_, i, b, hi, _, hr, rfl⟩
  · rw [pre_all] at h2; omega
  · rw [List.take_of_length_le (by simp)]
    exact .kid x i hi _ _ hr
theorem NdV.parts {X : List Nat} {w : World} {v : Value} {x : Nd} (h : NdV X w v x) : ∃ p c, v = .agg #[.int .i64 x.kind, .int .i64 x.num, str x.word, .slice p x.kids.length c] ∧ SlV X w (.slice p x.kids.length c) x.kids := by
  obtain ⟨kv, rfl, hs⟩ := h
  obtain ⟨p, c, rfl, -⟩ := id hs
  exact ⟨p, c, rfl, hs⟩
end Go.Proofs.YtgpibcgebpgmiaaDoor


namespace Go.Proofs.YtgpibcgebpgmiaaDoor
open Go Go.Eng Go.RowKit
set_option linter.unusedVariables false
theorem typeT_kid {x y : Nd} (h : typeT x ≠ 0) (hy : y ∈ x.kids) : typeT y ≠ 0 := by
  intro h0
  apply h
  rw [typeT_eq]
  unfold combT
  split
  · rfl
  · rw [if_pos (by rw [← h0]; exact List.mem_map_of_mem hy)]
end Go.Proofs.YtgpibcgebpgmiaaDoor


/-
Reading the bytes of an encoding: plain Lean.
-/
namespace Go.Eng
open Go
abbrev Bs := List UInt8
/-- an unsigned number: its byte number i comes next; an error, or the number and what is left -/
def rdU : Nat → Bs → Sum Int (Nat × Bs)
  | i, [] => if i = 10 then .inl 7 else .inl 6
  | i, c :: r => if i = 10 then .inl 7 else if c.toNat < 128 then (if (i = 9 ∧ 1 < c.toNat) ∨ (0 < i ∧ c.toNat = 0) then .inl 7 else .inr (c.toNat, r))
    else match rdU (i + 1) r with
      | .inl e => .inl e
      | .inr (v, r') => .inr (c.toNat % 128 + 128 * v, r')
theorem pow_split (i : Nat) (h : i ≤ 8) : 2 ^ (64 - 7 * i) = 128 * 2 ^ (64 - 7 * (i + 1)) := by
  rw [show (128 : Nat) = 2 ^ 7 from rfl, ← Nat.pow_add]
  congr 1
  omega
theorem rdU_dec (bs : Bs) : ∀ (i v : Nat) (r : Bs), i ≤ 9 → rdU i bs = .inr (v, r) → bs = uintB v ++ r ∧ v < 2 ^ (64 - 7 * i) ∧ (0 < i → 0 < v) := by
  induction bs with
  | nil => intro i v r hi h; rw [rdU, if_neg (by omega)] at h; cases h
  | cons c bs ih =>
    intro i v r hi h
    rw [rdU, if_neg (by omega)] at h
    split at h
    · rename_i hc
      split at h
      · cases h
      · rename_i hn
        simp only [Sum.inr.injEq, Prod.mk.injEq] at h
        obtain ⟨rfl, rfl⟩ := h
        refine ⟨?_, ?_, fun h0 => ?_⟩
        · rw [uintB_lo hc]
          simp
        · rcases Nat.lt_or_ge i 9 with h1 | h1
          · have : 2 ^ 7 ≤ 2 ^ (64 - 7 * i) := Nat.pow_le_pow_right (by decide) (by omega)
            omega
          · have : i = 9 := by omega
            subst this
            simp only [show 64 - 7 * 9 = 1 from rfl]
            omega
        · omega
    · rename_i hc
      rcases Nat.lt_or_ge i 9 with h1 | h1
      · cases hr : rdU (i + 1) bs with
        | inl e => rw [hr] at h; cases h
        | inr p =>
          obtain ⟨v', r'⟩ := p
          rw [hr] at h
          simp only [Sum.inr.injEq, Prod.mk.injEq] at h
          obtain ⟨rfl, rfl⟩ := h
          obtain ⟨e1, e2, e3⟩ := ih (i + 1) v' r' (by omega) hr
          have hp := pow_split i (by omega)
          have hc2 : c.toNat < 256 := c.toNat_lt
          have hv0 := e3 (by omega)
          refine ⟨?_, by omega, by omega⟩
          rw [uintB_hi (by omega), e1, show (c.toNat % 128 + 128 * v') / 128 = v' by omega]
          have : UInt8.ofNat (128 + (c.toNat % 128 + 128 * v') % 128) = c := by
            apply UInt8.toNat_inj.1
            rw [UInt8.toNat_ofNat']
            omega
          rw [this]
          rfl
      · have hi9 : i = 9 := by omega
        subst hi9
        cases bs with
        | nil => rw [rdU, if_pos rfl] at h; cases h
        | cons d bs => rw [rdU, if_pos rfl] at h; cases h
/-! ### a reader: what is left, the error -/
structure Rs where
  bs : Bs
  e : Int
def uintS (s : Rs) : Rs × Nat :=
  if s.e = 0 then (match rdU 0 s.bs with
    | .inl e => (⟨s.bs, e⟩, 0)
    | .inr (v, r) => (⟨r, 0⟩, v)) else (s, 0)
/-- the number of an unsigned number -/
def zagI (u : Nat) : Int := if u % 2 = 1 then -((u / 2 : Nat) : Int) - 1 else ((u / 2 : Nat) : Int)
theorem zig_zag (u : Nat) : zigN (zagI u) = u := by
  unfold zagI zigN
  split <;> split <;> omega
theorem zag_I64 {u : Nat} (h : u < 18446744073709551616) : I64 (zagI u) := by
  unfold zagI I64
  split <;> omega
def intS (s : Rs) : Rs × Int := ((uintS s).1, zagI (uintS s).2)
def lengthS (most : Nat) (s : Rs) : Rs × Nat :=
  if (uintS s).1.e = 0 then (if most < (uintS s).2 then (⟨(uintS s).1.bs, 2⟩, 0) else uintS s) else ((uintS s).1, 0)
def textS (most : Nat) (s : Rs) : Rs × Str :=
  if (lengthS most s).1.e = 0 then (if (lengthS most s).1.bs.length < (lengthS most s).2 then (⟨(lengthS most s).1.bs, 6⟩, [])
    else (⟨(lengthS most s).1.bs.drop (lengthS most s).2, 0⟩, (lengthS most s).1.bs.take (lengthS most s).2)) else ((lengthS most s).1, [])
def intsLp : Nat → Rs → List Int → Rs × List Int
  | 0, s, out => (s, out)
  | n + 1, s, out => if s.e = 0 then intsLp n (intS s).1 (out ++ [(intS s).2]) else (s, out)
def intsS (most : Nat) (s : Rs) : Rs × List Int :=
  if (intsLp (lengthS most s).2 (lengthS most s).1 []).1.e = 0 then intsLp (lengthS most s).2 (lengthS most s).1 [] else ((intsLp (lengthS most s).2 (lengthS most s).1 []).1, [])
def endS (s : Rs) : Int := if s.e = 0 ∧ 0 < s.bs.length then 7 else s.e

theorem rdU_err (bs : Bs) : ∀ (i : Nat) (e : Int), rdU i bs = .inl e → e = 6 ∨ e = 7 := by
  induction bs with
  | nil =>
    intro i e h
    rw [rdU] at h
    split at h <;> cases h <;> simp
  | cons c bs ih =>
    intro i e h
    rw [rdU] at h
    split at h
    · cases h; simp
    · split at h
      · split at h <;> cases h; simp
      · cases hr : rdU (i + 1) bs with
        | inl e' => rw [hr] at h; cases h; exact ih _ _ hr
        | inr p => rw [hr] at h; cases h
theorem uintS_dec {s : Rs} (h : (uintS s).1.e = 0) : s.e = 0 ∧ s.bs = uintB (uintS s).2 ++ (uintS s).1.bs ∧ (uintS s).2 < 18446744073709551616 := by
  unfold uintS at h ⊢
  split
  · rename_i h0
    rw [if_pos h0] at h
    cases hr : rdU 0 s.bs with
    | inl e =>
      rw [hr] at h
      have := rdU_err _ _ _ hr
      simp only at h
      omega
    | inr p =>
      obtain ⟨v, r⟩ := p
      obtain ⟨e1, e2, _⟩ := rdU_dec s.bs 0 v r (by omega) hr
      exact ⟨h0, e1, by simpa using e2⟩
  · rename_i h0
    rw [if_neg h0] at h
    exact absurd h h0
theorem uintS_bad {s : Rs} (h : s.e ≠ 0) : uintS s = (s, 0) := by unfold uintS; rw [if_neg h]
theorem intS_dec {s : Rs} (h : (intS s).1.e = 0) : s.e = 0 ∧ s.bs = intB (intS s).2 ++ (intS s).1.bs ∧ I64 (intS s).2 := by
  obtain ⟨h1, h2, h3⟩ := uintS_dec (s := s) h
  exact ⟨h1, by unfold intB intS; rw [zig_zag]; exact h2, zag_I64 h3⟩
theorem lengthS_dec {s : Rs} {most : Nat} (h : (lengthS most s).1.e = 0) : s.e = 0 ∧ s.bs = uintB (lengthS most s).2 ++ (lengthS most s).1.bs ∧ (lengthS most s).2 ≤ most := by
  unfold lengthS at h ⊢
  split
  · rename_i h0
    rw [if_pos h0] at h
    split
    · rename_i h1; rw [if_pos h1] at h; simp at h
    · rename_i h1
      obtain ⟨e1, e2, _⟩ := uintS_dec h0
      exact ⟨e1, e2, by omega⟩
  · rename_i h0
    rw [if_neg h0] at h
    exact absurd h h0
theorem textS_dec {s : Rs} {most : Nat} (h : (textS most s).1.e = 0) : s.e = 0 ∧ s.bs = textB (textS most s).2 ++ (textS most s).1.bs ∧ (textS most s).2.length ≤ most := by
  unfold textS at h ⊢
  split
  · rename_i h0
    rw [if_pos h0] at h
    split
    · rename_i h1; rw [if_pos h1] at h; simp at h
    · rename_i h1
      obtain ⟨e1, e2, e3⟩ := lengthS_dec h0
      have hl : ((lengthS most s).1.bs.take (lengthS most s).2).length = (lengthS most s).2 := by rw [List.length_take]; omega
      refine ⟨e1, ?_, by simp only; omega⟩
      unfold textB
      simp only
      rw [hl, List.append_assoc, List.take_append_drop]
      exact e2
  · rename_i h0
    rw [if_neg h0] at h
    exact absurd h h0
theorem intsLp_bad {s : Rs} (h : s.e ≠ 0) : ∀ (n : Nat) (out : List Int), intsLp n s out = (s, out)
  | 0, _ => rfl
  | n + 1, out => by unfold intsLp; rw [if_neg h]
theorem intsLp_dec : ∀ (n : Nat) (s : Rs) (out : List Int), (intsLp n s out).1.e = 0 → s.e = 0 ∧ ∃ l, l.length = n ∧ (intsLp n s out).2 = out ++ l ∧ s.bs = l.flatMap intB ++ (intsLp n s out).1.bs ∧ ∀ z ∈ l, I64 z
  | 0, s, out, h => ⟨h, [], rfl, by simp [intsLp], by simp [intsLp], by simp⟩
  | n + 1, s, out, h => by
    by_cases h0 : s.e = 0
    · unfold intsLp at h ⊢
      rw [if_pos h0] at h ⊢
      obtain ⟨h1, l, h2, h3, h4, h5⟩ := intsLp_dec n _ _ h
      obtain ⟨e1, e2, e3⟩ := intS_dec h1
      refine ⟨h0, (intS s).2 :: l, by simp [h2], by rw [h3]; simp, ?_, ?_⟩
      · rw [e2, h4, List.flatMap_cons, List.append_assoc]
      · intro z hz
        rcases List.mem_cons.1 hz with rfl | hz
        · exact e3
        · exact h5 z hz
    · rw [intsLp_bad h0] at h
      exact absurd h h0
theorem intsS_dec {s : Rs} {most : Nat} (h : (intsS most s).1.e = 0) : s.e = 0 ∧ s.bs = intsB (intsS most s).2 ++ (intsS most s).1.bs ∧ (intsS most s).2.length ≤ most ∧ ∀ z ∈ (intsS most s).2, I64 z := by
  unfold intsS at h ⊢
  split
  · rename_i h0
    obtain ⟨h1, l, h2, h3, h4, h5⟩ := intsLp_dec _ _ _ h0
    obtain ⟨e1, e2, e3⟩ := lengthS_dec h1
    rw [List.nil_append] at h3
    refine ⟨e1, ?_, by rw [h3]; omega, by rw [h3]; exact h5⟩
    rw [h3]
    unfold intsB
    rw [h2, List.append_assoc, ← h4]
    exact e2
  · rename_i h0
    rw [if_neg h0] at h
    exact absurd h h0
end Go.Eng


namespace Go.Proofs.YtgpibcgebpgmiaaDoor
open Go Go.Eng Go.RowKit
set_option linter.unusedVariables false
/-- instructions from their numbers -/
def pairF : List Int → List Ins
  | a :: b :: r => ⟨a, b⟩ :: pairF r
  | _ => []
theorem flatF_pairF : ∀ l : List Int, l.length % 2 = 0 → flatF (pairF l) = l
  | [], _ => rfl
  | [_], h => by simp at h
  | a :: b :: r, h => by
    rw [pairF]
    show a :: b :: flatF (pairF r) = _
    rw [flatF_pairF r (by simp only [List.length_cons] at h; omega)]
theorem pairF_len : ∀ l : List Int, (pairF l).length = l.length / 2
  | [] => rfl
  | [_] => by simp [pairF]
  | a :: b :: r => by rw [pairF, List.length_cons, pairF_len r]; simp only [List.length_cons]; omega
theorem pairF_I64 : ∀ (l : List Int), (∀ z ∈ l, I64 z) → ∀ x ∈ pairF l, I64 x.op ∧ I64 x.n
  | [], _, x, hx => by cases hx
  | [_], _, x, hx => by cases hx
  | a :: b :: r, h, x, hx => by
    rw [pairF] at hx
    rcases List.mem_cons.1 hx with rfl | hx
    · exact ⟨h a (by simp), h b (by simp)⟩
    · exact pairF_I64 r (fun z hz => h z (by simp [hz])) x hx
/-- the steps of the decoder -/
def dS1 (bs : Bs) := textS 12 ⟨bs, 0⟩
def dS2 (bs : Bs) := intS (dS1 bs).1
def dS3 (bs : Bs) := textS 12 (dS2 bs).1
def dS4 (bs : Bs) := intsS 400 (dS3 bs).1
def dS5 (bs : Bs) := intsS 400 (dS4 bs).1
def dS6 (bs : Bs) := textS 12 (dS5 bs).1
def dS7 (bs : Bs) := textS 12 (dS6 bs).1
def decQ (bs : Bs) : Cr := ⟨(dS1 bs).2, (dS2 bs).2, (dS3 bs).2, pairF (dS4 bs).2, pairF (dS5 bs).2, (dS6 bs).2, (dS7 bs).2⟩
def decE (bs : Bs) : Int :=
  if endS (dS7 bs).1 = 0 then (if (dS4 bs).2.length % 2 = 1 ∨ (dS5 bs).2.length % 2 = 1 then 7 else if chkC (decQ bs) = 0 then 0 else 22) else endS (dS7 bs).1
/-- the compiled rule of an encoding -/
def decF (bs : Bs) : Cr := if decE bs = 0 then decQ bs else crZ
theorem endS_ok {s : Rs} (h : endS s = 0) : s.e = 0 ∧ s.bs = [] := by
  unfold endS at h
  split at h
  · cases h
  · rename_i h1
    refine ⟨h, ?_⟩
    cases hb : s.bs with
    | nil => rfl
    | cons b r => exact absurd ⟨h, by rw [hb]; simp⟩ h1
/-- what a decoded rule is like -/
theorem dec_parts {bs : Bs} (h : endS (dS7 bs).1 = 0) : bs = textB (dS1 bs).2 ++ intB (dS2 bs).2 ++ textB (dS3 bs).2 ++ intsB (dS4 bs).2 ++ intsB (dS5 bs).2 ++ textB (dS6 bs).2 ++ textB (dS7 bs).2 ∧
    (dS1 bs).2.length ≤ 12 ∧ I64 (dS2 bs).2 ∧ (dS3 bs).2.length ≤ 12 ∧ ((dS4 bs).2.length ≤ 400 ∧ ∀ z ∈ (dS4 bs).2, I64 z) ∧ ((dS5 bs).2.length ≤ 400 ∧ ∀ z ∈ (dS5 bs).2, I64 z) ∧ (dS6 bs).2.length ≤ 12 ∧ (dS7 bs).2.length ≤ 12 := by
  obtain ⟨h7, hb⟩ := endS_ok h
  obtain ⟨h6, e7, l7⟩ := textS_dec (s := (dS6 bs).1) (most := 12) h7
  obtain ⟨h5, e6, l6⟩ := textS_dec (s := (dS5 bs).1) (most := 12) h6
  obtain ⟨h4, e5, l5⟩ := intsS_dec (s := (dS4 bs).1) (most := 400) h5
  obtain ⟨h3, e4, l4⟩ := intsS_dec (s := (dS3 bs).1) (most := 400) h4
  obtain ⟨h2, e3, l3⟩ := textS_dec (s := (dS2 bs).1) (most := 12) h3
  obtain ⟨h1, e2, l2⟩ := intS_dec (s := (dS1 bs).1) h2
  obtain ⟨_, e1, l1⟩ := textS_dec (s := ⟨bs, 0⟩) (most := 12) h1
  refine ⟨?_, l1, l2, l3, l4, l5, l6, l7⟩
  have e7' : (dS6 bs).1.bs = textB (dS7 bs).2 := by
    have : (dS6 bs).1.bs = textB (dS7 bs).2 ++ (dS7 bs).1.bs := e7
    rw [this, hb, List.append_nil]
  have a1 : bs = textB (dS1 bs).2 ++ (dS1 bs).1.bs := e1
  have a2 : (dS1 bs).1.bs = intB (dS2 bs).2 ++ (dS2 bs).1.bs := e2
  have a3 : (dS2 bs).1.bs = textB (dS3 bs).2 ++ (dS3 bs).1.bs := e3
  have a4 : (dS3 bs).1.bs = intsB (dS4 bs).2 ++ (dS4 bs).1.bs := e4
  have a5 : (dS4 bs).1.bs = intsB (dS5 bs).2 ++ (dS5 bs).1.bs := e5
  have a6 : (dS5 bs).1.bs = textB (dS6 bs).2 ++ (dS6 bs).1.bs := e6
  simp only [List.append_assoc]
  rw [← e7', ← a6, ← a5, ← a4, ← a3, ← a2, ← a1]
/-- what is accepted has these bytes as its encoding -/
theorem enc_dec {bs : Bs} (h : decE bs = 0) : encC (decQ bs) = bs ∧ CrOk (decQ bs) := by
  unfold decE at h
  split at h
  · rename_i h0
    obtain ⟨e1, l1, l2, l3, l4, l5, l6, l7⟩ := dec_parts h0
    split at h
    · cases h
    · rename_i hp
      constructor
      · unfold encC decQ
        simp only
        rw [flatF_pairF _ (by omega), flatF_pairF _ (by omega)]
        exact e1.symm
      · have p4 := pairF_len (dS4 bs).2
        have p5 := pairF_len (dS5 bs).2
        exact ⟨l2, pairF_I64 _ l4.2, pairF_I64 _ l5.2, by show (pairF _).length ≤ _; omega, by show (pairF _).length ≤ _; omega, Nat.le_trans l1 (by decide), Nat.le_trans l3 (by decide), Nat.le_trans l6 (by decide), Nat.le_trans l7 (by decide)⟩
  · rename_i h0
    exact absurd h h0
/-- what a rule must be like to be decoded -/
structure CrFit (q : Cr) : Prop where
  frm : I64 q.frm
  cnd : ∀ x ∈ q.cnd, I64 x.op ∧ I64 x.n
  due : ∀ x ∈ q.due, I64 x.op ∧ I64 x.n
  lcnd : q.cnd.length ≤ 200
  ldue : q.due.length ≤ 200
  lname : q.name.length ≤ 12
  lon : q.on.length ≤ 12
  lunl : q.unl.length ≤ 12
  lels : q.els.length ≤ 12
theorem CrFit.ok {q : Cr} (h : CrFit q) : CrOk q := ⟨h.frm, h.cnd, h.due, Nat.le_trans h.lcnd (by decide), Nat.le_trans h.ldue (by decide), Nat.le_trans h.lname (by decide), Nat.le_trans h.lon (by decide), Nat.le_trans h.lunl (by decide), Nat.le_trans h.lels (by decide)⟩
end Go.Proofs.YtgpibcgebpgmiaaDoor


namespace Go.Proofs.YtgpibcgebpgmiaaDoor
open Go Go.Eng Go.RowKit
set_option linter.unusedVariables false
/-- the code c lies at p in C -/
def Seg (C : List Ins) (p : Nat) (c : List Ins) : Prop := ∃ A B, C = A ++ c ++ B ∧ A.length = p
theorem Seg.left {C a b : List Ins} {p : Nat} (h : Seg C p (a ++ b)) : Seg C p a := by
  obtain ⟨A, B, rfl, hp⟩ := h
  exact ⟨A, b ++ B, by simp, hp⟩
theorem Seg.right {C a b : List Ins} {p : Nat} (h : Seg C p (a ++ b)) : Seg C (p + a.length) b := by
  obtain ⟨A, B, rfl, hp⟩ := h
  exact ⟨A ++ a, B, by simp, by simp [hp]⟩
theorem Seg.at {C r : List Ins} {x : Ins} {p : Nat} (h : Seg C p (x :: r)) : C.getD p ⟨0, 0⟩ = x := by
  obtain ⟨A, B, rfl, hp⟩ := h
  subst hp
  simp
end Go.Proofs.YtgpibcgebpgmiaaDoor


namespace Go.Proofs.YtgpibcgebpgmiaaDoor
open Go Go.Eng Go.RowKit
set_option linter.unusedVariables false
set_option linter.unusedSimpArgs false
end Go.Proofs.YtgpibcgebpgmiaaDoor


namespace Go.Proofs.YtgpibcgebpgmiaaDoor
open Go Go.Eng Go.RowKit
set_option linter.unusedVariables false
set_option linter.unusedSimpArgs false
/-! ### parts -/
theorem PartR.type {m n a b : Nd} (h : PartR m n a b) : typeT n ≠ 0 → typeT a ≠ 0 := by
  induction h with
  | here n => exact id
  | kid n i hi a b h ih => exact fun ht => ih (typeT_kid ht (List.getElem_mem hi))
theorem PartR.same {m n a b : Nd} (h : PartR m n a b) : typeT a = typeT m → typeT b = typeT n := by
  induction h with
  | here n => exact fun h => h.symm
  | kid n i hi a b h ih =>
    intro hm
    have hb := ih hm
    rw [typeT_eq (.mk _ _ _ _), typeT_eq n]
    show combT n.kind n.num n.word ((n.kids.set i b).map typeT) = _
    rw [List.map_set, hb]
    congr 1
    apply List.ext_getElem (by simp)
    intro j h1 h2
    rw [List.getElem_set]
    split
    · rename_i e; subst e; simp
    · rfl
end Go.Proofs.YtgpibcgebpgmiaaDoor

/-
The walk engine, part 4 B: as part 4, with a base below which the old blocks stand (blocks made inside the region may change). The operations are taken in one order of our own; each either yields one value in every world that may come up, or is the only one that is ready.
-/
namespace Go.EngB
open Go Go.Eng Go.RowKit Go.Proofs
set_option linter.unusedVariables false
/-- the blocks below S.1 that are not of S.2 stand -/
structure StpB (S : Nat × List Nat) (w w' : World) : Prop where
  os : w'.os = w.os
  tape : w'.tape = w.tape
  output : w'.output = w.output
  size : w.heap.size ≤ w'.heap.size
  block : ∀ b, b < S.1 → b ∉ S.2 → w'.heap[b]? = w.heap[b]?
theorem StpB.refl (S : Nat × List Nat) (w : World) : StpB S w w := ⟨rfl, rfl, rfl, Nat.le_refl _, fun _ _ _ => rfl⟩
theorem StpB.trans {S : Nat × List Nat} {a b c : World} (h : StpB S a b) (k : StpB S b c) : StpB S a c :=
  ⟨k.os.trans h.os, k.tape.trans h.tape, k.output.trans h.output, Nat.le_trans h.size k.size, fun x hx hn => (k.block x hx hn).trans (h.block x hx hn)⟩
theorem StpB.blk {B b T : Nat} {cs : List Value} {w w' : World} (h : StpB (B, []) w w') (hb : Blk w b T cs) (hl : b < B) : Blk w' b T cs := by
  unfold Blk at *
  rw [h.block b hl (by simp)]
  exact hb

section any
variable {P : Program} {ops : Array Oper} {md : Region.Mode} {S : Nat × List Nat} {Lt : Nat → Bool}

theorem wp_noQ {o : Oper} {a : Act} {w : World} {K : Act → World → Prop} {Q : Exit → Act → World → Prop} (h : o.wp P a w K (fun _ _ _ => False)) : o.wp P a w K Q := by
  unfold Oper.wp at *
  generalize (execOp a.eval o).run P w = r at *
  cases r with
  | ok n w' =>
    cases n <;> simp only [Oper.upon] at h ⊢
    case enter f args =>
      refine Calls.mono h (fun e w'' he => ?_)
      cases e with
      | returned v => exact he
      | panicked c => exact he.elim
      | outgrown => obtain ⟨_, _, hf⟩ := he; exact hf.elim
    all_goals exact h
  | halt x w' => cases x <;> simp only [Oper.upon] at h

theorem wpOp_noQ {i : Nat} {K : Act → World → Prop} {Q : Exit → Act → World → Prop} {a : Act} {w : World} (h : wpOp P ops (fun _ _ _ => False) i K a w) : wpOp P ops Q i K a w := by
  unfold wpOp at *
  cases ho : ops[i]? with
  | none => simp only [ho] at h ⊢; exact h
  | some o =>
    simp only [ho] at h ⊢
    split
    · rename_i hw
      simp only [hw, if_true] at h
      rcases h with h | ⟨_, _, _, hf⟩
      · exact .inl (wp_noQ h)
      · exact hf.elim
    · rename_i hw; simp only [hw] at h; exact h

/-- whatever order is picked from here on; the old blocks stand but behind the operations of Lt -/
def wpAnyE (P : Program) (md : Region.Mode) (ops : Array Oper) (S : Nat × List Nat) (Lt : Nat → Bool) (Z : Act → World → Prop) : Nat → Array Bool → Act → World → Prop
  | 0, listed, a, w => Region.ready md ops listed = [] ∧ Z a w
  | fuel + 1, listed, a, w =>
    (Region.ready md ops listed = [] → Z a w) ∧
    ∀ i ∈ Region.ready md ops listed, wpOp P ops (fun _ _ _ => False) i (fun a' w' => (StpB S w w' ∨ Lt i = true) ∧ wpAnyE P md ops S Lt Z fuel (listed.setIfInBounds i true) a' w') a w

theorem wpAny_of_E {Z : Act → World → Prop} {Q : Exit → Act → World → Prop} (hZ : ∀ a w, Z a w → Q .normal a w) : ∀ (fuel : Nat) (listed : Array Bool) (a : Act) (w : World),
    wpAnyE P md ops S Lt Z fuel listed a w → wpAny P md ops Q fuel listed a w
  | 0, _, _, _, h => ⟨h.1, hZ _ _ h.2⟩
  | fuel + 1, _, _, _, h => ⟨fun h0 => hZ _ _ (h.1 h0), fun i hi => wpOp_mono (fun a' w' hk => wpAny_of_E hZ fuel _ a' w' hk.2) (wpOp_noQ (h.2 i hi))⟩

/-- operation o yields v in every world to which R leads -/
def YE (P : Program) (ops : Array Oper) (R : World → World → Prop) (o : Oper) (v : Value) (a : Act) (w : World) : Prop :=
  (Region.wanted o (yielded ops a.tmps) = true ∧ ∀ w', R w w' → (execOp a.eval o).run P w' = .ok (.value v) w') ∨
  (Region.wanted o (yielded ops a.tmps) = false ∧ v = undef)

theorem YE.same {R : World → World → Prop} {o : Oper} {v : Value} {a a' : Act} {w : World} (hy : YE P ops R o v a w) (he : execOp a'.eval o = execOp a.eval o)
    (hw : Region.wanted o (yielded ops a'.tmps) = Region.wanted o (yielded ops a.tmps)) : YE P ops R o v a' w := by
  unfold YE at *
  rw [he, hw]
  exact hy

theorem first_E {Z : Act → World → Prop} {R : World → World → Prop} (hR0 : ∀ w, R w w) (hRt : ∀ a b c, R a b → R b c → R a c) {i : Nat} {oi : Oper} {v : Value} (hi : ops[i]? = some oi)
    (hRs : ∀ j oj, ops[j]? = some oj → (∀ e ∈ oj.after, Region.binds md e = true → e.on ≠ i) → j ≠ i → ∀ w w', (StpB S w w' ∨ Lt j = true) → R w w')
    (hsel : ∀ (j : Nat) (o : Oper) cs b, ops[j]? = some o → o.op ≠ .select cs b) :
    ∀ (fuel : Nat) (listed : Array Bool) (a : Act) (w : World),
      (∀ j oj, ops[j]? = some oj → j ≠ i → listed.getD j true = false → (∀ e ∈ oj.after, Region.binds md e = true → e.on ≠ i) → oi.apart ops oj = true) →
      (StpB S w w ∨ Lt i = true → True) → i ∈ Region.ready md ops listed → YE P ops R oi v a w →
      wpAnyE P md ops S Lt Z fuel (listed.setIfInBounds i true) (a.put oi.dst v) w → wpAnyE P md ops S Lt Z (fuel + 1) listed a w := by
  have now : ∀ (fuel : Nat) (listed : Array Bool) (a : Act) (w : World), YE P ops R oi v a w → wpAnyE P md ops S Lt Z fuel (listed.setIfInBounds i true) (a.put oi.dst v) w →
      wpOp P ops (fun _ _ _ => False) i (fun a' w' => (StpB S w w' ∨ Lt i = true) ∧ wpAnyE P md ops S Lt Z fuel (listed.setIfInBounds i true) a' w') a w := by
    intro fuel listed a w hy H
    unfold wpOp
    simp only [hi]
    rcases hy with ⟨hw, hv⟩ | ⟨hw, rfl⟩
    · simp only [hw, if_true, Oper.wp, hv w (hR0 w), Oper.upon]; exact .inl ⟨.inl (StpB.refl _ _), H⟩
    · simp only [hw, Bool.false_eq_true, if_false]; exact ⟨.inl (StpB.refl _ _), H⟩
  intro fuel
  induction fuel with
  | zero =>
    intro listed a w _ _ hr hy H
    refine ⟨fun h => (by rw [h] at hr; cases hr), fun j hj => ?_⟩
    by_cases hji : j = i
    · subst hji; exact now _ _ _ _ hy H
    · have := ready_mono hj hji
      rw [H.1] at this
      cases this
  | succ fuel ih =>
    intro listed a w hfree hx hr hy H
    refine ⟨fun h => (by rw [h] at hr; cases hr), fun j hj => ?_⟩
    by_cases hji : j = i
    · subst hji; exact now _ _ _ _ hy H
    · have h1 := H.2 j (ready_mono hj hji)
      obtain ⟨hjun, oj, hoj, hall⟩ := mem_ready.1 hj
      have hnot : ∀ e ∈ oj.after, Region.binds md e = true → e.on ≠ i := fun e he hb heq => by
        have h1 := hall e he hb
        have h0 := (mem_ready.1 hr).1
        rw [heq] at h1
        rcases Nat.lt_or_ge i listed.size with h' | h'
        · simp [h'] at h0 h1; rw [h0] at h1; cases h1
        · simp [Array.getElem?_eq_none h'] at h1
      have hap := hfree j oj hoj hji hjun hnot
      obtain ⟨p1, p2, p3⟩ := Oper.apart_spec hap
      have keep : ∀ (a : Act), YE P ops R oi v a w → ∀ u, YE P ops R oi v (a.put oj.dst u) w := fun a hy u =>
        hy.same (execOp_put oi (fun cs b => hsel i oi cs b hi) a oj.dst u p3) (wanted_put oi a oj.dst u p3)
      have keepD : ∀ (a : Act) d, YE P ops R oi v a w → YE P ops R oi v { a with defers := d :: a.defers } w := fun a d hy => hy.same rfl rfl
      have later : ∀ (a : Act) w', (StpB S w w' ∨ Lt j = true) → YE P ops R oi v a w → YE P ops R oi v a w' := fun a w' hs hy => by
        rcases hy with ⟨hw, hv⟩ | hw
        · exact .inl ⟨hw, fun w'' h'' => hv w'' (hRt _ _ _ (hRs j oj hoj hnot hji w w' hs) h'')⟩
        · exact .inr hw
      have hfree' : ∀ k ok, ops[k]? = some ok → k ≠ i → (listed.setIfInBounds j true).getD k true = false →
          (∀ e ∈ ok.after, Region.binds md e = true → e.on ≠ i) → oi.apart ops ok = true := fun k ok hk hki hun hno => by
        refine hfree k ok hk hki ?_ hno
        by_cases hjk : j = k
        · subst hjk; exact hjun
        · rw [getD_set_ne true hjk] at hun; exact hun
      have fin : ∀ a' w', YE P ops R oi v a' w → (StpB S w w' ∨ Lt j = true) ∧ wpAnyE P md ops S Lt Z fuel ((listed.setIfInBounds i true).setIfInBounds j true) (a'.put oi.dst v) w' →
          (StpB S w w' ∨ Lt j = true) ∧ wpAnyE P md ops S Lt Z (fuel + 1) (listed.setIfInBounds j true) a' w' := by
        rintro a' w' hy' ⟨hs, hk⟩
        refine ⟨hs, ih _ a' w' hfree' (fun _ => trivial) (ready_mono hr (Ne.symm hji)) (later a' w' hs hy') ?_⟩
        rw [Array.setIfInBounds_comm _ _ hji]
        exact hk
      have hsj : ∀ cs b, oj.op ≠ .select cs b := fun cs b => hsel j oj cs b hoj
      unfold wpOp at *
      simp only [hoj] at *
      rw [wanted_put oj a oi.dst v p1] at h1
      split
      · rename_i hw
        simp only [hw, if_true] at h1
        rcases h1 with h1 | ⟨_, _, _, hf⟩
        case inr => exact hf.elim
        refine .inl ?_
        unfold Oper.wp at *
        rw [execOp_put oj hsj a oi.dst v p1] at h1
        generalize (execOp a.eval oj).run P w = r at *
        cases r with
        | ok n w' =>
          cases n <;> simp only [Oper.upon] at h1 ⊢
          case value u => exact fin _ _ (keep a hy u) (by rw [← Act.put_comm a v u p2]; exact h1)
          case skip => exact fin _ _ (keep a hy _) (by rw [← Act.put_comm a v undef p2]; exact h1)
          case defer d =>
            refine fin _ _ (keep _ (keepD a d hy) _) ?_
            rw [← Act.put_comm _ v undef p2, ← Act.put_defers]
            exact h1
          case enter f args =>
            refine Calls.mono h1 fun e w'' he => ?_
            cases e with
            | returned u => exact fin _ _ (keep a hy u) (by rw [← Act.put_comm a v u p2]; exact he)
            | panicked c => exact he
            | outgrown => exact he
          case row row args => exact Rows.mono h1 fun u w'' he => fin _ _ (keep a hy u) (by rw [← Act.put_comm a v u p2]; exact he)
        | halt x w' =>
          cases x <;> simp only [Oper.upon] at h1
      · rename_i hw
        simp only [hw] at h1
        exact fin _ _ (keep a hy _) (by rw [← Act.put_comm a v undef p2]; exact h1)
end any

/-! ### the order, and what a Bool asks of it -/
/-- 0: yields one value in every world; 1: in every world in which the old blocks stand; else: it alone is ready -/
def bound (ops : Array Oper) (Lt : List Nat) (i : Nat) : Bool :=
  Lt.all fun j => j == i || (match ops[j]? with | some oj => oj.after.any (fun e => Region.binds .any e && e.on == i) | none => true)
/-- the numbers of the bits that are set -/
def bits (m : Nat) : List Nat := (List.range 64).filter (fun j => m.testBit j)
def subs : List Nat → List (List Nat)
  | [] => [[]]
  | x :: r => subs r ++ (subs r).map (x :: ·)
/-- all of 'is' but those of 'rem' are listed -/
def lst (listed : Array Bool) (is rem : List Nat) : Array Bool := Array.ofFn (n := listed.size) fun j => listed[j] || (is.contains j.val && !rem.contains j.val)
/-- tags: below 100000 one operation; from there on a set of operations without order, as bits -/
def wt : List (Nat × Nat) → Nat
  | [] => 0
  | (_, k) :: r => (if k < 100000 then 1 else (bits (k - 100000)).length) + wt r
theorem wt_small {i k : Nat} {r : List (Nat × Nat)} (h : k < 100000) : wt ((i, k) :: r) = wt r + 1 := by simp [wt, h]; omega
/-- 'sk': an operation that was listed already, and whose place in the order is passed over -/
def checkS (ops : Array Oper) (Lt : List Nat) : List (Nat × Nat) → Option Nat → Array Bool → Bool
  | [], sk, listed => sk.isNone && (Region.ready .any ops listed).isEmpty
  | (i, 0) :: r, sk, listed => (Region.ready .any ops listed).contains i && Region.free .any ops listed i && checkS ops Lt r sk (listed.setIfInBounds i true)
  | (i, 1) :: r, sk, listed => (Region.ready .any ops listed).contains i && Region.free .any ops listed i && bound ops Lt i && checkS ops Lt r sk (listed.setIfInBounds i true)
  | (i, 2) :: r, sk, listed => if sk = some i then checkS ops Lt r none listed else Region.ready .any ops listed == [i] && checkS ops Lt r sk (listed.setIfInBounds i true)
  | (i, q + 3) :: r, sk, listed => if sk = some q ∧ q + 3 < 100000 then (Region.ready .any ops listed == [i] && checkS ops Lt r sk (listed.setIfInBounds i true)) else sk.isNone && if q + 3 < 100000 then (Region.ready .any ops listed == [i, q] && checkS ops Lt r none (listed.setIfInBounds i true) && Region.ready .any ops (listed.setIfInBounds q true) == [i] && checkS ops Lt r (some q) ((listed.setIfInBounds q true).setIfInBounds i true))
    else (subs (bits (q + 3 - 100000))).all (fun rem => rem.isEmpty || Region.ready .any ops (lst listed (bits (q + 3 - 100000)) rem) == rem) && checkS ops Lt r none (lst listed (bits (q + 3 - 100000)) [])
def checkD (ops : Array Oper) (Lt : List Nat) (ord : List (Nat × Nat)) (listed : Array Bool) : Bool := checkS ops Lt ord none listed
def delO (q : Nat) : List (Nat × Nat) → List (Nat × Nat)
  | [] => []
  | (i, 2) :: r => if i = q then r else (i, 2) :: delO q r
  | (i, 0) :: r => (i, 0) :: delO q r
  | (i, 1) :: r => (i, 1) :: delO q r
  | (i, k + 3) :: r => if k = q ∧ k + 3 < 100000 then (i, 2) :: delO q r else (i, k + 3) :: delO q r
theorem checkS_del {ops : Array Oper} {Lt : List Nat} {q : Nat} : ∀ (r : List (Nat × Nat)) (listed : Array Bool), checkS ops Lt r (some q) listed = true → checkS ops Lt (delO q r) none listed = true ∧ wt r = wt (delO q r) + 1
  | [], listed, h => by simp [checkS] at h
  | (i, 0) :: r, listed, h => by
    simp only [checkS, Bool.and_eq_true] at h
    obtain ⟨h1, h2⟩ := checkS_del r _ h.2
    simp only [delO, checkS, Bool.and_eq_true]
    exact ⟨⟨h.1, h1⟩, by simp [wt, h2]; omega⟩
  | (i, 1) :: r, listed, h => by
    simp only [checkS, Bool.and_eq_true] at h
    obtain ⟨h1, h2⟩ := checkS_del r _ h.2
    simp only [delO, checkS, Bool.and_eq_true]
    exact ⟨⟨h.1, h1⟩, by simp [wt, h2]; omega⟩
  | (i, 2) :: r, listed, h => by
    by_cases e : i = q
    · subst e
      simp only [checkS, if_pos] at h
      simp only [delO, if_pos]
      exact ⟨h, by simp [wt]; omega⟩
    · have e' : ¬ (some q = some i) := by simpa using fun h => e h.symm
      simp only [checkS, if_neg e', Bool.and_eq_true] at h
      obtain ⟨h1, h2⟩ := checkS_del r _ h.2
      simp only [delO, if_neg e, checkS]
      refine ⟨?_, by simp [wt, h2]; omega⟩
      rw [if_neg (by simp)]
      simp only [Bool.and_eq_true]
      exact ⟨h.1, h1⟩
  | (i, k + 3) :: r, listed, h => by
    by_cases e : k = q ∧ k + 3 < 100000
    · simp only [checkS] at h
      rw [if_pos ⟨by rw [e.1], e.2⟩] at h
      simp only [Bool.and_eq_true] at h
      obtain ⟨h1, h2⟩ := checkS_del r _ h.2
      simp only [delO, if_pos e, checkS]
      refine ⟨?_, by rw [wt_small e.2, wt_small (by decide), h2]⟩
      rw [if_neg (by simp)]
      simp only [Bool.and_eq_true]
      exact ⟨h.1, h1⟩
    · simp only [checkS] at h
      rw [if_neg (fun h' => e ⟨(Option.some.inj h'.1).symm, h'.2⟩)] at h
      simp at h

structure WD (P : Program) (n : Nat) (ops : Array Oper) (S : Nat × List Nat) (Lt : List Nat) (Q : Exit → Act → World → Prop) (ord : List (Nat × Nat)) (e : Env) (w : World) : Prop where
  h : ∀ listed : Array Bool, Region.noSelect ops = true → checkD ops Lt ord listed = true → ∀ a, Has n e a → wpAnyE P .any ops S (fun j => Lt.contains j) (fun a w => Q .normal a w) (wt ord) listed a w

section rules
variable {P : Program} {n : Nat} {Q : Exit → Act → World → Prop} {e : Env} {w : World} {ops : Array Oper} {S : Nat × List Nat} {Lt : List Nat} {rest : List (Nat × Nat)}

theorem WC_drawn {id : Nat} {l : List Oper} (m : Nat) (S : Nat × List Nat) (Lt : List Nat) (ord : List (Nat × Nat)) (hlm : l.length = m) (hm : P.follows .mixedOrders = true) (hs : Region.noSelect l.toArray = true) (hl : Nat.beq (wt ord) l.length = true)
    (hB : checkD l.toArray Lt ord (Array.replicate m false) = true)
    (h : ∀ w', Stp [] w w' → WD P n l.toArray S Lt Q ord e w') : WC P n (.region id l.toArray true) Q e w := by
  subst hlm
  refine ⟨fun a ha => wp_region_any hm ?_⟩
  have h1 := (h { w with drawn := w.drawn + 1 } (Stp.drew [] w)).h _ hs hB a ha
  have h2 := wpAny_of_E (Q := Q) (fun a w hz => hz) _ _ _ _ h1
  rw [Nat.eq_of_beq_eq_true hl] at h2
  simpa using h2

theorem WD_nil (h : WQ n Q .normal e w) : WD P n ops S Lt Q [] e w :=
  ⟨fun _ _ hB a ha => ⟨by simpa [checkD, checkS] using hB, h.h a ha⟩⟩

def gdOk (ops : Array Oper) (e : Env) : Option (Nat × Bool) → Prop
  | none => True
  | some (j, b) => yld ops e j = some (.bool b)
theorem wanted_ok {o : Oper} {a : Act} (ha : Has n e a) (hg : gdOk ops e o.guard) : Region.wanted o (yielded ops a.tmps) = true := by
  unfold Region.wanted
  cases hgd : o.guard with
  | none => rfl
  | some jb =>
    obtain ⟨j, b⟩ := jb
    rw [hgd] at hg
    simp [yielded_of ha hg]
theorem WD_step0 {i d : Nat} {o : Oper} {v : Value} (hi : ops[i]? = some o) (hd : o.dst = some d) (hY : ∀ a, Has n e a → YE P ops (fun _ _ => True) o v a w) (hdn : Nat.blt d n = true)
    (k : WD P n ops S Lt Q rest ((d, v) :: e) w) : WD P n ops S Lt Q ((i, 0) :: rest) e w := by
  refine ⟨fun listed hs hB a ha => ?_⟩
  simp only [checkD, checkS, Bool.and_eq_true] at hB
  obtain ⟨⟨h1, h2⟩, h3⟩ := hB
  have hk := k.h _ hs h3 _ (ha.put (v := v) hdn)
  rw [← hd] at hk
  rw [wt_small (by decide)]
  exact first_E (R := fun _ _ => True) (fun _ => trivial) (fun _ _ _ _ _ => trivial) hi (fun _ _ _ _ _ _ _ _ => trivial) (Region.noSelect_spec hs) _ _ _ _ (Region.free_spec hi h2) (fun _ => trivial) (by simpa using h1) (hY a ha) hk

theorem bound_spec {i j : Nat} {oj : Oper} (hb : bound ops Lt i = true) (hj : ops[j]? = some oj) (hn : ∀ e ∈ oj.after, Region.binds .any e = true → e.on ≠ i) (hji : j ≠ i) : Lt.contains j = false := by
  cases hc : Lt.contains j with
  | false => rfl
  | true =>
    have hm : j ∈ Lt := by simpa using hc
    have := (List.all_eq_true.1 hb) j hm
    simp only [hj, Bool.or_eq_true, beq_iff_eq, hji, false_or] at this
    obtain ⟨e, he, hbe⟩ := Array.any_eq_true'.1 this
    simp only [Bool.and_eq_true, beq_iff_eq] at hbe
    exact absurd hbe.2 (hn e he hbe.1)

theorem WD_step1 {i d : Nat} {o : Oper} {v : Value} (hi : ops[i]? = some o) (hd : o.dst = some d) (hY : ∀ a, Has n e a → YE P ops (StpB S) o v a w) (hdn : Nat.blt d n = true)
    (k : WD P n ops S Lt Q rest ((d, v) :: e) w) : WD P n ops S Lt Q ((i, 1) :: rest) e w := by
  refine ⟨fun listed hs hB a ha => ?_⟩
  simp only [checkD, checkS, Bool.and_eq_true] at hB
  obtain ⟨⟨⟨h1, h2⟩, hb⟩, h3⟩ := hB
  have hk := k.h _ hs h3 _ (ha.put (v := v) hdn)
  rw [← hd] at hk
  rw [wt_small (by decide)]
  refine first_E (R := StpB S) (fun w => StpB.refl _ w) (fun _ _ _ h k => h.trans k) hi (fun j oj hj hn hji w w' hs => ?_) (Region.noSelect_spec hs) _ _ _ _ (Region.free_spec hi h2) (fun _ => trivial) (by simpa using h1) (hY a ha) hk
  rcases hs with hs | hs
  · exact hs
  · rw [bound_spec hb hj hn hji] at hs; cases hs

variable {i d : Nat} {op : Op} {ty : TypeId} {pos : String} {af : Array Edge} {gd : Option (Nat × Bool)} {v : Value}
/-- an operation that looks at no memory -/
theorem WD_free (hi : ops[i]? = some ⟨some d, op, ty, pos, af, gd⟩) (hg : gdOk ops e gd) (hp : ∀ w', PR P n ⟨some d, op, ty, pos, af, gd⟩ e w' v) (hdn : Nat.blt d n = true)
    (k : WD P n ops S Lt Q rest ((d, v) :: e) w) : WD P n ops S Lt Q ((i, 0) :: rest) e w :=
  WD_step0 hi rfl (fun a ha => .inl ⟨wanted_ok ha hg, fun w' _ => (hp w').h a ha⟩) hdn k
/-- one that reads old memory -/
theorem WD_read (hi : ops[i]? = some ⟨some d, op, ty, pos, af, gd⟩) (hg : gdOk ops e gd) (hp : ∀ w', StpB S w w' → PR P n ⟨some d, op, ty, pos, af, gd⟩ e w' v) (hdn : Nat.blt d n = true)
    (k : WD P n ops S Lt Q rest ((d, v) :: e) w) : WD P n ops S Lt Q ((i, 1) :: rest) e w :=
  WD_step1 hi rfl (fun a ha => .inl ⟨wanted_ok ha hg, fun w' hw => (hp w' hw).h a ha⟩) hdn k
/-- one that is passed over -/
theorem WD_pass0 (hi : ops[i]? = some ⟨some d, op, ty, pos, af, gd⟩) (hg : noB ops e gd = true) (hdn : Nat.blt d n = true)
    (k : WD P n ops S Lt Q rest ((d, undef) :: e) w) : WD P n ops S Lt Q ((i, 0) :: rest) e w :=
  WD_step0 hi rfl (fun a ha => .inr ⟨wanted_noB ha hg, rfl⟩) hdn k
theorem WD_pass1 (hi : ops[i]? = some ⟨some d, op, ty, pos, af, gd⟩) (hg : noB ops e gd = true) (hdn : Nat.blt d n = true)
    (k : WD P n ops S Lt Q rest ((d, undef) :: e) w) : WD P n ops S Lt Q ((i, 1) :: rest) e w :=
  WD_step1 hi rfl (fun a ha => .inr ⟨wanted_noB ha hg, rfl⟩) hdn k

/-- one operation, whatever else is ready -/
structure WD1 (P : Program) (n : Nat) (ops : Array Oper) (S : Nat × List Nat) (Lt : List Nat) (Q : Exit → Act → World → Prop) (i : Nat) (ord : List (Nat × Nat)) (e : Env) (w : World) : Prop where
  h : ∀ listed : Array Bool, Region.noSelect ops = true → checkD ops Lt ord (listed.setIfInBounds i true) = true → ∀ a, Has n e a →
    wpOp P ops (fun _ _ _ => False) i (fun a' w' => (StpB S w w' ∨ Lt.contains i = true) ∧ wpAnyE P .any ops S (fun j => Lt.contains j) (fun a w => Q .normal a w) (wt ord) (listed.setIfInBounds i true) a' w') a w
theorem WD1_mk {o : Oper} {dst : Option Nat} {G : Value → World → Prop} (hi : ops[i]? = some o) (hdst : o.dst = dst) (hg : gdOk ops e o.guard) (hp : OE P n o e w (fun v w' => (StpB S w w' ∨ Lt.contains i = true) ∧ G v w'))
    (k : ∀ v w' a', G v w' → ∀ a, Has n e a → a' = a.put dst v → ∃ e', Has n e' a' ∧ WD P n ops S Lt Q rest e' w') : WD1 P n ops S Lt Q i rest e w := by
  refine ⟨fun listed hs h3 a ha => ?_⟩
  unfold wpOp
  simp only [hi]
  rw [if_pos (wanted_ok ha hg)]
  refine .inl (Oper.wp_mono ?_ (hp.h a ha _))
  rintro a' w' ⟨v, rfl, hs', hG⟩
  obtain ⟨e', he', hk⟩ := k v w' (a.put o.dst v) hG a ha (by rw [hdst])
  exact ⟨hs', hk.h _ hs h3 _ he'⟩
theorem WD_one (h : WD1 P n ops S Lt Q i rest e w) : WD P n ops S Lt Q ((i, 2) :: rest) e w := by
  refine ⟨fun listed hs hB a ha => ?_⟩
  simp only [checkD, checkS] at hB
  rw [if_neg (by simp)] at hB
  simp only [Bool.and_eq_true, beq_iff_eq] at hB
  obtain ⟨h1, h3⟩ := hB
  rw [wt_small (by decide)]
  refine ⟨fun h0 => absurd (h1 ▸ h0) (by simp), fun j hj => ?_⟩
  rw [h1] at hj
  obtain rfl : j = i := by simpa using hj
  exact h.h _ hs h3 a ha
/-- two are ready, and both orders are shown -/
theorem WD_two {q : Nat} (hq : Nat.blt (q + 3) 100000 = true) (h1 : WD1 P n ops S Lt Q i rest e w) (h2 : WD1 P n ops S Lt Q q ((i, 2) :: delO q rest) e w) : WD P n ops S Lt Q ((i, q + 3) :: rest) e w := by
  refine ⟨fun listed hs hB a ha => ?_⟩
  have hq' : q + 3 < 100000 := Nat.le_of_ble_eq_true hq
  simp only [checkD, checkS] at hB
  rw [if_neg (by simp), if_pos hq'] at hB
  simp only [Bool.and_eq_true, beq_iff_eq] at hB
  obtain ⟨_, ⟨⟨hr, hr1⟩, hr2⟩, h3⟩ := hB
  obtain ⟨h4, h5⟩ := checkS_del _ _ h3
  have hw : wt ((i, q + 3) :: rest) = wt rest + 1 := wt_small hq'
  rw [hw]
  refine ⟨fun h0 => absurd (hr ▸ h0) (by simp), fun j hj => ?_⟩
  rw [hr] at hj
  have c2 : checkD ops Lt ((i, 2) :: delO q rest) (listed.setIfInBounds q true) = true := by
    simp only [checkD, checkS]
    rw [if_neg (by simp)]
    simp only [Bool.and_eq_true, beq_iff_eq]
    exact ⟨hr2, h4⟩
  have hw2 : wt rest = wt ((i, 2) :: delO q rest) := by rw [wt_small (by decide), h5]
  have hj' : j = i ∨ j = q := by simpa using hj
  rcases hj' with rfl | rfl
  · exact h1.h _ hs hr1 a ha
  · rw [hw2]
    exact h2.h _ hs c2 a ha
theorem subs_mem : ∀ {is rem : List Nat}, rem.Sublist is → rem ∈ subs is
  | [], rem, h => by simp at h; simp [subs, h]
  | x :: r, rem, h => by
    simp only [subs, List.mem_append, List.mem_map]
    cases h with
    | cons _ h => exact .inl (subs_mem h)
    | cons_cons _ h => exact .inr ⟨_, subs_mem h, rfl⟩
theorem lst_all (listed : Array Bool) (is : List Nat) : lst listed is is = listed := by
  apply Array.ext
  · simp [lst]
  · intro j h1 h2
    simp only [lst, Array.getElem_ofFn]
    cases is.contains j <;> simp
theorem lst_step {listed : Array Bool} {is rem : List Nat} {j : Nat} (hn : rem.Nodup) (hr : rem.Sublist is) (hj : j ∈ rem) : (lst listed is rem).setIfInBounds j true = lst listed is (rem.erase j) := by
  apply Array.ext
  · simp [lst]
  · intro m h1 h2
    have hm : m < listed.size := by simpa [lst] using h2
    rw [Array.getElem_setIfInBounds]
    · simp only [lst, Array.getElem_ofFn]
      by_cases e : j = m
      · subst e
        have h3 : is.contains j = true := by simpa using hr.subset hj
        have h4 : (rem.erase j).contains j = false := by
          have := hn.not_mem_erase (a := j)
          simpa using this
        simp only [h3, h4, if_true, Bool.not_false, Bool.and_true, Bool.or_true]
      · rw [if_neg e]
        have : (rem.erase j).contains m = rem.contains m := by
          rw [Bool.eq_iff_iff]
          simp only [List.contains_iff_mem]
          exact List.mem_erase_of_ne (fun h => e h.symm)
        rw [this]
    · simpa [lst] using hm
/-- a set of effects without order among them -/
theorem WD_set {q : Nat} (is : List Nat) (J : List Nat → World → Prop) (hq : Nat.ble 100000 (q + 3) = true) (his : bits (q + 3 - 100000) = is) (hnd : is.Nodup) (h0 : J is w)
    (step : ∀ rem j w', rem.Sublist is → j ∈ rem → J rem w' → ∃ o, ops[j]? = some o ∧ o.dst = none ∧ gdOk ops e o.guard ∧ OE P n o e w' (fun _ w'' => (StpB S w' w'' ∨ Lt.contains j = true) ∧ J (rem.erase j) w''))
    (fin : ∀ w', J [] w' → WD P n ops S Lt Q rest e w') : WD P n ops S Lt Q ((i, q + 3) :: rest) e w := by
  refine ⟨fun listed hs hB a ha => ?_⟩
  have hq' : ¬ q + 3 < 100000 := Nat.not_lt.2 (Nat.le_of_ble_eq_true hq)
  have hw : wt ((i, q + 3) :: rest) = is.length + wt rest := by simp only [wt]; rw [if_neg hq', his]
  rw [hw]
  simp only [checkD, checkS] at hB
  rw [if_neg (by simp), if_neg hq', his] at hB
  simp only [Bool.and_eq_true] at hB
  obtain ⟨_, hall, hrest⟩ := hB
  have hready : ∀ rem : List Nat, rem.Sublist is → 0 < rem.length → Region.ready .any ops (lst listed is rem) = rem := fun rem hr h0 => by
    have := List.all_eq_true.1 hall rem (subs_mem hr)
    cases rem with
    | nil => simp at h0
    | cons x r => simpa using this
  have key : ∀ (k : Nat) (rem : List Nat), rem.length = k → rem.Sublist is → ∀ w' a, Has n e a → J rem w' → wpAnyE P .any ops S (fun j => Lt.contains j) (fun a w => Q .normal a w) (k + wt rest) (lst listed is rem) a w' := by
    intro k
    induction k with
    | zero =>
      intro rem hl hr w' a ha hJ
      obtain rfl := List.length_eq_zero_iff.1 hl
      rw [Nat.zero_add]
      exact (fin w' hJ).h _ hs hrest a ha
    | succ k ih =>
      intro rem hl hr w' a ha hJ
      rw [show k + 1 + wt rest = (k + wt rest) + 1 by omega]
      refine ⟨fun h => ?_, fun j hj => ?_⟩
      · rw [hready rem hr (by omega)] at h
        subst h
        simp at hl
      · rw [hready rem hr (by omega)] at hj
        obtain ⟨o, hi, hdst, hg, hp⟩ := step rem j w' hr hj hJ
        unfold wpOp
        simp only [hi]
        rw [if_pos (wanted_ok ha hg)]
        refine .inl (Oper.wp_mono ?_ (hp.h a ha _))
        rintro a' w'' ⟨v, rfl, hs', hJ'⟩
        refine ⟨hs', ?_⟩
        rw [lst_step (hr.nodup hnd) hr hj, hdst]
        exact ih _ (by rw [List.length_erase_of_mem hj]; omega) (List.erase_sublist.trans hr) w'' _ ha hJ'
  have := key is.length is rfl (List.Sublist.refl _) w a ha h0
  rwa [lst_all] at this
theorem WD_only {o : Oper} {dst : Option Nat} {G : Value → World → Prop} (hi : ops[i]? = some o) (hdst : o.dst = dst) (hg : gdOk ops e o.guard) (hp : OE P n o e w (fun v w' => (StpB S w w' ∨ Lt.contains i = true) ∧ G v w'))
    (k : ∀ v w' a', G v w' → ∀ a, Has n e a → a' = a.put dst v → ∃ e', Has n e' a' ∧ WD P n ops S Lt Q rest e' w') : WD P n ops S Lt Q ((i, 2) :: rest) e w :=
  WD_one (WD1_mk hi hdst hg hp k)
/-- an effect that is passed over -/
theorem WD_pass2 (hi : ops[i]? = some ⟨some d, op, ty, pos, af, gd⟩) (hg : noB ops e gd = true) (hdn : Nat.blt d n = true)
    (k : WD P n ops S Lt Q rest ((d, undef) :: e) w) : WD P n ops S Lt Q ((i, 2) :: rest) e w := by
  refine WD_one ⟨fun listed hs h3 a ha => ?_⟩
  unfold wpOp
  simp only [hi]
  have hw := wanted_noB (o := ⟨some d, op, ty, pos, af, gd⟩) ha hg
  rw [if_neg (by simp [hw])]
  exact ⟨.inl (StpB.refl _ _), k.h _ hs h3 _ (ha.put (v := undef) hdn)⟩
theorem WD1_eff {G : Value → World → Prop} (hi : ops[i]? = some ⟨some d, op, ty, pos, af, gd⟩) (hg : gdOk ops e gd) (hp : OE P n ⟨some d, op, ty, pos, af, gd⟩ e w G) (hG : ∀ v w', G v w' → StpB S w w') (hdn : Nat.blt d n = true)
    (k : ∀ v w', G v w' → WD P n ops S Lt Q rest ((d, v) :: e) w') : WD1 P n ops S Lt Q i rest e w :=
  WD1_mk (G := G) hi rfl hg (hp.mono fun v w' h => ⟨.inl (hG v w' h), h⟩) (fun v w' a' h a ha e => ⟨_, by rw [e]; exact ha.put hdn, k v w' h⟩)
/-- the only one that is ready: it leaves the old blocks alone -/
theorem WD_eff {G : Value → World → Prop} (hi : ops[i]? = some ⟨some d, op, ty, pos, af, gd⟩) (hg : gdOk ops e gd) (hp : OE P n ⟨some d, op, ty, pos, af, gd⟩ e w G) (hG : ∀ v w', G v w' → StpB S w w') (hdn : Nat.blt d n = true)
    (k : ∀ v w', G v w' → WD P n ops S Lt Q rest ((d, v) :: e) w') : WD P n ops S Lt Q ((i, 2) :: rest) e w :=
  WD_only (G := G) hi rfl hg (hp.mono fun v w' h => ⟨.inl (hG v w' h), h⟩) (fun v w' a' h a ha e => ⟨_, by rw [e]; exact ha.put hdn, k v w' h⟩)
theorem WD_eff0 {G : Value → World → Prop} (hi : ops[i]? = some ⟨none, op, ty, pos, af, gd⟩) (hg : gdOk ops e gd) (hp : OE P n ⟨none, op, ty, pos, af, gd⟩ e w G) (hG : ∀ v w', G v w' → StpB S w w')
    (k : ∀ v w', G v w' → WD P n ops S Lt Q rest e w') : WD P n ops S Lt Q ((i, 2) :: rest) e w :=
  WD_only (G := G) hi rfl hg (hp.mono fun v w' h => ⟨.inl (hG v w' h), h⟩) (fun v w' a' h a ha e => ⟨_, by rw [e]; exact ha, k v w' h⟩)
theorem WD_late0 {G : Value → World → Prop} (hi : ops[i]? = some ⟨none, op, ty, pos, af, gd⟩) (hg : gdOk ops e gd) (hp : OE P n ⟨none, op, ty, pos, af, gd⟩ e w G) (hL : Lt.contains i = true)
    (k : ∀ v w', G v w' → WD P n ops S Lt Q rest e w') : WD P n ops S Lt Q ((i, 2) :: rest) e w :=
  WD_only (G := G) hi rfl hg (hp.mono fun v w' h => ⟨.inr hL, h⟩) (fun v w' a' h a ha e => ⟨_, by rw [e]; exact ha, k v w' h⟩)
end rules
end Go.EngB


/-
The walk engine, part 20: a scope without a goto, a label.
-/
namespace Go.Eng
open Go Go.RowKit Go.Proofs
set_option linter.unusedVariables false
section
variable {P : Program} {n : Nat} {Q : Exit → Act → World → Prop} {e : Env} {w : World}
theorem WC_scope {c : Code} (h : WC P n c (Exit.noGoto Q) e w) : WC P n (.scope c) Q e w := ⟨fun a ha => wp_scope_straight (h.h a ha)⟩
theorem WC_label {l : Nat} (h : WQ n Q .normal e w) : WC P n (.label l) Q e w := ⟨fun a ha => wp_label (h.h a ha)⟩
theorem WQ_noGoto_ret (h : WQ n Q .ret e w) : WQ n (Exit.noGoto Q) .ret e w := ⟨fun a ha => h.h a ha⟩
end
end Go.Eng


namespace Go.Proofs.YtgpibcgebpgmiaaDoor
open Go Go.Eng Go.RowKit
set_option linter.unusedVariables false
/-- a reader: its block -/
def Rd (X : List Nat) (w : World) (b : Nat) (s : Rs) : Prop := ∃ v, Blk w b 131 [v, .int .i64 s.e] ∧ SlV (b :: X) w v s.bs
theorem Rd.up {X : List Nat} {w w' : World} {b : Nat} {s : Rs} (h : Rd X w b s) (hS : Stp [] w w') : Rd X w' b s := by
  obtain ⟨v, h1, h2⟩ := h
  exact ⟨v, h1.up hS, h2.up hS⟩
def addOn (i acc : Nat) : Sum Int (Nat × Bs) → Sum Int (Nat × Bs)
  | .inl e => .inl e
  | .inr (v, r) => .inr (acc + 128 ^ i * v, r)
theorem rdU_nil {i : Nat} (h : i ≠ 10) : rdU i [] = .inl 6 := by rw [rdU, if_neg h]
theorem rdU_ten (bs : Bs) : rdU 10 bs = .inl 7 := by cases bs <;> rw [rdU, if_pos rfl]
theorem rdU_end {i : Nat} {c : UInt8} {r : Bs} (h : i ≠ 10) (hc : c.toNat < 128) : rdU i (c :: r) = if (i = 9 ∧ 1 < c.toNat) ∨ (0 < i ∧ c.toNat = 0) then .inl 7 else .inr (c.toNat, r) := by rw [rdU, if_neg h, if_pos hc]
theorem rdU_on {i acc : Nat} {c : UInt8} {r : Bs} (h : i ≠ 10) (hc : ¬ c.toNat < 128) : addOn i acc (rdU i (c :: r)) = addOn (i + 1) (acc + c.toNat % 128 * 128 ^ i) (rdU (i + 1) r) := by
  rw [rdU, if_neg h, if_neg hc]
  cases rdU (i + 1) r with
  | inl e => rfl
  | inr p =>
    obtain ⟨v, r'⟩ := p
    simp only [addOn, Sum.inr.injEq, Prod.mk.injEq, and_true]
    rw [Nat.pow_succ, Nat.mul_add, Nat.mul_comm (128 ^ i) (c.toNat % 128), ← Nat.mul_assoc (128 ^ i) 128 v]
    omega
theorem pow7 (i : Nat) : 128 ^ i = 2 ^ (7 * i) := by rw [Nat.pow_mul]
/-- acc | d << 7 i -/
theorem or_shift {i acc d : Nat} (hi : i ≤ 9) (ha : acc < 128 ^ i) (hd : d < 128) : acc ||| (d * 128 ^ i) % 18446744073709551616 = acc + (d * 128 ^ i) % 18446744073709551616 := by
  rw [Nat.or_comm, Nat.add_comm acc]
  have e64 : (18446744073709551616 : Nat) = 2 ^ (7 * i) * 2 ^ (64 - 7 * i) := by rw [← Nat.pow_add, show 7 * i + (64 - 7 * i) = 64 by omega]
  rw [pow7] at ha ⊢
  refine nat_join (7 * i) _ _ ?_ ha
  rw [e64, Nat.mul_comm d, Nat.mul_mod_mul_left, Nat.mul_mod_right]
theorem Fail_any (b e1 : Nat) (v : Value) (e : Int) (w : World) (hb : Blk w b 131 [v, .int .i64 e]) :
    Calls Tryd.prog 83 #[.pointer (some ⟨b, 0, none⟩), .int .i64 (e1 : Int)] w (Ret fun r w' => r = .tuple #[] ∧ Blk w' b 131 [v, .int .i64 (if e = 0 then (e1 : Int) else e)] ∧ Stp [b] w w') := by
  refine calls_of_WC2 (n := 13) Tryd.func83 rfl rfl rfl ?_
  by_cases h : e = 0
  · repeat' (first | refine W1 ?_ | (exfalso; omega) | refine WL_split rfl rfl (fun hg => ?_) (fun hg => ?_) | refine WL_splitB rfl rfl (fun hg => ?_) (fun hg => ?_) | refine WC_cond rfl (fun hc => ?_) (fun hc => ?_) | refine WC_condB rfl (fun hc => ?_) (fun hc => ?_))
    refine WL_eff0 (OE_store1 (u := .int .i64 (e1 : Int)) rfl rfl rfl rfl hb (by simp)) ?_
    rintro _ w1 ⟨hT, hb1⟩
    refine W ?_
    first | refine WQ_ret1 rfl rfl ?_ | refine WQ_ret2 rfl rfl rfl ?_ | refine WQ_ret3 rfl rfl rfl rfl ?_ | refine WQ_ret0 rfl ?_ | refine WQ_end0 rfl ?_
    exact .mk ⟨rfl, by rw [if_pos h]; exact hb1, hT⟩
  · repeat' (first | refine W1 ?_ | (exfalso; omega) | refine WL_split rfl rfl (fun hg => ?_) (fun hg => ?_) | refine WL_splitB rfl rfl (fun hg => ?_) (fun hg => ?_) | refine WC_cond rfl (fun hc => ?_) (fun hc => ?_) | refine WC_condB rfl (fun hc => ?_) (fun hc => ?_))
    first | refine WQ_ret1 rfl rfl ?_ | refine WQ_ret2 rfl rfl rfl ?_ | refine WQ_ret3 rfl rfl rfl rfl ?_ | refine WQ_ret0 rfl ?_ | refine WQ_end0 rfl ?_
    exact .mk ⟨rfl, by rw [if_neg h]; exact hb, Stp.refl _ _⟩
set_option maxRecDepth 8000 in
theorem RUint_any (X : List Nat) (b : Nat) (s : Rs) (w : World) (hr : Rd X w b s) :
    Calls Tryd.prog 84 #[.pointer (some ⟨b, 0, none⟩)] w (Ret fun r w' => r = .int .u64 ((uintS s).2 : Int) ∧ Rd X w' b (uintS s).1 ∧ Stp [b] w w') := by
  obtain ⟨v, hb, hs⟩ := hr
  have hmax := hs.max
  refine calls_of_WC1 (n := 82) Tryd.func84 rfl rfl rfl ?_
  refine W ?_
  refine WC_scope ?_
  by_cases he : s.e = 0
  · repeat' (first | refine W1 ?_ | (exfalso; omega) | refine WL_split rfl rfl (fun hg => ?_) (fun hg => ?_) | refine WL_splitB rfl rfl (fun hg => ?_) (fun hg => ?_) | refine WC_cond rfl (fun hc => ?_) (fun hc => ?_) | refine WC_condB rfl (fun hc => ?_) (fun hc => ?_))
    refine WC_label ?_
    refine W ?_
    have huint : uintS s = (match rdU 0 s.bs with | .inl e => (⟨s.bs, e⟩, 0) | .inr (v, r) => (⟨r, 0⟩, v)) := by unfold uintS; rw [if_pos he]; try rfl
    rw [he] at hb
    have hfail : ∀ e1 : Nat, rdU 0 s.bs = .inl (e1 : Int) → ∀ w', Blk w' b 131 [v, .int .i64 (if (0 : Int) = 0 then (e1 : Int) else 0)] → Stp [b] w w' → (Ret fun r w' => r = .int .u64 ((uintS s).2 : Int) ∧ Rd X w' b (uintS s).1 ∧ Stp [b] w w') (.returned (.int .u64 0)) w' := fun e1 h1 w' h2 h3 => by
      rw [huint, h1]
      exact .mk ⟨rfl, ⟨v, by simpa using h2, hs.ext h3 (fun c hc => by simp at hc; simp [hc]) (fun c hc => .inl hc)⟩, h3⟩
    refine WC_loop (σ := Nat × Nat) (fun q => [(0, .pointer (some ⟨b, 0, none⟩)), (3, .int .u64 (q.2 : Int)), (4, .int .i64 (q.1 : Int))]) (fun q w' => w' = w ∧ q.1 ≤ 10 ∧ q.1 ≤ s.bs.length ∧ q.2 < 18446744073709551616 ∧ (q.1 ≤ 9 → q.2 < 128 ^ q.1) ∧ rdU 0 s.bs = addOn q.1 q.2 (rdU q.1 (s.bs.drop q.1))) (fun q => 10 - q.1) (0, 0) ⟨rfl, rfl, rfl, trivial⟩
      ⟨rfl, by omega, by omega, by omega, fun _ => by simp, by simp only [List.drop_zero]; cases rdU 0 s.bs with | inl e => rfl | inr p => simp [addOn]⟩ ?_
    rintro ⟨i, acc⟩ w2 ⟨rfl, hi, hil, hacc, hlt, heq⟩
    dsimp only at hi hil hacc hlt heq ⊢
    by_cases h10 : i = 10
    · have h1 : rdU 0 s.bs = .inl ((7 : Nat) : Int) := by rw [heq, h10, rdU_ten]; rfl
      repeat' (first | refine W1 ?_ | (exfalso; omega) | refine WL_split rfl rfl (fun hg => ?_) (fun hg => ?_) | refine WL_splitB rfl rfl (fun hg => ?_) (fun hg => ?_) | refine WC_cond rfl (fun hc => ?_) (fun hc => ?_) | refine WC_condB rfl (fun hc => ?_) (fun hc => ?_))
      refine WL_eff (OE_call rfl (evs2 rfl rfl) (Fail_any b 7 v 0 _ hb)) rfl ?_
      rintro _ w3 ⟨rfl, hb3, hT⟩
      refine W ?_
      refine WQ_noGoto_ret ?_
      first | refine WQ_ret1 rfl rfl ?_ | refine WQ_ret2 rfl rfl rfl ?_ | refine WQ_ret3 rfl rfl rfl rfl ?_ | refine WQ_ret0 rfl ?_ | refine WQ_end0 rfl ?_
      exact hfail 7 h1 _ hb3 hT
    · by_cases hend : i = s.bs.length
      · have h1 : rdU 0 s.bs = .inl ((6 : Nat) : Int) := by rw [heq, hend, List.drop_length, rdU_nil (by omega)]; rfl
        repeat' (first | refine W1 ?_ | (exfalso; omega) | refine WL_split rfl rfl (fun hg => ?_) (fun hg => ?_) | refine WL_splitB rfl rfl (fun hg => ?_) (fun hg => ?_) | refine WC_cond rfl (fun hc => ?_) (fun hc => ?_) | refine WC_condB rfl (fun hc => ?_) (fun hc => ?_))
        refine WL_eff (OE_call rfl (evs2 rfl rfl) (Fail_any b 6 v 0 _ hb)) rfl ?_
        rintro _ w3 ⟨rfl, hb3, hT⟩
        refine W ?_
        refine WQ_noGoto_ret ?_
        first | refine WQ_ret1 rfl rfl ?_ | refine WQ_ret2 rfl rfl rfl ?_ | refine WQ_ret3 rfl rfl rfl rfl ?_ | refine WQ_ret0 rfl ?_ | refine WQ_end0 rfl ?_
        exact hfail 6 h1 _ hb3 hT
      · have hget : i < s.bs.length := by omega
        have hdrop : s.bs.drop i = s.bs[i] :: s.bs.drop (i + 1) := List.drop_eq_getElem_cons hget
        have hc256 : s.bs[i].toNat < 256 := s.bs[i].toNat_lt
        have hacc9 := hlt (by omega)
        have hd := or_shift (d := s.bs[i].toNat % 128) (by omega : i ≤ 9) hacc9 (by omega)
        have hdm : s.bs[i].toNat % 128 * 128 ^ i % 18446744073709551616 < 18446744073709551616 := Nat.mod_lt _ (by omega)
        have hpow : 128 ^ i ≤ 9223372036854775808 := by
          have : 128 ^ i ≤ 128 ^ 9 := Nat.pow_le_pow_right (by decide) (by omega)
          omega
        have hor : acc ||| (s.bs[i].toNat % 128 * 128 ^ i) % 18446744073709551616 < 2 ^ 64 := Nat.or_lt_two_pow (by omega) (by omega)
        repeat' (first | refine W1 ?_ | (exfalso; omega) | refine WL_split rfl rfl (fun hg => ?_) (fun hg => ?_) | refine WL_splitB rfl rfl (fun hg => ?_) (fun hg => ?_) | refine WC_cond rfl (fun hc => ?_) (fun hc => ?_) | refine WC_condB rfl (fun hc => ?_) (fun hc => ?_))
        refine WL_pure (PR_and (r := ((s.bs[i].toNat % 128 : Nat) : Int)) rfl rfl (by rw [show (127 : Int) = ((127 : Nat) : Int) from rfl, u8_and_nat _ _ hc256 (by decide), nat_mask7])) rfl ?_
        refine WL_pure (PR_convTo (b := ((s.bs[i].toNat % 128 : Nat) : Int)) rfl (wrap_u64_of (by omega) (by omega))) rfl ?_
        refine W ?_
        refine WL_pure (PR_shl (yk := .i64) (s := 7 * i) (r := ((s.bs[i].toNat % 128 * 128 ^ i % 18446744073709551616 : Nat) : Int)) rfl (by show some (Value.int .i64 (7 * (i : Int))) = some _; simp) (by simp [IntKind.bits]; omega) (by rw [pow7, IntKind.wrap_u64]; simp)) rfl ?_
        refine WL_pure (PR_or (r := ((acc + s.bs[i].toNat % 128 * 128 ^ i % 18446744073709551616 : Nat) : Int)) rfl rfl (by rw [u64_or_nat _ _ hacc hdm, hd])) rfl ?_
        rw [hd] at hor
        by_cases hc : s.bs[i].toNat < 128
        · have hrd := rdU_end (r := s.bs.drop (i + 1)) h10 hc
          rw [hdrop, hrd] at heq
          by_cases hbad : (i = 9 ∧ 1 < s.bs[i].toNat) ∨ (0 < i ∧ s.bs[i].toNat = 0)
          · have h1 : rdU 0 s.bs = .inl ((7 : Nat) : Int) := by rw [heq, if_pos hbad]; rfl
            repeat' (first | refine W1 ?_ | (exfalso; omega) | refine WL_split rfl rfl (fun hg => ?_) (fun hg => ?_) | refine WL_splitB rfl rfl (fun hg => ?_) (fun hg => ?_) | refine WC_cond rfl (fun hc => ?_) (fun hc => ?_) | refine WC_condB rfl (fun hc => ?_) (fun hc => ?_))
            all_goals
              refine WL_eff (OE_call rfl (evs2 rfl rfl) (Fail_any b 7 v 0 _ hb)) rfl ?_
              rintro _ w3 ⟨rfl, hb3, hT⟩
              refine W ?_
              refine WQ_noGoto_ret ?_
              first | refine WQ_ret1 rfl rfl ?_ | refine WQ_ret2 rfl rfl rfl ?_ | refine WQ_ret3 rfl rfl rfl rfl ?_ | refine WQ_ret0 rfl ?_ | refine WQ_end0 rfl ?_
              exact hfail 7 h1 _ hb3 hT
          · rw [if_neg hbad] at heq
            have hval : acc + s.bs[i].toNat % 128 * 128 ^ i % 18446744073709551616 = acc + 128 ^ i * s.bs[i].toNat := by
              have hsm : s.bs[i].toNat * 128 ^ i < 18446744073709551616 := by
                by_cases h9 : i = 9
                · subst h9
                  have : s.bs[9].toNat ≤ 1 := by omega
                  have := Nat.mul_le_mul_right (128 ^ 9) this
                  omega
                · have h8 : 128 ^ i ≤ 128 ^ 8 := Nat.pow_le_pow_right (by decide) (by omega)
                  have : s.bs[i].toNat * 128 ^ i ≤ 127 * 128 ^ 8 := Nat.mul_le_mul (by omega) h8
                  omega
              rw [Nat.mod_eq_of_lt hc, Nat.mod_eq_of_lt hsm, Nat.mul_comm]
            rw [hval]
            simp only [addOn] at heq
            rw [heq] at huint
            dsimp only at huint
            have hsl := hs.slc (l := i + 1) (r := s.bs.length) (by omega) (Nat.le_refl _)
            rw [List.take_length] at hsl
            replace hsl : SlV (b :: X) w2 (slc v (i + 1) s.bs.length 1) (s.bs.drop (i + 1)) := hsl
            repeat' (first | refine W1 ?_ | (exfalso; omega) | refine WL_split rfl rfl (fun hg => ?_) (fun hg => ?_) | refine WL_splitB rfl rfl (fun hg => ?_) (fun hg => ?_) | refine WC_cond rfl (fun hc => ?_) (fun hc => ?_) | refine WC_condB rfl (fun hc => ?_) (fun hc => ?_))
            all_goals
              refine WL_slice_l (l := i + 1) rfl hs rfl (by simp) (by omega) rfl ?_
              refine W ?_
              refine WL_eff0 (OE_store1 (u := slc v (i + 1) s.bs.length 1) rfl rfl hsl.cells hsl.one hb (by simp)) ?_
              rintro _ w3 ⟨hT, hb3⟩
              refine W ?_
              refine WQ_noGoto_ret ?_
              first | refine WQ_ret1 rfl rfl ?_ | refine WQ_ret2 rfl rfl rfl ?_ | refine WQ_ret3 rfl rfl rfl rfl ?_ | refine WQ_ret0 rfl ?_ | refine WQ_end0 rfl ?_
              rw [huint]
              exact .mk ⟨rfl, ⟨_, hb3, hsl.ext hT (fun c hc => by simp at hc; simp [hc]) (fun c hc => .inl hc)⟩, hT⟩
        · rw [hdrop, rdU_on h10 hc] at heq
          have hnext : rdU 0 s.bs = addOn (i + 1) (acc + s.bs[i].toNat % 128 * 128 ^ i % 18446744073709551616) (rdU (i + 1) (s.bs.drop (i + 1))) := by
            by_cases h9 : i = 9
            · have e10 : ∀ l, rdU (i + 1) l = .inl 7 := fun l => by rw [show i + 1 = 10 by omega]; exact rdU_ten l
              rw [heq, e10]; rfl
            · have h8 : 128 ^ i ≤ 128 ^ 8 := Nat.pow_le_pow_right (by decide) (by omega)
              have : s.bs[i].toNat % 128 * 128 ^ i ≤ 127 * 128 ^ 8 := Nat.mul_le_mul (by omega) h8
              rw [Nat.mod_eq_of_lt (by omega), heq]
          have hlt2 : i + 1 ≤ 9 → acc + s.bs[i].toNat % 128 * 128 ^ i % 18446744073709551616 < 128 ^ (i + 1) := fun h => by
            have h1 : s.bs[i].toNat % 128 * 128 ^ i ≤ 127 * 128 ^ i := Nat.mul_le_mul_right _ (by omega)
            have h2 : s.bs[i].toNat % 128 * 128 ^ i % 18446744073709551616 ≤ s.bs[i].toNat % 128 * 128 ^ i := Nat.mod_le _ _
            rw [Nat.pow_succ]
            omega
          generalize hG : acc + s.bs[i].toNat % 128 * 128 ^ i % 18446744073709551616 = acc' at *
          repeat' (first | refine W1 ?_ | (exfalso; omega) | refine WL_split rfl rfl (fun hg => ?_) (fun hg => ?_) | refine WL_splitB rfl rfl (fun hg => ?_) (fun hg => ?_) | refine WC_cond rfl (fun hc => ?_) (fun hc => ?_) | refine WC_condB rfl (fun hc => ?_) (fun hc => ?_))
          all_goals exact WQ_loop (i + 1, acc') ⟨rfl, rfl, rfl, trivial⟩ ⟨rfl, by dsimp only; omega, by dsimp only; omega, by dsimp only; omega, hlt2, hnext⟩ (by dsimp only; omega)
  · repeat' (first | refine W1 ?_ | (exfalso; omega) | refine WL_split rfl rfl (fun hg => ?_) (fun hg => ?_) | refine WL_splitB rfl rfl (fun hg => ?_) (fun hg => ?_) | refine WC_cond rfl (fun hc => ?_) (fun hc => ?_) | refine WC_condB rfl (fun hc => ?_) (fun hc => ?_))
    refine WQ_noGoto_ret ?_
    first | refine WQ_ret1 rfl rfl ?_ | refine WQ_ret2 rfl rfl rfl ?_ | refine WQ_ret3 rfl rfl rfl rfl ?_ | refine WQ_ret0 rfl ?_ | refine WQ_end0 rfl ?_
    rw [uintS_bad he]
    exact .mk ⟨rfl, ⟨v, hb, hs⟩, Stp.refl _ _⟩
end Go.Proofs.YtgpibcgebpgmiaaDoor


namespace Go.Proofs.YtgpibcgebpgmiaaDoor
open Go Go.Eng Go.RowKit
set_option linter.unusedVariables false
theorem xor_m1 {a : Int} (h0 : 0 ≤ a) (h1 : a < 9223372036854775808) : Go.bits .xor .i64 a (-1) = -a - 1 := by
  obtain ⟨n, rfl⟩ := Int.eq_ofNat_of_zero_le h0
  have e1 : (BitVec.ofInt 64 (n : Int)).toNat = n := by
    rw [BitVec.ofInt_natCast, BitVec.toNat_ofNat]; exact Nat.mod_eq_of_lt (by omega)
  have e2 : BitVec.ofInt 64 (-1 : Int) = BitVec.allOnes 64 := by decide
  show IntKind.i64.wrap ((BitVec.ofInt 64 (n : Int) ^^^ BitVec.ofInt 64 (-1 : Int)).toNat : Int) = _
  rw [e2, BitVec.xor_allOnes, BitVec.toNat_not, e1]
  simp [IntKind.wrap, IntKind.bits, IntKind.signed]
  omega
theorem xor_0 {a : Int} (h0 : 0 ≤ a) (h1 : a < 9223372036854775808) : Go.bits .xor .i64 a 0 = a := by
  obtain ⟨n, rfl⟩ := Int.eq_ofNat_of_zero_le h0
  have e1 : (BitVec.ofInt 64 (n : Int)).toNat = n := by
    rw [BitVec.ofInt_natCast, BitVec.toNat_ofNat]; exact Nat.mod_eq_of_lt (by omega)
  have e2 : BitVec.ofInt 64 (0 : Int) = 0#64 := by decide
  show IntKind.i64.wrap ((BitVec.ofInt 64 (n : Int) ^^^ BitVec.ofInt 64 (0 : Int)).toNat : Int) = _
  rw [e2, BitVec.xor_zero, e1]
  simp [IntKind.wrap, IntKind.bits, IntKind.signed]
  omega
theorem u64_and1 (u : Nat) (h : u < 18446744073709551616) : Go.bits .and .u64 (u : Int) 1 = ((u % 2 : Nat) : Int) := by
  have e1 : (BitVec.ofInt 64 (u : Int)).toNat = u := by
    rw [BitVec.ofInt_natCast, BitVec.toNat_ofNat]; exact Nat.mod_eq_of_lt (by omega)
  have e2 : (BitVec.ofInt 64 (1 : Int)).toNat = 1 := by decide
  show IntKind.u64.wrap ((BitVec.ofInt 64 (u : Int) &&& BitVec.ofInt 64 (1 : Int)).toNat : Int) = _
  rw [BitVec.toNat_and, e1, e2, Nat.and_one_is_mod, IntKind.wrap_u64]
  omega
theorem uintS_lt (s : Rs) : (uintS s).2 < 18446744073709551616 := by
  unfold uintS
  split
  · cases h : rdU 0 s.bs with
    | inl e => simp
    | inr p =>
      obtain ⟨v, r⟩ := p
      have := (rdU_dec _ _ _ _ (by omega) h).2.1
      simpa using this
  · simp
theorem RInt_any (X : List Nat) (b : Nat) (s : Rs) (w : World) (hr : Rd X w b s) :
    Calls Tryd.prog 44 #[.pointer (some ⟨b, 0, none⟩)] w (Ret fun r w' => r = .int .i64 (intS s).2 ∧ Rd X w' b (intS s).1 ∧ Stp [b] w w') := by
  refine calls_of_WC1 (n := 14) Tryd.func44 rfl rfl rfl ?_
  refine W ?_
  refine WL_eff (OE_call rfl (evs1 rfl) (RUint_any X b s w hr)) rfl ?_
  rintro _ w1 ⟨rfl, hr1, hT⟩
  have hlt := uintS_lt s
  have hi : (intS s).1 = (uintS s).1 := rfl
  have hi2 : (intS s).2 = zagI (uintS s).2 := rfl
  rw [hi, hi2]
  clear hi hi2
  generalize (uintS s).2 = u at *
  refine W ?_
  refine WL_pure (PR_shr (yk := .u64) (s := 1) (r := ((u / 2 : Nat) : Int)) rfl rfl (by decide) (by simp)) rfl ?_
  refine WL_pure (PR_convTo (b := ((u / 2 : Nat) : Int)) rfl (wrap_i64_of (by unfold I64; omega))) rfl ?_
  refine W ?_
  refine WL_pure (PR_and (r := ((u % 2 : Nat) : Int)) rfl rfl (u64_and1 u hlt)) rfl ?_
  refine WL_pure (PR_convTo (b := ((u % 2 : Nat) : Int)) rfl (wrap_i64_of (by unfold I64; omega))) rfl ?_
  refine W ?_
  refine WL_pure (PR_xor (r := zagI u) rfl rfl ?_) rfl ?_
  · unfold zagI
    by_cases h : u % 2 = 1
    · rw [if_pos h, h]
      exact xor_m1 (by omega) (by omega)
    · rw [if_neg h, show u % 2 = 0 by omega]
      exact xor_0 (by omega) (by omega)
  refine W ?_
  first | refine WQ_ret1 rfl rfl ?_ | refine WQ_ret2 rfl rfl rfl ?_ | refine WQ_ret3 rfl rfl rfl rfl ?_ | refine WQ_ret0 rfl ?_ | refine WQ_end0 rfl ?_
  exact .mk ⟨rfl, hr1, hT⟩
end Go.Proofs.YtgpibcgebpgmiaaDoor


namespace Go.Proofs.YtgpibcgebpgmiaaDoor
open Go Go.Eng Go.RowKit
set_option linter.unusedVariables false
theorem Rd.ext {X X' S : List Nat} {w w' : World} {b : Nat} {s : Rs} (h : Rd X w b s) (hS : Stp S w w') (h1 : ∀ c ∈ S, c ∈ X) (hb : b ∉ S) (h2 : ∀ c ∈ X', c ∈ X ∨ w.heap.size ≤ c) : Rd X' w' b s := by
  obtain ⟨v, h3, h4⟩ := h
  exact ⟨v, h3.ext hS hb, h4.ext hS (fun c hc => List.mem_cons_of_mem _ (h1 c hc)) (fun c hc => by
    rcases List.mem_cons.1 hc with rfl | hc
    · exact .inl (by simp)
    · exact (h2 c hc).imp (fun h => List.mem_cons_of_mem _ h) id)⟩
theorem Rd.sub {X X' : List Nat} {w : World} {b : Nat} {s : Rs} (h : Rd X w b s) (h2 : ∀ c ∈ X', c ∈ X) : Rd X' w b s :=
  h.ext (Stp.refl [] w) (by simp) (by simp) (fun c hc => .inl (h2 c hc))
theorem _root_.Go.Eng.Row.anyX' {β : Type} [Flat β] {X X' : List Nat} {w : World} {base T : Nat} {v : Value} {xs : List β} (h : Row X w base T v xs) : Row X' w base T v xs := by
  obtain ⟨css, hl, hr, ho⟩ := h
  exact ⟨css, hl, fun i h1 h2 => hr i h1 h2, ho⟩
theorem Rlen_any (X : List Nat) (b most : Nat) (s : Rs) (w : World) (hm : most ≤ 1000000) (hr : Rd X w b s) :
    Calls Tryd.prog 82 #[.pointer (some ⟨b, 0, none⟩), .int .i64 (most : Int)] w (Ret fun r w' => r = .int .i64 ((lengthS most s).2 : Int) ∧ Rd X w' b (lengthS most s).1 ∧ Stp [b] w w') := by
  refine calls_of_WC2 (n := 36) Tryd.func82 rfl rfl rfl ?_
  refine W ?_
  refine WL_eff (OE_call rfl (evs1 rfl) (RUint_any X b s w hr)) rfl ?_
  rintro _ w1 ⟨rfl, hr1, hT⟩
  have hlt := uintS_lt s
  have hdef : lengthS most s = (if (uintS s).1.e = 0 then (if most < (uintS s).2 then (⟨(uintS s).1.bs, 2⟩, 0) else ((uintS s).1, (uintS s).2)) else ((uintS s).1, 0)) := rfl
  rw [hdef]
  clear hdef hr
  generalize (uintS s).2 = u at *
  generalize (uintS s).1 = s1 at *
  obtain ⟨v, hblk, hs⟩ := id hr1
  by_cases he : s1.e = 0
  · rw [if_pos he]
    by_cases hmu : most < u
    · rw [if_pos hmu]
      repeat' (first | refine W1 ?_ | (exfalso; omega) | refine WL_split rfl rfl (fun hg => ?_) (fun hg => ?_) | refine WL_splitB rfl rfl (fun hg => ?_) (fun hg => ?_) | refine WC_cond rfl (fun hc => ?_) (fun hc => ?_) | refine WC_condB rfl (fun hc => ?_) (fun hc => ?_))
      refine WL_pure (PR_convTo (b := ((most : Nat) : Int)) rfl (wrap_u64_of (by omega) (by omega))) rfl ?_
      repeat' (first | refine W1 ?_ | (exfalso; omega) | refine WL_split rfl rfl (fun hg => ?_) (fun hg => ?_) | refine WL_splitB rfl rfl (fun hg => ?_) (fun hg => ?_) | refine WC_cond rfl (fun hc => ?_) (fun hc => ?_) | refine WC_condB rfl (fun hc => ?_) (fun hc => ?_))
      refine WL_eff (OE_call rfl (evs2 rfl rfl) (Fail_any b 2 v s1.e _ hblk)) rfl ?_
      rintro _ w2 ⟨rfl, hb2, hT2⟩
      rw [if_pos he] at hb2
      repeat' (first | refine W1 ?_ | (exfalso; omega) | refine WL_split rfl rfl (fun hg => ?_) (fun hg => ?_) | refine WL_splitB rfl rfl (fun hg => ?_) (fun hg => ?_) | refine WC_cond rfl (fun hc => ?_) (fun hc => ?_) | refine WC_condB rfl (fun hc => ?_) (fun hc => ?_))
      first | refine WQ_ret1 rfl rfl ?_ | refine WQ_ret2 rfl rfl rfl ?_ | refine WQ_ret3 rfl rfl rfl rfl ?_ | refine WQ_ret0 rfl ?_ | refine WQ_end0 rfl ?_
      exact .mk ⟨rfl, ⟨v, hb2, hs.ext hT2 (fun c hc => by simp at hc; simp [hc]) (fun c hc => .inl hc)⟩, hT.trans hT2⟩
    · rw [if_neg hmu]
      repeat' (first | refine W1 ?_ | (exfalso; omega) | refine WL_split rfl rfl (fun hg => ?_) (fun hg => ?_) | refine WL_splitB rfl rfl (fun hg => ?_) (fun hg => ?_) | refine WC_cond rfl (fun hc => ?_) (fun hc => ?_) | refine WC_condB rfl (fun hc => ?_) (fun hc => ?_))
      refine WL_pure (PR_convTo (b := ((most : Nat) : Int)) rfl (wrap_u64_of (by omega) (by omega))) rfl ?_
      repeat' (first | refine W1 ?_ | (exfalso; omega) | refine WL_split rfl rfl (fun hg => ?_) (fun hg => ?_) | refine WL_splitB rfl rfl (fun hg => ?_) (fun hg => ?_) | refine WC_cond rfl (fun hc => ?_) (fun hc => ?_) | refine WC_condB rfl (fun hc => ?_) (fun hc => ?_))
      refine WL_pure (PR_convTo (b := ((u : Nat) : Int)) rfl (wrap_i64_of (by unfold I64; omega))) rfl ?_
      refine W ?_
      first | refine WQ_ret1 rfl rfl ?_ | refine WQ_ret2 rfl rfl rfl ?_ | refine WQ_ret3 rfl rfl rfl rfl ?_ | refine WQ_ret0 rfl ?_ | refine WQ_end0 rfl ?_
      exact .mk ⟨rfl, hr1, hT⟩
  · rw [if_neg he]
    repeat' (first | refine W1 ?_ | (exfalso; omega) | refine WL_split rfl rfl (fun hg => ?_) (fun hg => ?_) | refine WL_splitB rfl rfl (fun hg => ?_) (fun hg => ?_) | refine WC_cond rfl (fun hc => ?_) (fun hc => ?_) | refine WC_condB rfl (fun hc => ?_) (fun hc => ?_))
    first | refine WQ_ret1 rfl rfl ?_ | refine WQ_ret2 rfl rfl rfl ?_ | refine WQ_ret3 rfl rfl rfl rfl ?_ | refine WQ_ret0 rfl ?_ | refine WQ_end0 rfl ?_
    exact .mk ⟨rfl, hr1, hT⟩
theorem RText_any (X : List Nat) (b most : Nat) (s : Rs) (w : World) (hm : most ≤ 1000000) (hr : Rd X w b s) :
    Calls Tryd.prog 43 #[.pointer (some ⟨b, 0, none⟩), .int .i64 (most : Int)] w (Ret fun r w' => r = str (textS most s).2 ∧ Rd X w' b (textS most s).1 ∧ Stp [b] w w') := by
  refine calls_of_WC2 (n := 56) Tryd.func43 rfl rfl rfl ?_
  refine W ?_
  refine WL_eff (OE_call rfl (evs2 rfl rfl) (Rlen_any X b most s w hm hr)) rfl ?_
  rintro _ w1 ⟨rfl, hr1, hT⟩
  have hdef : textS most s = (if (lengthS most s).1.e = 0 then (if (lengthS most s).1.bs.length < (lengthS most s).2 then (⟨(lengthS most s).1.bs, 6⟩, [])
    else (⟨(lengthS most s).1.bs.drop (lengthS most s).2, 0⟩, (lengthS most s).1.bs.take (lengthS most s).2)) else ((lengthS most s).1, [])) := rfl
  rw [hdef]
  clear hdef hr
  generalize (lengthS most s).2 = u at *
  generalize (lengthS most s).1 = s1 at *
  obtain ⟨v, hblk, hs⟩ := id hr1
  have hmax := hs.max
  by_cases he : s1.e = 0
  · rw [if_pos he]
    by_cases hmu : s1.bs.length < u
    · rw [if_pos hmu]
      repeat' (first | refine W1 ?_ | (exfalso; omega) | refine WL_split rfl rfl (fun hg => ?_) (fun hg => ?_) | refine WL_splitB rfl rfl (fun hg => ?_) (fun hg => ?_) | refine WC_cond rfl (fun hc => ?_) (fun hc => ?_) | refine WC_condB rfl (fun hc => ?_) (fun hc => ?_))
      refine WL_eff (OE_call rfl (evs2 rfl rfl) (Fail_any b 6 v s1.e _ hblk)) rfl ?_
      rintro _ w2 ⟨rfl, hb2, hT2⟩
      rw [if_pos he] at hb2
      repeat' (first | refine W1 ?_ | (exfalso; omega) | refine WL_split rfl rfl (fun hg => ?_) (fun hg => ?_) | refine WL_splitB rfl rfl (fun hg => ?_) (fun hg => ?_) | refine WC_cond rfl (fun hc => ?_) (fun hc => ?_) | refine WC_condB rfl (fun hc => ?_) (fun hc => ?_))
      first | refine WQ_ret1 rfl rfl ?_ | refine WQ_ret2 rfl rfl rfl ?_ | refine WQ_ret3 rfl rfl rfl rfl ?_ | refine WQ_ret0 rfl ?_ | refine WQ_end0 rfl ?_
      exact .mk ⟨rfl, ⟨v, hb2, hs.ext hT2 (fun c hc => by simp at hc; simp [hc]) (fun c hc => .inl hc)⟩, hT.trans hT2⟩
    · rw [if_neg hmu]
      have hs1 := hs.slc (l := 0) (r := u) (by omega) (by omega)
      rw [List.drop_zero] at hs1
      replace hs1 : SlV (b :: X) w1 (slc v 0 u 1) (s1.bs.take u) := hs1
      have hs2 := hs.slc (l := u) (r := s1.bs.length) (by omega) (Nat.le_refl _)
      rw [List.take_length] at hs2
      replace hs2 : SlV (b :: X) w1 (slc v u s1.bs.length 1) (s1.bs.drop u) := hs2
      repeat' (first | refine W1 ?_ | (exfalso; omega) | refine WL_split rfl rfl (fun hg => ?_) (fun hg => ?_) | refine WL_splitB rfl rfl (fun hg => ?_) (fun hg => ?_) | refine WC_cond rfl (fun hc => ?_) (fun hc => ?_) | refine WC_condB rfl (fun hc => ?_) (fun hc => ?_))
      refine WL_slice_h (r := u) rfl hs rfl rfl (by omega) rfl ?_
      refine WL_pure (PR_convB rfl hs1) rfl ?_
      refine W ?_
      refine WL_slice_l (l := u) rfl hs rfl rfl (by omega) rfl ?_
      refine W ?_
      refine WL_eff0 (OE_store1 (u := slc v u s1.bs.length 1) rfl rfl hs2.cells hs2.one hblk (by simp)) ?_
      rintro _ w3 ⟨hT3, hb3⟩
      refine W ?_
      first | refine WQ_ret1 rfl rfl ?_ | refine WQ_ret2 rfl rfl rfl ?_ | refine WQ_ret3 rfl rfl rfl rfl ?_ | refine WQ_ret0 rfl ?_ | refine WQ_end0 rfl ?_
      rw [he] at hb3
      exact .mk ⟨rfl, ⟨_, hb3, hs2.ext hT3 (fun c hc => by simp at hc; simp [hc]) (fun c hc => .inl hc)⟩, hT.trans hT3⟩
  · rw [if_neg he]
    repeat' (first | refine W1 ?_ | (exfalso; omega) | refine WL_split rfl rfl (fun hg => ?_) (fun hg => ?_) | refine WL_splitB rfl rfl (fun hg => ?_) (fun hg => ?_) | refine WC_cond rfl (fun hc => ?_) (fun hc => ?_) | refine WC_condB rfl (fun hc => ?_) (fun hc => ?_))
    first | refine WQ_ret1 rfl rfl ?_ | refine WQ_ret2 rfl rfl rfl ?_ | refine WQ_ret3 rfl rfl rfl rfl ?_ | refine WQ_ret0 rfl ?_ | refine WQ_end0 rfl ?_
    exact .mk ⟨rfl, hr1, hT⟩
theorem REnd_any (X : List Nat) (b : Nat) (s : Rs) (w : World) (hr : Rd X w b s) :
    Calls Tryd.prog 46 #[.pointer (some ⟨b, 0, none⟩)] w (Ret fun r w' => r = .int .i64 (endS s) ∧ Stp [] w w') := by
  obtain ⟨v, hblk, hs⟩ := hr
  have hmax := hs.max
  unfold endS
  refine calls_of_WC1 (n := 23) Tryd.func46 rfl rfl rfl ?_
  by_cases he : s.e = 0
  · by_cases hl : 0 < s.bs.length
    · rw [if_pos ⟨he, hl⟩]
      repeat' (first | refine W1 ?_ | (exfalso; omega) | refine WL_split rfl rfl (fun hg => ?_) (fun hg => ?_) | refine WL_splitB rfl rfl (fun hg => ?_) (fun hg => ?_) | refine WC_cond rfl (fun hc => ?_) (fun hc => ?_) | refine WC_condB rfl (fun hc => ?_) (fun hc => ?_))
      first | refine WQ_ret1 rfl rfl ?_ | refine WQ_ret2 rfl rfl rfl ?_ | refine WQ_ret3 rfl rfl rfl rfl ?_ | refine WQ_ret0 rfl ?_ | refine WQ_end0 rfl ?_
      exact .mk ⟨rfl, Stp.refl _ _⟩
    · rw [if_neg (fun h => hl h.2)]
      repeat' (first | refine W1 ?_ | (exfalso; omega) | refine WL_split rfl rfl (fun hg => ?_) (fun hg => ?_) | refine WL_splitB rfl rfl (fun hg => ?_) (fun hg => ?_) | refine WC_cond rfl (fun hc => ?_) (fun hc => ?_) | refine WC_condB rfl (fun hc => ?_) (fun hc => ?_))
      first | refine WQ_ret1 rfl rfl ?_ | refine WQ_ret2 rfl rfl rfl ?_ | refine WQ_ret3 rfl rfl rfl rfl ?_ | refine WQ_ret0 rfl ?_ | refine WQ_end0 rfl ?_
      exact .mk ⟨rfl, Stp.refl _ _⟩
  · rw [if_neg (fun h => he h.1)]
    repeat' (first | refine W1 ?_ | (exfalso; omega) | refine WL_split rfl rfl (fun hg => ?_) (fun hg => ?_) | refine WL_splitB rfl rfl (fun hg => ?_) (fun hg => ?_) | refine WC_cond rfl (fun hc => ?_) (fun hc => ?_) | refine WC_condB rfl (fun hc => ?_) (fun hc => ?_))
    first | refine WQ_ret1 rfl rfl ?_ | refine WQ_ret2 rfl rfl rfl ?_ | refine WQ_ret3 rfl rfl rfl rfl ?_ | refine WQ_ret0 rfl ?_ | refine WQ_end0 rfl ?_
    exact .mk ⟨rfl, Stp.refl _ _⟩
theorem buildBf (p : Option Addr) (l c : Nat) (w : World) : (Instr.build 129 #[(0, .slice p l c)]).run Tryd.prog w = .ok (.agg #[.slice p l c, .int .i64 0]) w := by kernel_rfl
theorem buildRd (p : Option Addr) (l c : Nat) (w : World) : (Instr.build 131 #[(0, .agg #[.slice p l c, .int .i64 0])]).run Tryd.prog w = .ok (.agg #[.slice p l c, .int .i64 0]) w := by kernel_rfl
theorem buildSI1r (a : Int) (w : World) : (Instr.buildSlice 22 1 #[(0, .int .i64 a)]).run Tryd.prog w = .ok (.slice (some ⟨w.heap.size, 0, none⟩) 1 1) (w.alloc (.cells #[.int .i64 a] 3)) := by kernel_rfl
theorem NewReader_any (X : List Nat) (v : Value) (bs : Bs) (w : World) (hl : bs.length ≤ 140737488355328) (hs : SlV [] w v bs) (hX : ∀ c ∈ X, c < w.heap.size) :
    Calls Tryd.prog 42 #[v] w (Ret fun r w' => ∃ b, r = .pointer (some ⟨b, 0, none⟩) ∧ w.heap.size ≤ b ∧ Rd X w' b ⟨bs, 0⟩ ∧ Stp [] w w') := by
  refine calls_of_WC1 (n := 8) Tryd.func42 rfl rfl rfl ?_
  refine W ?_
  refine WL_eff (OE_call rfl (evs1 rfl) (Clone_any v bs w hs hl)) rfl ?_
  rintro cv w1 ⟨hrow, hT⟩
  have hsv := hrow.slv0
  obtain ⟨p, c, rfl, -⟩ := id hsv
  refine WL_build (vs := [(0, .slice p bs.length c)]) rfl (buildBf _ _ _) rfl ?_
  refine WL_build (vs := [(0, .agg #[.slice p bs.length c, .int .i64 0])]) rfl (buildRd _ _ _) rfl ?_
  refine WL_eff (OE_box rfl) rfl ?_
  rintro _ w2 ⟨b, rfl, hb, e0, hS⟩
  replace e0 : Blk w2 b 131 [.slice p bs.length c, .int .i64 0] := e0
  refine W ?_
  first | refine WQ_ret1 rfl rfl ?_ | refine WQ_ret2 rfl rfl rfl ?_ | refine WQ_ret3 rfl rfl rfl rfl ?_ | refine WQ_ret0 rfl ?_ | refine WQ_end0 rfl ?_
  have hz := hT.size
  refine .mk ⟨b, rfl, by omega, ⟨_, e0, ?_⟩, hT.trans hS⟩
  have hx := hrow.anyX' (X' := X) |>.slvX (fun d hd hd' => by
    have h1 := (hrow.ob_le d hd').1
    have h2 := hX d hd
    omega)
  exact hx.ext (X' := b :: X) hS (by simp) (fun d hd => by
    rcases List.mem_cons.1 hd with rfl | hd
    · exact .inr hb
    · exact .inl hd)
theorem RInts_any (X : List Nat) (b most : Nat) (s : Rs) (w : World) (hm : most ≤ 1000000) (hr : Rd X w b s) (hX : ∀ c ∈ X, c < w.heap.size) :
    Calls Tryd.prog 45 #[.pointer (some ⟨b, 0, none⟩), .int .i64 (most : Int)] w (Ret fun r w' => Row [] w' w.heap.size 3 r (intsS most s).2 ∧ Rd (ob r ++ X) w' b (intsS most s).1 ∧ Stp [b] w w') := by
  have hbw : b < w.heap.size := by obtain ⟨v, h1, -⟩ := hr; exact h1.lt
  refine calls_of_WC2 (n := 34) Tryd.func45 rfl rfl rfl ?_
  refine W ?_
  refine WL_eff (OE_call rfl (evs2 rfl rfl) (Rlen_any X b most s w hm hr)) rfl ?_
  rintro _ w1 ⟨rfl, hr1, hT⟩
  have hdef : intsS most s = (if (intsLp (lengthS most s).2 (lengthS most s).1 []).1.e = 0 then intsLp (lengthS most s).2 (lengthS most s).1 [] else ((intsLp (lengthS most s).2 (lengthS most s).1 []).1, [])) := rfl
  have hle : (lengthS most s).2 ≤ 1000000 := by
    unfold lengthS
    split
    · split
      · simp
      · omega
    · simp
  rw [hdef]
  clear hdef hr
  generalize (lengthS most s).2 = n at *
  generalize (lengthS most s).1 = s1 at *
  refine W ?_
  refine WC_loop (σ := Nat × Rs × List Int × Value) (fun q => [(0, .pointer (some ⟨b, 0, none⟩)), (5, q.2.2.2), (6, .int .i64 (q.1 : Int))]) (fun q w' => q.1 ≤ n ∧ q.2.2.1.length + q.1 ≤ n ∧ Row [b] w' w.heap.size 3 q.2.2.2 q.2.2.1 ∧ Rd (ob q.2.2.2 ++ X) w' b q.2.1 ∧ Stp [b] w w' ∧ intsLp n s1 [] = intsLp q.1 q.2.1 q.2.2.1) (fun q => q.1) (n, s1, [], .slice none 0 0) ⟨rfl, rfl, rfl, trivial⟩
    ⟨Nat.le_refl _, by simp, Row.nil, hr1, hT, rfl⟩ ?_
  clear hr1 hT
  rintro ⟨k, s2, out, u⟩ w2 ⟨hk, hol, hrow, hr2, hT, heq⟩
  dsimp only at hk hol hrow hr2 hT heq ⊢
  obtain ⟨v, hblk, hs⟩ := id hr2
  have fin : ∀ hz : k = 0 ∨ s2.e ≠ 0, intsLp n s1 [] = (s2, out) := fun hz => by
    rw [heq]
    rcases hz with rfl | h
    · rfl
    · exact intsLp_bad h _ _
  by_cases hk0 : k = 0
  · have hf := fin (.inl hk0)
    rw [hf]
    dsimp only
    by_cases he : s2.e = 0
    · rw [if_pos he]
      repeat' (first | refine W1 ?_ | (exfalso; omega) | refine WL_split rfl rfl (fun hg => ?_) (fun hg => ?_) | refine WL_splitB rfl rfl (fun hg => ?_) (fun hg => ?_) | refine WC_cond rfl (fun hc => ?_) (fun hc => ?_) | refine WC_condB rfl (fun hc => ?_) (fun hc => ?_))
      first | refine WQ_ret1 rfl rfl ?_ | refine WQ_ret2 rfl rfl rfl ?_ | refine WQ_ret3 rfl rfl rfl rfl ?_ | refine WQ_ret0 rfl ?_ | refine WQ_end0 rfl ?_
      exact .mk ⟨hrow.anyX', hr2, hT⟩
    · rw [if_neg he]
      repeat' (first | refine W1 ?_ | (exfalso; omega) | refine WL_split rfl rfl (fun hg => ?_) (fun hg => ?_) | refine WL_splitB rfl rfl (fun hg => ?_) (fun hg => ?_) | refine WC_cond rfl (fun hc => ?_) (fun hc => ?_) | refine WC_condB rfl (fun hc => ?_) (fun hc => ?_))
      first | refine WQ_ret1 rfl rfl ?_ | refine WQ_ret2 rfl rfl rfl ?_ | refine WQ_ret3 rfl rfl rfl rfl ?_ | refine WQ_ret0 rfl ?_ | refine WQ_end0 rfl ?_
      exact .mk ⟨Row.nil, hr2.sub (fun c hc => List.mem_append_right _ (by simpa [ob] using hc)), hT⟩
  · by_cases he : s2.e = 0
    · rw [show k = (k - 1) + 1 by omega, intsLp, if_pos he] at heq
      repeat' (first | refine W1 ?_ | (exfalso; omega) | refine WL_split rfl rfl (fun hg => ?_) (fun hg => ?_) | refine WL_splitB rfl rfl (fun hg => ?_) (fun hg => ?_) | refine WC_cond rfl (fun hc => ?_) (fun hc => ?_) | refine WC_condB rfl (fun hc => ?_) (fun hc => ?_))
      refine WL_eff (OE_call rfl (evs1 rfl) (RInt_any _ b s2 w2 hr2)) rfl ?_
      rintro _ w3 ⟨rfl, hr3, hT3⟩
      have hb2 := hrow.ob_le
      have hrow3 : Row [b] w3 w.heap.size 3 u out := hrow.ext hT3 (fun c hc => by
        simp at hc
        subst hc
        exact ⟨by simp, fun h => by have := (hb2 _ h).1; omega⟩) (fun c hc => .inl hc)
      refine WL_eff (OE_buildSlice (vs := [(0, .int .i64 (intS s2).2)]) rfl (buildSI1r _)) rfl ?_
      rintro bv w4 hN
      have hbv : SlV (ob u ++ [b]) w4 bv [(intS s2).2] := hN.slv (fun c hc => by
        rcases List.mem_append.1 hc with h | h
        · have := (hrow3.ob_le c h).2; omega
        · simp at h; subst h; have := hT3.size; have := hT.size; omega) rfl rfl (by simp [maxLen])
      have hT4 := NewSl.stp hN
      have hrow4 := hrow3.up hT4
      have hr4 := hr3.up hT4
      clear hN
      have hz := hT.size
      have hz3 := hT3.size
      have hz4 := hT4.size
      refine WL_eff (OE_append (X := [b]) (base := w.heap.size) rfl (by decide) rfl rfl hrow4 hbv (by simp only [List.length_cons, List.length_nil]; omega) (by simp only [List.length_cons, List.length_nil, maxLen]; omega) (by omega)) rfl ?_
      rintro u' w5 ⟨hrow5, hT5, hob⟩
      have hr5 : Rd (ob u' ++ X) w5 b (intS s2).1 := hr4.ext hT5 (fun c hc => List.mem_append_left _ hc) (fun h => by have := (hrow4.ob_le b h).1; omega) (fun c hc => by
        rcases List.mem_append.1 hc with h | h
        · exact (hob c h).imp (fun h => List.mem_append_left _ h) id
        · exact .inl (List.mem_append_right _ h))
      have hT' : Stp [b] w w5 := ((hT.trans hT3).trans (hT4.mono (by simp))).own hT5 (fun c hc => .inr (hrow4.ob_le c hc).1)
      refine W ?_
      exact WQ_loop (k - 1, (intS s2).1, out ++ [(intS s2).2], u') ⟨rfl, rfl, by show some _ = some _; congr 2; simp only; omega, trivial⟩ ⟨by dsimp only; omega, by simp only [List.length_append, List.length_cons, List.length_nil]; omega, hrow5, hr5, hT', heq⟩ (by dsimp only; omega)
    · have hf := fin (.inr he)
      rw [hf]
      dsimp only
      rw [if_neg he]
      repeat' (first | refine W1 ?_ | (exfalso; omega) | refine WL_split rfl rfl (fun hg => ?_) (fun hg => ?_) | refine WL_splitB rfl rfl (fun hg => ?_) (fun hg => ?_) | refine WC_cond rfl (fun hc => ?_) (fun hc => ?_) | refine WC_condB rfl (fun hc => ?_) (fun hc => ?_))
      first | refine WQ_ret1 rfl rfl ?_ | refine WQ_ret2 rfl rfl rfl ?_ | refine WQ_ret3 rfl rfl rfl rfl ?_ | refine WQ_ret0 rfl ?_ | refine WQ_end0 rfl ?_
      exact .mk ⟨Row.nil, hr2.sub (fun c hc => List.mem_append_right _ (by simpa [ob] using hc)), hT⟩
end Go.Proofs.YtgpibcgebpgmiaaDoor


/-
Reading an unsigned number, as the reference does: first the length, then the digits from the last one.
-/
namespace Go.Eng
open Go
def valB : Bs → Nat
  | [] => 0
  | c :: r => c.toNat % 128 + 128 * valB r
def addOn' (i acc : Nat) : Sum Int (Nat × Bs) → Sum Int (Nat × Bs)
  | .inl e => .inl e
  | .inr (v, r) => .inr (acc + 128 ^ i * v, r)
theorem rdU_scan : ∀ (i k : Nat) (bs : Bs), k + i ≤ 10 → (hi : i ≤ bs.length) → (∀ j (h : j < i), 128 ≤ (bs[j]'(by omega)).toNat) → rdU k bs = addOn' i (valB (bs.take i)) (rdU (k + i) (bs.drop i))
  | 0, k, bs, _, _, _ => by
    cases h : rdU k bs with
    | inl e => simp [addOn', h]
    | inr p => simp [addOn', h, valB]
  | i + 1, k, [], _, hi, _ => by simp at hi
  | i + 1, k, c :: r, hk, hi, hb => by
    have h0 := hb 0 (by omega)
    simp only [List.getElem_cons_zero] at h0
    have ih := rdU_scan i (k + 1) r (by omega) (by simpa using hi) (fun j hj => by have := hb (j + 1) (by omega); simpa using this)
    rw [rdU, if_neg (by omega), if_neg (by omega), ih, show k + 1 + i = k + (i + 1) by omega, List.take_succ_cons, List.drop_succ_cons]
    cases rdU (k + (i + 1)) (r.drop i) with
    | inl e => rfl
    | inr p =>
      obtain ⟨v, r'⟩ := p
      simp only [addOn', valB, Sum.inr.injEq, Prod.mk.injEq, and_true]
      rw [Nat.mul_add, ← Nat.mul_assoc, Nat.pow_succ, Nat.mul_comm 128 (128 ^ i)]
      omega
theorem valB_snoc : ∀ (l : Bs) (c : UInt8), c.toNat < 128 → valB (l ++ [c]) = valB l + 128 ^ l.length * c.toNat
  | [], c, h => by simp [valB]; omega
  | d :: l, c, h => by
    rw [List.cons_append, valB, valB, valB_snoc l c h, List.length_cons, Nat.pow_succ, Nat.mul_add, ← Nat.mul_assoc, Nat.mul_comm (128 ^ l.length) 128]
    omega
theorem valB_lt : ∀ (l : Bs), valB l < 128 ^ l.length
  | [] => by simp [valB]
  | c :: l => by
    have := valB_lt l
    rw [valB, List.length_cons, Nat.pow_succ]
    omega
/-- what the reference's tests say -/
theorem rdU_ref {bs : Bs} {i : Nat} (hi : i ≤ bs.length) (h10 : i ≤ 10) (hb : ∀ j (h : j < i), 128 ≤ (bs[j]'(by omega)).toNat) :
    (i = 10 → rdU 0 bs = .inl 7) ∧ (i < 10 → i = bs.length → rdU 0 bs = .inl 6) ∧
    (i < 10 → ∀ h : i < bs.length, bs[i].toNat < 128 → (((i = 9 ∧ 1 < bs[i].toNat) ∨ (0 < i ∧ bs[i].toNat = 0)) → rdU 0 bs = .inl 7) ∧
      (¬ ((i = 9 ∧ 1 < bs[i].toNat) ∨ (0 < i ∧ bs[i].toNat = 0)) → rdU 0 bs = .inr (valB (bs.take (i + 1)), bs.drop (i + 1)) ∧ valB (bs.take (i + 1)) < 18446744073709551616)) := by
  have hs := rdU_scan i 0 bs (by omega) hi hb
  rw [Nat.zero_add] at hs
  refine ⟨fun h => ?_, fun h h2 => ?_, fun h h2 hc => ⟨fun hbad => ?_, fun hok => ?_⟩⟩
  · subst h
    rw [hs]
    have : rdU 10 (bs.drop 10) = .inl 7 := by cases bs.drop 10 <;> rw [rdU, if_pos rfl]
    rw [this]; rfl
  · rw [hs, h2, List.drop_length]
    have : rdU bs.length [] = .inl 6 := by rw [rdU, if_neg (by omega)]
    rw [this]; rfl
  · rw [hs, List.drop_eq_getElem_cons h2, rdU, if_neg (by omega), if_pos hc, if_pos hbad]; rfl
  · have hv : valB (bs.take (i + 1)) = valB (bs.take i) + 128 ^ i * bs[i].toNat := by
      rw [List.take_succ_eq_append_getElem h2, valB_snoc _ _ hc, List.length_take, Nat.min_eq_left hi]
    refine ⟨?_, ?_⟩
    · rw [hs, List.drop_eq_getElem_cons h2, rdU, if_neg (by omega), if_pos hc, if_neg hok, hv]; rfl
    · rw [hv]
      have hl := valB_lt (bs.take i)
      rw [List.length_take, Nat.min_eq_left hi] at hl
      by_cases h9 : i = 9
      · subst h9
        have h1 : bs[9].toNat ≤ 1 := by omega
        have := Nat.mul_le_mul_left (128 ^ 9) h1
        omega
      · have h8 : 128 ^ i ≤ 128 ^ 8 := Nat.pow_le_pow_right (by decide) (by omega)
        have : 128 ^ i * bs[i].toNat ≤ 128 ^ 8 * 127 := Nat.mul_le_mul h8 (by omega)
        omega
theorem valB_step {bs : Bs} {i t : Nat} (h : t ≤ i) (hi : i < bs.length) : valB ((bs.take (i + 1)).drop t) = bs[t].toNat % 128 + 128 * valB ((bs.take (i + 1)).drop (t + 1)) := by
  rw [List.drop_eq_getElem_cons (by rw [List.length_take]; omega), valB, List.getElem_take]
theorem valB_drop_le (l : Bs) : ∀ t, valB (l.drop t) ≤ valB l := by
  induction l with
  | nil => intro t; simp [valB]
  | cons c l ih =>
    intro t
    cases t with
    | zero => exact Nat.le_refl _
    | succ t =>
      rw [List.drop_succ_cons, valB]
      have := ih t
      omega
end Go.Eng


namespace Go.Proofs.YtgpibcgebpgmiaaDoor
open Go Go.Eng Go.RowKit
set_option linter.unusedVariables false
/-- the reference's reader: a value -/
def RfV (X : List Nat) (w : World) (v : Value) (s : Rs) : Prop := ∃ bv, v = .agg #[bv, .int .i64 s.e] ∧ SlV X w bv s.bs
theorem RfV.ext {X X' S : List Nat} {w w' : World} {v : Value} {s : Rs} (h : RfV X w v s) (hS : Stp S w w') (h1 : ∀ c ∈ S, c ∈ X) (h2 : ∀ c ∈ X', c ∈ X ∨ w.heap.size ≤ c) : RfV X' w' v s := by
  obtain ⟨bv, h3, h4⟩ := h
  exact ⟨bv, h3, h4.ext hS h1 h2⟩
theorem RfV.up {X : List Nat} {w w' : World} {v : Value} {s : Rs} (h : RfV X w v s) (hS : Stp [] w w') : RfV X w' v s := h.ext hS (by simp) (fun c hc => .inl hc)
abbrev rfC (bv : Value) (e : Int) : List Value := [bv, .int .i64 e]
theorem rfC_one {X : List Nat} {w : World} {bv : Value} {e : Int} {bs : Bs} (h : SlV X w bv bs) : ∀ c ∈ rfC bv e, c.oneCell' = true := by
  intro c hc
  simp only [rfC, List.mem_cons, List.not_mem_nil, or_false] at hc
  rcases hc with rfl | rfl
  · exact h.one
  · rfl
theorem FailR_any (X : List Nat) (v : Value) (s : Rs) (e1 : Nat) (w : World) (hr : RfV X w v s) (hX : ∀ c ∈ X, c < w.heap.size) :
    Calls Tryd.prog 87 #[v, .int .i64 (e1 : Int)] w (Ret fun r w' => RfV X w' r ⟨s.bs, if s.e = 0 then (e1 : Int) else s.e⟩ ∧ Stp [] w w') := by
  obtain ⟨bv, rfl, hs⟩ := hr
  obtain ⟨p, c, rfl, -⟩ := id hs
  refine calls_of_WC2 (n := 11) Tryd.func87 rfl rfl rfl ?_
  refine W ?_
  refine WL_eff (OE_box rfl) rfl ?_
  rintro _ w1 ⟨b2, rfl, hb2, e2, hS⟩
  replace e2 : Blk w1 b2 81 (rfC (.slice p s.bs.length c) s.e) := e2
  refine W ?_
  refine WL_eff OE_alloc rfl ?_
  rintro _ w2 ⟨b4, rfl, hb4, e4, hT⟩
  have n24 : b4 ≠ b2 := by have := e2.lt; omega
  have hz := hS.size
  replace e2 := e2.up hT
  replace hS := hS.trans hT
  clear hT
  by_cases he : s.e = 0
  · rw [if_pos he]
    repeat' (first | refine W1 ?_ | (exfalso; omega) | refine WL_split rfl rfl (fun hg => ?_) (fun hg => ?_) | refine WL_splitB rfl rfl (fun hg => ?_) (fun hg => ?_) | refine WC_cond rfl (fun hc => ?_) (fun hc => ?_) | refine WC_condB rfl (fun hc => ?_) (fun hc => ?_))
    refine WL_eff0 (OE_store1 (u := .int .i64 (e1 : Int)) rfl rfl rfl rfl e2 (by simp)) ?_
    rintro _ w3 ⟨hT, e2'⟩
    replace e2' : Blk w3 b2 81 (rfC (.slice p s.bs.length c) (e1 : Int)) := e2'
    replace e4 := e4.ext hT (by simp; exact n24)
    replace hS := hS.own hT (fun d hd => by simp at hd; subst hd; exact .inr hb2)
    clear hT e2
    have hsc := hs.up hS
    refine W ?_
    refine WL_eff0 (OE_storeA (us := rfC (.slice p s.bs.length c) (e1 : Int)) rfl rfl rfl rfl (rfC_one hsc) e4 rfl) ?_
    rintro _ w4 ⟨hT, e4'⟩
    replace hS := hS.own hT (fun d hd => by simp at hd; subst hd; exact .inr (by omega))
    refine W ?_
    refine WQ_retc rfl rfl rfl e4' rfl ?_
    exact .mk ⟨⟨_, rfl, hs.up hS⟩, hS⟩
  · rw [if_neg he]
    have hsc := hs.up hS
    repeat' (first | refine W1 ?_ | (exfalso; omega) | refine WL_split rfl rfl (fun hg => ?_) (fun hg => ?_) | refine WL_splitB rfl rfl (fun hg => ?_) (fun hg => ?_) | refine WC_cond rfl (fun hc => ?_) (fun hc => ?_) | refine WC_condB rfl (fun hc => ?_) (fun hc => ?_))
    refine WL_eff0 (OE_storeA (us := rfC (.slice p s.bs.length c) s.e) rfl rfl rfl rfl (rfC_one hsc) e4 rfl) ?_
    rintro _ w4 ⟨hT, e4'⟩
    replace hS := hS.own hT (fun d hd => by simp at hd; subst hd; exact .inr (by omega))
    refine W ?_
    refine WQ_retc rfl rfl rfl e4' rfl ?_
    exact .mk ⟨⟨_, rfl, hs.up hS⟩, hS⟩
theorem Zag_any (u : Nat) (w : World) (h : u < 18446744073709551616) : Calls Tryd.prog 88 #[.int .u64 (u : Int)] w (Ret fun r w' => r = .int .i64 (zagI u) ∧ Stp [] w w') := by
  refine calls_of_WC1 (n := 14) Tryd.func88 rfl rfl rfl ?_
  refine W ?_
  refine WL_pure (PR_remK (r := ((u % 2 : Nat) : Int)) rfl rfl (by decide) (by rw [Int.tmod_eq_emod_of_nonneg (by omega)]; omega)) rfl ?_
  unfold zagI
  by_cases h1 : u % 2 = 1
  · rw [if_pos h1]
    repeat' (first | refine W1 ?_ | (exfalso; omega) | refine WL_split rfl rfl (fun hg => ?_) (fun hg => ?_) | refine WL_splitB rfl rfl (fun hg => ?_) (fun hg => ?_) | refine WC_cond rfl (fun hc => ?_) (fun hc => ?_) | refine WC_condB rfl (fun hc => ?_) (fun hc => ?_))
    refine WL_pure (PR_quoK (r := ((u / 2 : Nat) : Int)) rfl rfl (by decide) (by rw [Int.tdiv_eq_ediv_of_nonneg (by omega), wrap_u64_of (by omega) (by omega)]; omega)) rfl ?_
    refine WL_pure (PR_convTo (b := ((u / 2 : Nat) : Int)) rfl (wrap_i64_of (by unfold I64; omega))) rfl ?_
    refine W ?_
    first | refine WQ_ret1 rfl rfl ?_ | refine WQ_ret2 rfl rfl rfl ?_ | refine WQ_ret3 rfl rfl rfl rfl ?_ | refine WQ_ret0 rfl ?_ | refine WQ_end0 rfl ?_
    exact .mk ⟨rfl, Stp.refl _ _⟩
  · rw [if_neg h1]
    repeat' (first | refine W1 ?_ | (exfalso; omega) | refine WL_split rfl rfl (fun hg => ?_) (fun hg => ?_) | refine WL_splitB rfl rfl (fun hg => ?_) (fun hg => ?_) | refine WC_cond rfl (fun hc => ?_) (fun hc => ?_) | refine WC_condB rfl (fun hc => ?_) (fun hc => ?_))
    refine WL_pure (PR_quoK (r := ((u / 2 : Nat) : Int)) rfl rfl (by decide) (by rw [Int.tdiv_eq_ediv_of_nonneg (by omega), wrap_u64_of (by omega) (by omega)]; omega)) rfl ?_
    refine WL_pure (PR_convTo (b := ((u / 2 : Nat) : Int)) rfl (wrap_i64_of (by unfold I64; omega))) rfl ?_
    refine W ?_
    first | refine WQ_ret1 rfl rfl ?_ | refine WQ_ret2 rfl rfl rfl ?_ | refine WQ_ret3 rfl rfl rfl rfl ?_ | refine WQ_ret0 rfl ?_ | refine WQ_end0 rfl ?_
    exact .mk ⟨rfl, Stp.refl _ _⟩
theorem EndR_any (X : List Nat) (v : Value) (s : Rs) (w : World) (hr : RfV X w v s) :
    Calls Tryd.prog 51 #[v] w (Ret fun r w' => r = .int .i64 (endS s) ∧ Stp [] w w') := by
  obtain ⟨bv, rfl, hs⟩ := hr
  obtain ⟨p, c, rfl, -⟩ := id hs
  have hmax := hs.max
  refine calls_of_WC1 (n := 14) Tryd.func51 rfl rfl rfl ?_
  refine W ?_
  refine WL_eff (OE_box rfl) rfl ?_
  rintro _ w1 ⟨b2, rfl, hb2, e2, hS⟩
  replace e2 : Blk w1 b2 81 (rfC (.slice p s.bs.length c) s.e) := e2
  have hsc := hs.up hS
  unfold endS
  by_cases he : s.e = 0
  · by_cases hl : 0 < s.bs.length
    · rw [if_pos ⟨he, hl⟩]
      repeat' (first | refine W1 ?_ | (exfalso; omega) | refine WL_split rfl rfl (fun hg => ?_) (fun hg => ?_) | refine WL_splitB rfl rfl (fun hg => ?_) (fun hg => ?_) | refine WC_cond rfl (fun hc => ?_) (fun hc => ?_) | refine WC_condB rfl (fun hc => ?_) (fun hc => ?_))
      first | refine WQ_ret1 rfl rfl ?_ | refine WQ_ret2 rfl rfl rfl ?_ | refine WQ_ret3 rfl rfl rfl rfl ?_ | refine WQ_ret0 rfl ?_ | refine WQ_end0 rfl ?_
      exact .mk ⟨rfl, hS⟩
    · rw [if_neg (fun h => hl h.2)]
      repeat' (first | refine W1 ?_ | (exfalso; omega) | refine WL_split rfl rfl (fun hg => ?_) (fun hg => ?_) | refine WL_splitB rfl rfl (fun hg => ?_) (fun hg => ?_) | refine WC_cond rfl (fun hc => ?_) (fun hc => ?_) | refine WC_condB rfl (fun hc => ?_) (fun hc => ?_))
      first | refine WQ_ret1 rfl rfl ?_ | refine WQ_ret2 rfl rfl rfl ?_ | refine WQ_ret3 rfl rfl rfl rfl ?_ | refine WQ_ret0 rfl ?_ | refine WQ_end0 rfl ?_
      exact .mk ⟨rfl, hS⟩
  · rw [if_neg (fun h => he h.1)]
    repeat' (first | refine W1 ?_ | (exfalso; omega) | refine WL_split rfl rfl (fun hg => ?_) (fun hg => ?_) | refine WL_splitB rfl rfl (fun hg => ?_) (fun hg => ?_) | refine WC_cond rfl (fun hc => ?_) (fun hc => ?_) | refine WC_condB rfl (fun hc => ?_) (fun hc => ?_))
    first | refine WQ_ret1 rfl rfl ?_ | refine WQ_ret2 rfl rfl rfl ?_ | refine WQ_ret3 rfl rfl rfl rfl ?_ | refine WQ_ret0 rfl ?_ | refine WQ_end0 rfl ?_
    exact .mk ⟨rfl, hS⟩
end Go.Proofs.YtgpibcgebpgmiaaDoor


namespace Go.Proofs.YtgpibcgebpgmiaaDoor
open Go Go.Eng Go.RowKit
set_option linter.unusedVariables false
theorem buildRf (p : Option Addr) (l c : Nat) (w : World) : (Instr.build 81 #[(0, .slice p l c)]).run Tryd.prog w = .ok (.agg #[.slice p l c, .int .i64 0]) w := by kernel_rfl
/-- what a reading function of the reference gives -/
def RfR (X : List Nat) (w : World) (s : Rs) (u : Value) (r : Value) (w' : World) : Prop := ∃ rv, r = .tuple #[rv, u] ∧ RfV X w' rv s ∧ Stp [] w w'
set_option maxRecDepth 8000 in
theorem ReadUint_any (X : List Nat) (v : Value) (s : Rs) (w : World) (hr : RfV X w v s) (hX : ∀ c ∈ X, c < w.heap.size) :
    Calls Tryd.prog 86 #[v] w (Ret (RfR X w (uintS s).1 (.int .u64 ((uintS s).2 : Int)))) := by
  obtain ⟨bv, rfl, hs⟩ := hr
  obtain ⟨p, c, rfl, -⟩ := id hs
  have hmax := hs.max
  refine calls_of_WC1 (n := 87) Tryd.func86 rfl rfl rfl ?_
  refine W ?_
  refine WL_eff (OE_box rfl) rfl ?_
  rintro _ w1 ⟨b1, rfl, hb1, e1, hS⟩
  replace e1 : Blk w1 b1 81 (rfC (.slice p s.bs.length c) s.e) := e1
  refine W ?_
  refine WL_eff OE_alloc rfl ?_
  rintro _ w2 ⟨b2, rfl, hb2, e2, hT⟩
  have n12 : b2 ≠ b1 := by have := e1.lt; omega
  have hz := hS.size
  replace e1 := e1.up hT
  replace hS := hS.trans hT
  clear hT
  have hs2 : SlV (b2 :: X) w2 (.slice p s.bs.length c) s.bs := hs.ext hS (by simp) (fun d hd => by
    rcases List.mem_cons.1 hd with rfl | hd
    · exact .inr (by omega)
    · exact .inl hd)
  have hX2 : ∀ c ∈ b2 :: X, c < w2.heap.size := fun d hd => by
    rcases List.mem_cons.1 hd with rfl | hd
    · exact e2.lt
    · exact Nat.lt_of_lt_of_le (hX d hd) hS.size
  have hsc := hs2
  have done : ∀ (r2 : Rs) (u : Int) (bv' : Value) (w' w3 : World), uintS s = (r2, u.toNat) → 0 ≤ u → Stp [] w w3 → Stp [b2] w3 w' → Blk w' b2 81 (rfC bv' r2.e) → SlV (b2 :: X) w3 bv' r2.bs → (Ret (RfR X w (uintS s).1 (.int .u64 ((uintS s).2 : Int)))) (.returned (.tuple #[.agg (rfC bv' r2.e).toArray, .int .u64 u])) w' := fun r2 u bv' w' w3 h1 h2 h3 h4 h5 h6 => by
    rw [h1]
    have hS' := h3.own h4 (fun d hd => by simp at hd; subst hd; exact .inr (by omega))
    exact .mk ⟨_, by simp only; rw [Int.toNat_of_nonneg h2], ⟨bv', rfl, h6.ext h4 (fun d hd => by simp at hd; simp [hd]) (fun d hd => .inl (List.mem_cons_of_mem _ hd))⟩, hS'⟩
  by_cases he : s.e = 0
  · rw [he] at e1
    have huint : uintS s = (match rdU 0 s.bs with | .inl e => (⟨s.bs, e⟩, 0) | .inr (v, r) => (⟨r, 0⟩, v)) := by unfold uintS; rw [if_pos he]; try rfl
    repeat' (first | refine W1 ?_ | (exfalso; omega) | refine WL_split rfl rfl (fun hg => ?_) (fun hg => ?_) | refine WL_splitB rfl rfl (fun hg => ?_) (fun hg => ?_) | refine WC_cond rfl (fun hc => ?_) (fun hc => ?_) | refine WC_condB rfl (fun hc => ?_) (fun hc => ?_))
    refine WC_loop (σ := Nat) (fun q => [(1, .pointer (some ⟨b1, 0, none⟩)), (2, .pointer (some ⟨b2, 0, none⟩)), (4, .int .i64 (q : Int))]) (fun q w' => w' = w2 ∧ q ≤ 10 ∧ ∃ hq : q ≤ s.bs.length, ∀ j (h : j < q), 128 ≤ (s.bs[j]'(by omega)).toNat) (fun q => 10 - q) 0 ⟨rfl, rfl, rfl, trivial⟩ ⟨rfl, by omega, by omega, fun j h => absurd h (Nat.not_lt_zero _)⟩ ?_
    rintro i w3 ⟨rfl, hi, hil, hall⟩
    obtain ⟨r1, r2, r3⟩ := rdU_ref hil hi hall
    have hfail : ∀ e0 : Nat, rdU 0 s.bs = .inl (e0 : Int) → uintS s = (⟨s.bs, (if (0 : Int) = 0 then (e0 : Int) else 0)⟩, (0 : Int).toNat) := fun e0 h => by rw [huint, h]; rfl
    have hrf : RfV (b2 :: X) w3 (.agg #[.slice p s.bs.length c, .int .i64 0]) ⟨s.bs, 0⟩ := ⟨_, rfl, hsc⟩
    by_cases h10 : i = 10
    · have h1 := r1 h10
      repeat' (first | refine W1 ?_ | (exfalso; omega) | refine WL_split rfl rfl (fun hg => ?_) (fun hg => ?_) | refine WL_splitB rfl rfl (fun hg => ?_) (fun hg => ?_) | refine WC_cond rfl (fun hc => ?_) (fun hc => ?_) | refine WC_condB rfl (fun hc => ?_) (fun hc => ?_))
      all_goals
        refine WL_eff (OE_call rfl (evs2 rfl rfl) (FailR_any (b2 :: X) _ ⟨s.bs, 0⟩ 7 _ hrf hX2)) rfl ?_
        rintro _ w4 ⟨⟨fv, rfl, hfs⟩, hT⟩
        replace e2 := e2.up hT
        replace hS := hS.trans hT
        refine WL_eff0 (OE_storeA (us := rfC fv (if (0 : Int) = 0 then ((7 : Nat) : Int) else 0)) rfl rfl rfl rfl (rfC_one hfs) e2 rfl) ?_
        rintro _ w5 ⟨hT2, e4'⟩
        refine W ?_
        refine WQ_retct rfl rfl rfl e4' rfl rfl ?_
        exact done _ 0 fv _ _ (hfail 7 h1) (by omega) hS hT2 e4' hfs
    · by_cases hend : i = s.bs.length
      · have h1 := r2 (by omega) hend
        repeat' (first | refine W1 ?_ | (exfalso; omega) | refine WL_split rfl rfl (fun hg => ?_) (fun hg => ?_) | refine WL_splitB rfl rfl (fun hg => ?_) (fun hg => ?_) | refine WC_cond rfl (fun hc => ?_) (fun hc => ?_) | refine WC_condB rfl (fun hc => ?_) (fun hc => ?_))
        all_goals
          refine WL_eff (OE_call rfl (evs2 rfl rfl) (FailR_any (b2 :: X) _ ⟨s.bs, 0⟩ 6 _ hrf hX2)) rfl ?_
          rintro _ w4 ⟨⟨fv, rfl, hfs⟩, hT⟩
          replace e2 := e2.up hT
          replace hS := hS.trans hT
          refine WL_eff0 (OE_storeA (us := rfC fv (if (0 : Int) = 0 then ((6 : Nat) : Int) else 0)) rfl rfl rfl rfl (rfC_one hfs) e2 rfl) ?_
          rintro _ w5 ⟨hT2, e4'⟩
          refine W ?_
          refine WQ_retct rfl rfl rfl e4' rfl rfl ?_
          exact done _ 0 fv _ _ (hfail 6 h1) (by omega) hS hT2 e4' hfs
      · have hget : i < s.bs.length := by omega
        have hc256 : s.bs[i].toNat < 256 := s.bs[i].toNat_lt
        by_cases hc : s.bs[i].toNat < 128
        · obtain ⟨r4, r5⟩ := r3 (by omega) hget hc
          by_cases hbad : (i = 9 ∧ 1 < s.bs[i].toNat) ∨ (0 < i ∧ s.bs[i].toNat = 0)
          · have h1 := r4 hbad
            repeat' (first | refine W1 ?_ | (exfalso; omega) | refine WL_split rfl rfl (fun hg => ?_) (fun hg => ?_) | refine WL_splitB rfl rfl (fun hg => ?_) (fun hg => ?_) | refine WC_cond rfl (fun hc => ?_) (fun hc => ?_) | refine WC_condB rfl (fun hc => ?_) (fun hc => ?_))
            all_goals
              refine WL_eff (OE_call rfl (evs2 rfl rfl) (FailR_any (b2 :: X) _ ⟨s.bs, 0⟩ 7 _ hrf hX2)) rfl ?_
              rintro _ w4 ⟨⟨fv, rfl, hfs⟩, hT⟩
              replace e2 := e2.up hT
              replace hS := hS.trans hT
              refine WL_eff0 (OE_storeA (us := rfC fv (if (0 : Int) = 0 then ((7 : Nat) : Int) else 0)) rfl rfl rfl rfl (rfC_one hfs) e2 rfl) ?_
              rintro _ w5 ⟨hT2, e4'⟩
              refine W ?_
              refine WQ_retct rfl rfl rfl e4' rfl rfl ?_
              exact done _ 0 fv _ _ (hfail 7 h1) (by omega) hS hT2 e4' hfs
          · obtain ⟨h1, hlt⟩ := r5 hbad
            rw [h1] at huint
            dsimp only at huint
            clear r1 r2 r3 r4 r5 hfail hrf
            repeat' (first | refine W1 ?_ | (exfalso; omega) | refine WL_split rfl rfl (fun hg => ?_) (fun hg => ?_) | refine WL_splitB rfl rfl (fun hg => ?_) (fun hg => ?_) | refine WC_cond rfl (fun hc => ?_) (fun hc => ?_) | refine WC_condB rfl (fun hc => ?_) (fun hc => ?_))
            all_goals
              refine WC_loop (σ := Nat × Nat) (fun q => [(1, .pointer (some ⟨b1, 0, none⟩)), (2, .pointer (some ⟨b2, 0, none⟩)), (4, .int .i64 (i : Int)), (5, .int .u64 (q.2 : Int)), (6, .int .i64 ((q.1 : Int) - 1))]) (fun q w' => w' = w3 ∧ q.1 ≤ i + 1 ∧ q.2 = valB ((s.bs.take (i + 1)).drop q.1)) (fun q => q.1) (i + 1, 0) ⟨rfl, rfl, rfl, rfl, by show some _ = some _; congr 2; simp only; omega, trivial⟩ ⟨rfl, Nat.le_refl _, by rw [List.drop_of_length_le (by rw [List.length_take]; simp only; omega)]; rfl⟩ ?_
              rintro ⟨k, m⟩ w4 ⟨rfl, hk, hm⟩
              dsimp only at hk hm ⊢
              cases k with
              | zero =>
                rw [List.drop_zero] at hm
                rw [← hm] at huint
                have hsl := hsc.slc (l := i + 1) (r := s.bs.length) (by omega) (Nat.le_refl _)
                rw [List.take_length] at hsl
                replace hsl : SlV (b2 :: X) w4 (slc (.slice p s.bs.length c) (i + 1) s.bs.length 1) (s.bs.drop (i + 1)) := hsl
                repeat' (first | refine W1 ?_ | (exfalso; omega) | refine WL_split rfl rfl (fun hg => ?_) (fun hg => ?_) | refine WL_splitB rfl rfl (fun hg => ?_) (fun hg => ?_) | refine WC_cond rfl (fun hc => ?_) (fun hc => ?_) | refine WC_condB rfl (fun hc => ?_) (fun hc => ?_))
                refine WL_slice_l (l := i + 1) rfl hsc rfl (by simp) (by omega) rfl ?_
                generalize slc (.slice p s.bs.length c) (i + 1) s.bs.length 1 = q at *
                obtain ⟨pq, cq, rfl, -⟩ := id hsl
                refine WL_build (vs := [(0, .slice pq (s.bs.drop (i + 1)).length cq)]) rfl (buildRf _ _ _) rfl ?_
                refine W ?_
                refine WL_eff0 (OE_storeA (us := rfC (.slice pq (s.bs.drop (i + 1)).length cq) 0) rfl rfl rfl rfl (rfC_one hsl) e2 rfl) ?_
                rintro _ w5 ⟨hT2, e4'⟩
                refine W ?_
                refine WQ_retct rfl rfl rfl e4' rfl rfl ?_
                exact done ⟨s.bs.drop (i + 1), 0⟩ (m : Int) _ _ _ (by rw [huint, Int.toNat_natCast]) (by omega) hS hT2 e4' hsl
              | succ t =>
                have e6 : ((t + 1 : Nat) : Int) - 1 = (t : Int) := by omega
                rw [e6]
                have htl : t < s.bs.length := by omega
                have hst := valB_step (bs := s.bs) (i := i) (t := t) (by omega) hget
                have hle := valB_drop_le (s.bs.take (i + 1)) t
                rw [← hm] at hst
                have hc2 : s.bs[t].toNat < 256 := s.bs[t].toNat_lt
                repeat' (first | refine W1 ?_ | (exfalso; omega) | refine WL_split rfl rfl (fun hg => ?_) (fun hg => ?_) | refine WL_splitB rfl rfl (fun hg => ?_) (fun hg => ?_) | refine WC_cond rfl (fun hc => ?_) (fun hc => ?_) | refine WC_condB rfl (fun hc => ?_) (fun hc => ?_))
                refine WL_pure (PR_mulK (r := ((128 * m : Nat) : Int)) rfl rfl (by rw [wrap_u64_of (by omega) (by omega)]; omega)) rfl ?_
                refine W ?_
                refine WL_pure (PR_remK (r := ((s.bs[t].toNat % 128 : Nat) : Int)) rfl rfl (by decide) (by rw [Int.tmod_eq_emod_of_nonneg (by omega)]; omega)) rfl ?_
                refine WL_pure (PR_convTo (b := ((s.bs[t].toNat % 128 : Nat) : Int)) rfl (wrap_u64_of (by omega) (by omega))) rfl ?_
                refine WL_pure (PR_addK (r := ((s.bs[t].toNat % 128 + 128 * m : Nat) : Int)) rfl rfl (by rw [wrap_u64_of (by omega) (by omega)]; omega)) rfl ?_
                refine W ?_
                exact WQ_loop (t, s.bs[t].toNat % 128 + 128 * m) ⟨rfl, rfl, rfl, rfl, rfl, trivial⟩ ⟨rfl, by dsimp only; omega, hst.symm⟩ (by dsimp only; omega)
        · clear r1 r2 r3
          repeat' (first | refine W1 ?_ | (exfalso; omega) | refine WL_split rfl rfl (fun hg => ?_) (fun hg => ?_) | refine WL_splitB rfl rfl (fun hg => ?_) (fun hg => ?_) | refine WC_cond rfl (fun hc => ?_) (fun hc => ?_) | refine WC_condB rfl (fun hc => ?_) (fun hc => ?_))
          refine WQ_loop (i + 1) ⟨rfl, rfl, rfl, trivial⟩ ⟨rfl, by omega, by omega, fun j hj => ?_⟩ (by omega)
          by_cases hji : j = i
          · subst hji; omega
          · exact hall j (by omega)
  · repeat' (first | refine W1 ?_ | (exfalso; omega) | refine WL_split rfl rfl (fun hg => ?_) (fun hg => ?_) | refine WL_splitB rfl rfl (fun hg => ?_) (fun hg => ?_) | refine WC_cond rfl (fun hc => ?_) (fun hc => ?_) | refine WC_condB rfl (fun hc => ?_) (fun hc => ?_))
    refine WL_eff0 (OE_storeA (us := rfC (.slice p s.bs.length c) s.e) rfl rfl rfl rfl (rfC_one hsc) e2 rfl) ?_
    rintro _ w4 ⟨hT, e4'⟩
    refine W ?_
    refine WQ_retct rfl rfl rfl e4' rfl rfl ?_
    exact done s 0 _ _ _ (uintS_bad he) (by omega) hS hT e4' hs2
end Go.Proofs.YtgpibcgebpgmiaaDoor


namespace Go.Proofs.YtgpibcgebpgmiaaDoor
open Go Go.Eng Go.RowKit
set_option linter.unusedVariables false
end Go.Proofs.YtgpibcgebpgmiaaDoor
namespace Go.Eng
open Go Go.RowKit
section
variable {P : Program} {n : Nat} {e : Env} {w : World} {d : Option Nat} {ty : TypeId} {pos : String} {af : Array Edge} {g : Option (Nat × Bool)} {α : Type} [GoRep α] {X : List Nat} {v : Value} {xs : List α}
theorem PR_slice_hK {t el k : Nat} {x hi : Operand} {r : Nat} {ik : IntKind} [hu : Und P t (.slice el)] [hk : Siz P el k] {w₀ : World} (hx : ev e x = some v) (hs : SlV X w₀ v xs) (hb : ev e hi = some (.int ik (r : Int)))
    (hrx : r ≤ xs.length) : PR P n ⟨d, .slice t x none (some hi) none, ty, pos, af, g⟩ e w (slc v 0 r k) := by
  refine ⟨fun act ha' => ?_⟩
  obtain ⟨p, c, rfl, hlen, hm, hn, hc⟩ := hs
  simp [execOp, ha'.ev hx, ha'.ev hb, Instr.sliceAt, run_underlying hu.h, Instr.slice, Instr.sliceBounds, Instr.sliceBound, asIntOf, Siz.run, Eng.slc, show r ≤ c by omega]
theorem PR_slice_lK {t el k : Nat} {x lo : Operand} {l : Nat} {ik : IntKind} [hu : Und P t (.slice el)] [hk : Siz P el k] {w₀ : World} (hx : ev e x = some v) (hs : SlV X w₀ v xs) (ha : ev e lo = some (.int ik (l : Int)))
    (hlx : l ≤ xs.length) : PR P n ⟨d, .slice t x (some lo) none none, ty, pos, af, g⟩ e w (slc v l xs.length k) := by
  refine ⟨fun act ha' => ?_⟩
  obtain ⟨p, c, rfl, hlen, hm, hn, hc⟩ := hs
  simp [execOp, ha'.ev hx, ha'.ev ha, Instr.sliceAt, run_underlying hu.h, Instr.slice, Instr.sliceBounds, Instr.sliceBound, asIntOf, Siz.run, Eng.slc, hlx]
end
end Go.Eng
namespace Go.Proofs.YtgpibcgebpgmiaaDoor
open Go Go.Eng Go.RowKit
set_option linter.unusedVariables false
theorem ReadInt_any (X : List Nat) (v : Value) (s : Rs) (w : World) (hr : RfV X w v s) (hX : ∀ c ∈ X, c < w.heap.size) :
    Calls Tryd.prog 49 #[v] w (Ret (RfR X w (intS s).1 (.int .i64 (intS s).2))) := by
  obtain ⟨bv, rfl, hs⟩ := hr
  obtain ⟨p, c, rfl, -⟩ := id hs
  have hlt := uintS_lt s
  refine calls_of_WC1 (n := 13) Tryd.func49 rfl rfl rfl ?_
  refine W ?_
  refine WL_eff (OE_box rfl) rfl ?_
  rintro _ w1 ⟨b1, rfl, hb1, e1, hS⟩
  replace e1 : Blk w1 b1 81 (rfC (.slice p s.bs.length c) s.e) := e1
  refine W ?_
  refine WL_eff OE_alloc rfl ?_
  rintro _ w2 ⟨b2, rfl, hb2, e2, hT⟩
  have n12 : b2 ≠ b1 := by have := e1.lt; omega
  have hz := hS.size
  replace e1 := e1.up hT
  replace hS := hS.trans hT
  clear hT
  have hs2 : SlV (b1 :: b2 :: X) w2 (.slice p s.bs.length c) s.bs := hs.ext hS (by simp) (fun d hd => by
    simp only [List.mem_cons] at hd
    rcases hd with rfl | rfl | hd
    · exact .inr hb1
    · exact .inr (by omega)
    · exact .inl hd)
  have hX2 : ∀ c ∈ b1 :: b2 :: X, c < w2.heap.size := fun d hd => by
    simp only [List.mem_cons] at hd
    rcases hd with rfl | rfl | hd
    · exact e1.lt
    · exact e2.lt
    · exact Nat.lt_of_lt_of_le (hX d hd) hS.size
  refine W ?_
  refine WL_eff (OE_call rfl (evs1 rfl) (ReadUint_any (b1 :: b2 :: X) _ s _ ⟨_, rfl, hs2⟩ hX2)) rfl ?_
  rintro _ w3 ⟨rv, rfl, ⟨bv1, rfl, hs3⟩, hT⟩
  have hi : (intS s).1 = (uintS s).1 := rfl
  have hi2 : (intS s).2 = zagI (uintS s).2 := rfl
  rw [hi, hi2]
  clear hi hi2
  generalize (uintS s).2 = u at *
  generalize (uintS s).1 = s1 at *
  refine W ?_
  refine WL_eff0 (OE_storeA (us := rfC bv1 s1.e) rfl rfl rfl rfl (rfC_one hs3) (e1.up hT) rfl) ?_
  rintro _ w4 ⟨hT2, e1'⟩
  have hs4 := hs3.ext hT2 (X' := b1 :: b2 :: X) (fun d hd => by simp at hd; simp [hd]) (fun d hd => .inl hd)
  replace e2 := (e2.up hT).ext hT2 (by simp; exact n12)
  replace hS := (hS.trans hT).own hT2 (fun d hd => by simp at hd; subst hd; exact .inr hb1)
  clear hT hT2 e1 hs2 hs3 hX2
  refine W ?_
  refine WC_drawn 5 [] [3] [(0, 1), (1, 0), (2, 2), (3, 2), (4, 0)] rfl mixed (by kernel_rfl) (by kernel_rfl) (by kernel_rfl) (fun w1 hS1 => ?_)
  replace e1' := e1'.up hS1
  replace e2 := e2.up hS1
  replace hs4 := hs4.up hS1
  replace hS := hS.trans hS1
  clear hS1
  refine D ?_
  refine WD_eff rfl trivial (OE_call rfl (evs1 rfl) (Zag_any u _ hlt)) (fun _ _ h => h.2) rfl ?_
  rintro _ w5 ⟨rfl, hT⟩
  replace e2 := e2.up hT
  replace hs4 := hs4.up hT
  replace hS := hS.trans hT
  clear hT
  refine D ?_
  refine WD_late0 rfl trivial (OE_storeA (us := rfC bv1 s1.e) rfl rfl rfl rfl (rfC_one hs4) e2 rfl) rfl ?_
  rintro _ w6 ⟨hT, e2'⟩
  have hs5 := hs4.ext hT (X' := X) (fun d hd => by simp at hd; simp [hd]) (fun d hd => .inl (by simp [hd]))
  replace hS := hS.own hT (fun d hd => by simp at hd; subst hd; exact .inr (by omega))
  refine D ?_
  refine W ?_
  refine WQ_retct rfl rfl rfl e2' rfl rfl ?_
  exact .mk ⟨_, rfl, ⟨bv1, rfl, hs5⟩, hS⟩
theorem ReadText_any (X : List Nat) (v : Value) (s : Rs) (most : Nat) (w : World) (hm : most ≤ 1000000) (hr : RfV X w v s) (hX : ∀ c ∈ X, c < w.heap.size) :
    Calls Tryd.prog 48 #[v, .int .i64 (most : Int)] w (Ret (RfR X w (textS most s).1 (str (textS most s).2))) := by
  obtain ⟨bv, rfl, hs⟩ := hr
  obtain ⟨p, c, rfl, -⟩ := id hs
  have hlt := uintS_lt s
  refine calls_of_WC2 (n := 45) Tryd.func48 rfl rfl rfl ?_
  refine W ?_
  refine WL_eff (OE_box rfl) rfl ?_
  rintro _ w1 ⟨b1, rfl, hb1, e1, hS⟩
  replace e1 : Blk w1 b1 81 (rfC (.slice p s.bs.length c) s.e) := e1
  refine W ?_
  refine WL_eff OE_alloc rfl ?_
  rintro _ w2 ⟨b2, rfl, hb2, e2, hT⟩
  have n12 : b2 ≠ b1 := by have := e1.lt; omega
  have hz := hS.size
  replace e1 := e1.up hT
  replace hS := hS.trans hT
  clear hT
  have hs2 : SlV (b1 :: b2 :: X) w2 (.slice p s.bs.length c) s.bs := hs.ext hS (by simp) (fun d hd => by
    simp only [List.mem_cons] at hd
    rcases hd with rfl | rfl | hd
    · exact .inr hb1
    · exact .inr (by omega)
    · exact .inl hd)
  have hX2 : ∀ c ∈ b1 :: b2 :: X, c < w2.heap.size := fun d hd => by
    simp only [List.mem_cons] at hd
    rcases hd with rfl | rfl | hd
    · exact e1.lt
    · exact e2.lt
    · exact Nat.lt_of_lt_of_le (hX d hd) hS.size
  refine W ?_
  refine WL_eff (OE_call rfl (evs1 rfl) (ReadUint_any (b1 :: b2 :: X) _ s _ ⟨_, rfl, hs2⟩ hX2)) rfl ?_
  rintro _ w3 ⟨rv, rfl, ⟨bv1, rfl, hs3⟩, hT⟩
  have hdef : textS most s = (if (uintS s).1.e = 0 then (if most < (uintS s).2 then (⟨(uintS s).1.bs, 2⟩, []) else if (uintS s).1.bs.length < (uintS s).2 then (⟨(uintS s).1.bs, 6⟩, []) else (⟨(uintS s).1.bs.drop (uintS s).2, 0⟩, (uintS s).1.bs.take (uintS s).2)) else ((uintS s).1, [])) := by
    unfold textS lengthS
    by_cases h1 : (uintS s).1.e = 0
    · simp only [if_pos h1]
      by_cases h2 : most < (uintS s).2
      · simp only [if_pos h2]
        rw [if_neg (by decide)]
      · simp only [if_neg h2, if_pos h1]
    · simp only [if_neg h1]
  rw [hdef]
  clear hdef
  generalize (uintS s).2 = u at *
  generalize (uintS s).1 = s1 at *
  refine W ?_
  refine WL_eff0 (OE_storeA (us := rfC bv1 s1.e) rfl rfl rfl rfl (rfC_one hs3) (e1.up hT) rfl) ?_
  rintro _ w4 ⟨hT2, e1'⟩
  have hX4 : ∀ c ∈ b1 :: b2 :: X, c < w4.heap.size := fun d hd => Nat.lt_of_lt_of_le (hX2 d hd) (Nat.le_trans hT.size hT2.size)
  have hs4 := hs3.ext hT2 (X' := b1 :: b2 :: X) (fun d hd => by simp at hd; simp [hd]) (fun d hd => .inl hd)
  replace e2 := (e2.up hT).ext hT2 (by simp; exact n12)
  replace hS := (hS.trans hT).own hT2 (fun d hd => by simp at hd; subst hd; exact .inr hb1)
  clear hT hT2 e1 hs2 hs3 hX2
  have hmax := hs4.max
  obtain ⟨q1, c1, rfl, -⟩ := id hs4
  have done : ∀ (r2 : Rs) (t : Str) (bv' : Value) (w' w3 : World), Stp [] w w3 → Stp [b2] w3 w' → SlV (b1 :: b2 :: X) w3 bv' r2.bs → (Ret (RfR X w r2 (str t))) (.returned (.tuple #[.agg (rfC bv' r2.e).toArray, str t])) w' := fun r2 t bv' w' w3 h3 h4 h6 => by
    have hS' := h3.own h4 (fun d hd => by simp at hd; subst hd; exact .inr (by omega))
    exact .mk ⟨_, rfl, ⟨bv', rfl, h6.ext h4 (fun d hd => by simp at hd; simp [hd]) (fun d hd => .inl (by simp [hd]))⟩, hS'⟩
  by_cases he : s1.e = 0
  · rw [if_pos he]
    have hrf : RfV (b1 :: b2 :: X) w4 (.agg #[.slice q1 s1.bs.length c1, .int .i64 s1.e]) s1 := ⟨_, rfl, hs4⟩
    by_cases hmu : most < u
    · rw [if_pos hmu]
      repeat' (first | refine W1 ?_ | (exfalso; omega) | refine WL_split rfl rfl (fun hg => ?_) (fun hg => ?_) | refine WL_splitB rfl rfl (fun hg => ?_) (fun hg => ?_) | refine WC_cond rfl (fun hc => ?_) (fun hc => ?_) | refine WC_condB rfl (fun hc => ?_) (fun hc => ?_))
      refine WL_pure (PR_convTo (b := ((most : Nat) : Int)) rfl (by rw [Int.max_eq_left (by omega)]; exact wrap_u64_of (by omega) (by omega))) rfl ?_
      repeat' (first | refine W1 ?_ | (exfalso; omega) | refine WL_split rfl rfl (fun hg => ?_) (fun hg => ?_) | refine WL_splitB rfl rfl (fun hg => ?_) (fun hg => ?_) | refine WC_cond rfl (fun hc => ?_) (fun hc => ?_) | refine WC_condB rfl (fun hc => ?_) (fun hc => ?_))
      refine WL_eff (OE_call rfl (evs2 rfl rfl) (FailR_any (b1 :: b2 :: X) _ s1 2 _ hrf hX4)) rfl ?_
      rintro _ w5 ⟨⟨fv, rfl, hfs⟩, hT⟩
      rw [if_pos he] at hfs
      replace e2 := e2.up hT
      replace hS := hS.trans hT
      refine WL_eff0 (OE_storeA (us := rfC fv (if s1.e = 0 then ((2 : Nat) : Int) else s1.e)) rfl rfl rfl rfl (rfC_one hfs) e2 rfl) ?_
      rintro _ w6 ⟨hT2, e4'⟩
      rw [if_pos he] at e4'
      refine W ?_
      refine WQ_retct rfl rfl rfl e4' rfl rfl ?_
      exact done ⟨s1.bs, 2⟩ [] fv _ _ hS hT2 hfs
    · rw [if_neg hmu]
      by_cases hlu : s1.bs.length < u
      · rw [if_pos hlu]
        repeat' (first | refine W1 ?_ | (exfalso; omega) | refine WL_split rfl rfl (fun hg => ?_) (fun hg => ?_) | refine WL_splitB rfl rfl (fun hg => ?_) (fun hg => ?_) | refine WC_cond rfl (fun hc => ?_) (fun hc => ?_) | refine WC_condB rfl (fun hc => ?_) (fun hc => ?_))
        refine WL_pure (PR_convTo (b := ((most : Nat) : Int)) rfl (by rw [Int.max_eq_left (by omega)]; exact wrap_u64_of (by omega) (by omega))) rfl ?_
        repeat' (first | refine W1 ?_ | (exfalso; omega) | refine WL_split rfl rfl (fun hg => ?_) (fun hg => ?_) | refine WL_splitB rfl rfl (fun hg => ?_) (fun hg => ?_) | refine WC_cond rfl (fun hc => ?_) (fun hc => ?_) | refine WC_condB rfl (fun hc => ?_) (fun hc => ?_))
        refine WL_pure (PR_convTo (b := ((s1.bs.length : Nat) : Int)) rfl (wrap_u64_of (by omega) (by omega))) rfl ?_
        repeat' (first | refine W1 ?_ | (exfalso; omega) | refine WL_split rfl rfl (fun hg => ?_) (fun hg => ?_) | refine WL_splitB rfl rfl (fun hg => ?_) (fun hg => ?_) | refine WC_cond rfl (fun hc => ?_) (fun hc => ?_) | refine WC_condB rfl (fun hc => ?_) (fun hc => ?_))
        refine WL_eff (OE_call rfl (evs2 rfl rfl) (FailR_any (b1 :: b2 :: X) _ s1 6 _ hrf hX4)) rfl ?_
        rintro _ w5 ⟨⟨fv, rfl, hfs⟩, hT⟩
        rw [if_pos he] at hfs
        replace e2 := e2.up hT
        replace hS := hS.trans hT
        refine WL_eff0 (OE_storeA (us := rfC fv (if s1.e = 0 then ((6 : Nat) : Int) else s1.e)) rfl rfl rfl rfl (rfC_one hfs) e2 rfl) ?_
        rintro _ w6 ⟨hT2, e4'⟩
        rw [if_pos he] at e4'
        refine W ?_
        refine WQ_retct rfl rfl rfl e4' rfl rfl ?_
        exact done ⟨s1.bs, 6⟩ [] fv _ _ hS hT2 hfs
      · rw [if_neg hlu]
        have hsa := hs4.slc (l := 0) (r := u) (by omega) (by omega)
        rw [List.drop_zero] at hsa
        replace hsa : SlV (b1 :: b2 :: X) w4 (slc (.slice q1 s1.bs.length c1) 0 u 1) (s1.bs.take u) := hsa
        have hsb := hs4.slc (l := u) (r := s1.bs.length) (by omega) (Nat.le_refl _)
        rw [List.take_length] at hsb
        replace hsb : SlV (b1 :: b2 :: X) w4 (slc (.slice q1 s1.bs.length c1) u s1.bs.length 1) (s1.bs.drop u) := hsb
        repeat' (first | refine W1 ?_ | (exfalso; omega) | refine WL_split rfl rfl (fun hg => ?_) (fun hg => ?_) | refine WL_splitB rfl rfl (fun hg => ?_) (fun hg => ?_) | refine WC_cond rfl (fun hc => ?_) (fun hc => ?_) | refine WC_condB rfl (fun hc => ?_) (fun hc => ?_))
        refine WL_pure (PR_convTo (b := ((most : Nat) : Int)) rfl (by rw [Int.max_eq_left (by omega)]; exact wrap_u64_of (by omega) (by omega))) rfl ?_
        repeat' (first | refine W1 ?_ | (exfalso; omega) | refine WL_split rfl rfl (fun hg => ?_) (fun hg => ?_) | refine WL_splitB rfl rfl (fun hg => ?_) (fun hg => ?_) | refine WC_cond rfl (fun hc => ?_) (fun hc => ?_) | refine WC_condB rfl (fun hc => ?_) (fun hc => ?_))
        refine WL_pure (PR_convTo (b := ((s1.bs.length : Nat) : Int)) rfl (wrap_u64_of (by omega) (by omega))) rfl ?_
        repeat' (first | refine W1 ?_ | (exfalso; omega) | refine WL_split rfl rfl (fun hg => ?_) (fun hg => ?_) | refine WL_splitB rfl rfl (fun hg => ?_) (fun hg => ?_) | refine WC_cond rfl (fun hc => ?_) (fun hc => ?_) | refine WC_condB rfl (fun hc => ?_) (fun hc => ?_))
        refine WC_drawn 12 ([b2]) [] [(0,0),(1,1),(2,0),(3,0),(4,0),(5,0),(6,1),(7,0),(8,0),(9,1),(10,2),(11,0)] rfl mixed (by kernel_rfl) (by kernel_rfl) (by kernel_rfl) (fun w1 hS1 => ?_)
        replace e1' := e1'.up hS1
        replace e2 := e2.up hS1
        replace hs4 := hs4.up hS1
        replace hsa := hsa.up hS1
        replace hsb := hsb.up hS1
        replace hS := hS.trans hS1
        clear hS1
        refine D ?_
        refine WD_free rfl trivial (fun w' => PR_slice_lK (l := u) rfl hs4 rfl (by omega)) rfl ?_
        refine WF_build rfl trivial (vs := [(0, .slice _ _ _)]) rfl (buildRf _ _ _) rfl ?_
        refine D ?_
        refine WD_free rfl trivial (fun w' => PR_slice_hK (r := u) rfl hs4 rfl (by omega)) rfl ?_
        refine WD_read rfl trivial (fun w' hS' => PR_convB rfl (hsa.ext (X' := []) hS' (fun d hd => by simp at hd; simp [hd]) (by simp))) rfl ?_
        refine WD_eff0 rfl trivial (OE_storeA (us := rfC (slc (.slice q1 s1.bs.length c1) u s1.bs.length 1) 0) rfl rfl rfl rfl (rfC_one hsb) e2 rfl) (fun _ _ h => h.1) ?_
        rintro _ w6 ⟨hT2, e4'⟩
        refine D ?_
        refine W ?_
        refine WQ_retct rfl rfl rfl e4' rfl rfl ?_
        exact done ⟨s1.bs.drop u, 0⟩ (s1.bs.take u) _ _ _ hS hT2 hsb
  · rw [if_neg he]
    repeat' (first | refine W1 ?_ | (exfalso; omega) | refine WL_split rfl rfl (fun hg => ?_) (fun hg => ?_) | refine WL_splitB rfl rfl (fun hg => ?_) (fun hg => ?_) | refine WC_cond rfl (fun hc => ?_) (fun hc => ?_) | refine WC_condB rfl (fun hc => ?_) (fun hc => ?_))
    refine WL_eff0 (OE_storeA (us := rfC (.slice q1 s1.bs.length c1) s1.e) rfl rfl rfl rfl (rfC_one hs4) e2 rfl) ?_
    rintro _ w5 ⟨hT, e4'⟩
    refine W ?_
    refine WQ_retct rfl rfl rfl e4' rfl rfl ?_
    exact done s1 [] _ _ _ hS hT hs4
end Go.Proofs.YtgpibcgebpgmiaaDoor


namespace Go.Proofs.YtgpibcgebpgmiaaDoor
open Go Go.Eng Go.RowKit
set_option linter.unusedVariables false
theorem intsS_eq (most : Nat) (s : Rs) : intsS most s = (if (uintS s).1.e = 0 then (if most < (uintS s).2 then (⟨(uintS s).1.bs, 2⟩, []) else (if (intsLp (uintS s).2 (uintS s).1 []).1.e = 0 then intsLp (uintS s).2 (uintS s).1 [] else ((intsLp (uintS s).2 (uintS s).1 []).1, []))) else ((uintS s).1, [])) := by
  unfold intsS lengthS
  by_cases h1 : (uintS s).1.e = 0
  · simp only [if_pos h1]
    by_cases h2 : most < (uintS s).2
    · simp only [if_pos h2, intsLp]
      rw [if_neg (by decide)]
    · simp only [if_neg h2]
  · simp only [if_neg h1, intsLp]
theorem ReadInts_any (X : List Nat) (v : Value) (s : Rs) (most : Nat) (w : World) (hm : most ≤ 1000000) (hr : RfV X w v s) (hX : ∀ c ∈ X, c < w.heap.size) :
    Calls Tryd.prog 50 #[v, .int .i64 (most : Int)] w (Ret fun r w' => ∃ lv, RfR (ob lv ++ X) w (intsS most s).1 lv r w' ∧ Row [] w' w.heap.size 3 lv (intsS most s).2) := by
  obtain ⟨bv, rfl, hs⟩ := hr
  obtain ⟨p, c, rfl, -⟩ := id hs
  have hlt := uintS_lt s
  refine calls_of_WC2 (n := 57) Tryd.func50 rfl rfl rfl ?_
  refine W ?_
  refine WL_eff (OE_box rfl) rfl ?_
  rintro _ w1 ⟨b1, rfl, hb1, e1, hS⟩
  replace e1 : Blk w1 b1 81 (rfC (.slice p s.bs.length c) s.e) := e1
  refine W ?_
  refine WL_eff OE_alloc rfl ?_
  rintro _ w2 ⟨b2, rfl, hb2, e2, hT⟩
  have n12 : b2 ≠ b1 := by have := e1.lt; omega
  have hz := hS.size
  replace e1 := e1.up hT
  replace hS := hS.trans hT
  clear hT
  have hs2 : SlV (b1 :: b2 :: X) w2 (.slice p s.bs.length c) s.bs := hs.ext hS (by simp) (fun d hd => by
    simp only [List.mem_cons] at hd
    rcases hd with rfl | rfl | hd
    · exact .inr hb1
    · exact .inr (by omega)
    · exact .inl hd)
  have hX2 : ∀ c ∈ b1 :: b2 :: X, c < w2.heap.size := fun d hd => by
    simp only [List.mem_cons] at hd
    rcases hd with rfl | rfl | hd
    · exact e1.lt
    · exact e2.lt
    · exact Nat.lt_of_lt_of_le (hX d hd) hS.size
  have hb1' : b1 < w2.heap.size := hX2 b1 (by simp)
  have hb2' : b2 < w2.heap.size := hX2 b2 (by simp)
  have hw2 := hS.size
  refine W ?_
  refine WL_eff (OE_call rfl (evs1 rfl) (ReadUint_any (b1 :: b2 :: X) _ s _ ⟨_, rfl, hs2⟩ hX2)) rfl ?_
  rintro _ w3 ⟨rv, rfl, ⟨bv1, rfl, hs3⟩, hT⟩
  rw [intsS_eq]
  generalize (uintS s).2 = u at *
  generalize (uintS s).1 = s1 at *
  refine W ?_
  refine WL_eff0 (OE_storeA (us := rfC bv1 s1.e) rfl rfl rfl rfl (rfC_one hs3) (e1.up hT) rfl) ?_
  rintro _ w4 ⟨hT2, e1'⟩
  have hX4 : ∀ c ∈ b1 :: b2 :: X, c < w4.heap.size := fun d hd => Nat.lt_of_lt_of_le (hX2 d hd) (Nat.le_trans hT.size hT2.size)
  have hw4 : w2.heap.size ≤ w4.heap.size := Nat.le_trans hT.size hT2.size
  have hs4 := hs3.ext hT2 (X' := b1 :: b2 :: X) (fun d hd => by simp at hd; simp [hd]) (fun d hd => .inl hd)
  replace e2 := (e2.up hT).ext hT2 (by simp; exact n12)
  replace hS := (hS.trans hT).own hT2 (fun d hd => by simp at hd; subst hd; exact .inr hb1)
  clear hT hT2 e1 hs2 hs3
  obtain ⟨q1, c1, rfl, -⟩ := id hs4
  have done : ∀ (r2 : Rs) (bv' : Value) (w' w3 : World), Stp [] w w3 → Stp [b2] w3 w' → SlV (b1 :: b2 :: X) w3 bv' r2.bs → (Ret fun r w' => ∃ lv, RfR (ob lv ++ X) w r2 lv r w' ∧ Row ([] : List Nat) w' w.heap.size 3 lv ([] : List Int)) (.returned (.tuple #[.agg (rfC bv' r2.e).toArray, .slice none 0 0])) w' := fun r2 bv' w' w3 h3 h4 h6 => by
    have hS' := h3.own h4 (fun d hd => by simp at hd; subst hd; exact .inr (by omega))
    exact .mk ⟨.slice none 0 0, ⟨_, rfl, ⟨bv', rfl, h6.ext h4 (fun d hd => by simp at hd; simp [hd]) (fun d hd => .inl (by
      have hd' : d ∈ X := by simpa [ob] using hd
      simp [hd']))⟩, hS'⟩, Row.nil⟩
  by_cases he : s1.e = 0
  · rw [if_pos he]
    have hrf : RfV (b1 :: b2 :: X) w4 (.agg #[.slice q1 s1.bs.length c1, .int .i64 s1.e]) s1 := ⟨_, rfl, hs4⟩
    by_cases hmu : most < u
    · rw [if_pos hmu]
      repeat' (first | refine W1 ?_ | (exfalso; omega) | refine WL_split rfl rfl (fun hg => ?_) (fun hg => ?_) | refine WL_splitB rfl rfl (fun hg => ?_) (fun hg => ?_) | refine WC_cond rfl (fun hc => ?_) (fun hc => ?_) | refine WC_condB rfl (fun hc => ?_) (fun hc => ?_))
      refine WL_pure (PR_convTo (b := ((most : Nat) : Int)) rfl (by rw [Int.max_eq_left (by omega)]; exact wrap_u64_of (by omega) (by omega))) rfl ?_
      repeat' (first | refine W1 ?_ | (exfalso; omega) | refine WL_split rfl rfl (fun hg => ?_) (fun hg => ?_) | refine WL_splitB rfl rfl (fun hg => ?_) (fun hg => ?_) | refine WC_cond rfl (fun hc => ?_) (fun hc => ?_) | refine WC_condB rfl (fun hc => ?_) (fun hc => ?_))
      refine WL_eff (OE_call rfl (evs2 rfl rfl) (FailR_any (b1 :: b2 :: X) _ s1 2 _ hrf hX4)) rfl ?_
      rintro _ w5 ⟨⟨fv, rfl, hfs⟩, hT⟩
      rw [if_pos he] at hfs
      replace e2 := e2.up hT
      replace hS := hS.trans hT
      refine WL_eff0 (OE_storeA (us := rfC fv (if s1.e = 0 then ((2 : Nat) : Int) else s1.e)) rfl rfl rfl rfl (rfC_one hfs) e2 rfl) ?_
      rintro _ w6 ⟨hT2, e4'⟩
      rw [if_pos he] at e4'
      refine W ?_
      refine WQ_retct rfl rfl rfl e4' rfl rfl ?_
      exact done ⟨s1.bs, 2⟩ fv _ _ hS hT2 hfs
    · rw [if_neg hmu]
      repeat' (first | refine W1 ?_ | (exfalso; omega) | refine WL_split rfl rfl (fun hg => ?_) (fun hg => ?_) | refine WL_splitB rfl rfl (fun hg => ?_) (fun hg => ?_) | refine WC_cond rfl (fun hc => ?_) (fun hc => ?_) | refine WC_condB rfl (fun hc => ?_) (fun hc => ?_))
      refine WL_pure (PR_convTo (b := ((most : Nat) : Int)) rfl (by rw [Int.max_eq_left (by omega)]; exact wrap_u64_of (by omega) (by omega))) rfl ?_
      repeat' (first | refine W1 ?_ | (exfalso; omega) | refine WL_split rfl rfl (fun hg => ?_) (fun hg => ?_) | refine WL_splitB rfl rfl (fun hg => ?_) (fun hg => ?_) | refine WC_cond rfl (fun hc => ?_) (fun hc => ?_) | refine WC_condB rfl (fun hc => ?_) (fun hc => ?_))
      refine WC_loop (σ := Nat × Rs × List Int × Value × Value) (fun q => [(2, .pointer (some ⟨b1, 0, none⟩)), (4, .pointer (some ⟨b2, 0, none⟩)), (6, .int .u64 (u : Int)), (7, q.2.2.2.1), (8, .int .u64 (q.1 : Int))])
        (fun q w' => q.1 ≤ u ∧ q.2.2.1.length = q.1 ∧ Row [] w' w2.heap.size 3 q.2.2.2.1 q.2.2.1 ∧ Blk w' b1 81 (rfC q.2.2.2.2 q.2.1.e) ∧ (∃ cs, cs.length = 2 ∧ Blk w' b2 81 cs) ∧ SlV (ob q.2.2.2.1 ++ b1 :: b2 :: X) w' q.2.2.2.2 q.2.1.bs ∧ Stp [] w w' ∧ w2.heap.size ≤ w'.heap.size ∧ intsLp u s1 [] = intsLp (u - q.1) q.2.1 q.2.2.1)
        (fun q => u - q.1) (0, s1, [], .slice none 0 0, .slice q1 s1.bs.length c1) ⟨rfl, rfl, rfl, rfl, rfl, trivial⟩ ⟨by omega, rfl, Row.nil, e1', ⟨_, rfl, e2⟩, hs4, hS, hw4, rfl⟩ ?_
      clear hS e2 e1' hs4 hrf hX4 hw4
      rintro ⟨j, s2, out, ov, bv2⟩ w5 ⟨hj, hol, hrow, e1, ⟨cs2, hcs, e2⟩, hs5, hS, hw5, heq⟩
      dsimp only at hj hol hrow e1 hs5 heq ⊢
      have fin : (j = u ∨ s2.e ≠ 0) → intsLp u s1 [] = (s2, out) := fun hz => by
        rw [heq]
        rcases hz with h | h
        · rw [h, Nat.sub_self]; rfl
        · exact intsLp_bad h _ _
      have hlo : ∀ d ∈ ob ov, w2.heap.size ≤ d ∧ d < w5.heap.size := hrow.ob_le
      by_cases he2 : s2.e = 0
      · by_cases hju : j = u
        · rw [fin (.inl hju)]
          dsimp only
          rw [if_pos he2]
          repeat' (first | refine W1 ?_ | (exfalso; omega) | refine WL_split rfl rfl (fun hg => ?_) (fun hg => ?_) | refine WL_splitB rfl rfl (fun hg => ?_) (fun hg => ?_) | refine WC_cond rfl (fun hc => ?_) (fun hc => ?_) | refine WC_condB rfl (fun hc => ?_) (fun hc => ?_))
          refine WL_eff0 (OE_storeA (us := rfC bv2 s2.e) rfl rfl rfl rfl (rfC_one hs5) e2 hcs.symm) ?_
          rintro _ w6 ⟨hT, e4'⟩
          refine W ?_
          refine WQ_retct rfl rfl rfl e4' rfl rfl ?_
          have hS' := hS.own hT (fun d hd => by simp at hd; subst hd; exact .inr (by omega))
          have hrow6 : Row [b2] w6 w2.heap.size 3 ov out := (hrow.anyX' (X' := [b2])).ext hT (fun d hd => by
            simp at hd
            subst hd
            exact ⟨by simp, fun h => by have := hlo _ h; omega⟩) (fun d hd => .inl hd)
          exact .mk ⟨ov, ⟨_, rfl, ⟨bv2, rfl, hs5.ext hT (fun d hd => by simp at hd; simp [hd]) (fun d hd => .inl (by
            rcases List.mem_append.1 hd with h | h
            · exact List.mem_append_left _ h
            · simp [h]))⟩, hS'⟩, (hrow6.anyX').lower hw2⟩
        · have hjlt : j < u := by omega
          rw [show u - j = (u - (j + 1)) + 1 by omega, intsLp, if_pos he2] at heq
          have hXX : ∀ d ∈ ob ov ++ b1 :: b2 :: X, d < w5.heap.size := fun d hd => by
            rcases List.mem_append.1 hd with h | h
            · exact (hlo d h).2
            · exact Nat.lt_of_lt_of_le (hX2 d h) hw5
          repeat' (first | refine W1 ?_ | (exfalso; omega) | refine WL_split rfl rfl (fun hg => ?_) (fun hg => ?_) | refine WL_splitB rfl rfl (fun hg => ?_) (fun hg => ?_) | refine WC_cond rfl (fun hc => ?_) (fun hc => ?_) | refine WC_condB rfl (fun hc => ?_) (fun hc => ?_))
          refine WL_eff (OE_call rfl (evs1 rfl) (ReadInt_any (ob ov ++ b1 :: b2 :: X) _ s2 _ ⟨_, rfl, hs5⟩ hXX)) rfl ?_
          rintro _ w6 ⟨rv, rfl, ⟨bv3, rfl, hs6⟩, hT⟩
          replace e1 := e1.up hT
          replace e2 := e2.up hT
          replace hrow := hrow.up hT
          replace hS := hS.trans hT
          have hz6 := hT.size
          clear hT hs5
          generalize (intS s2).1 = s3 at *
          generalize (intS s2).2 = z at *
          refine W ?_
          refine WL_eff OE_alloc rfl ?_
          rintro _ w7 ⟨b9, rfl, hb9, e9, hT7⟩
          refine WL_eff0 (OE_storeA (us := rfC bv3 s3.e) rfl rfl rfl rfl (rfC_one hs6) e9 rfl) ?_
          rintro _ w8 ⟨hT8, e9'⟩
          have hT78 := hT7.own hT8 (fun d hd => by simp at hd; subst hd; exact .inr hb9)
          replace e1 := e1.up hT78
          replace e2 := e2.up hT78
          replace hrow := hrow.up hT78
          replace hs6 := hs6.up hT78
          replace hS := hS.trans hT78
          have hz8 := hT78.size
          clear hT7 hT8 e9 hT78
          refine W ?_
          refine WL_eff0 (OE_storeA (us := rfC bv3 s3.e) rfl rfl rfl rfl (rfC_one hs6) e1 rfl) ?_
          rintro _ w9 ⟨hT9, e1'⟩
          have hs9 := hs6.ext (X' := ob ov ++ b1 :: b2 :: X) hT9 (fun d hd => by simp at hd; simp [hd]) (fun d hd => .inl hd)
          have e2' := e2.ext hT9 (by simp; exact n12)
          have hrow9 : Row [b1] w9 w2.heap.size 3 ov out := (hrow.anyX' (X' := [b1])).ext hT9 (fun d hd => by
            simp at hd
            subst hd
            exact ⟨by simp, fun h => by have := hlo _ h; omega⟩) (fun d hd => .inl hd)
          have hS9 := hS.own hT9 (fun d hd => by simp at hd; subst hd; exact .inr (by omega))
          have hz9 := hT9.size
          clear e1 e2 hrow hs6 hT9 hS
          refine W ?_
          refine WL_eff (OE_buildSlice (vs := [(0, .int .i64 z)]) rfl (buildSI1r _)) rfl ?_
          rintro bn w10 hN
          have hbn : SlV (ob ov ++ []) w10 bn [z] := hN.slv (fun d hd => by
            rw [List.append_nil] at hd
            have := (hrow9.ob_le d hd).2
            exact this) rfl rfl (by simp [maxLen])
          have hT10 := NewSl.stp hN
          have hz10 := hT10.size
          have hrow10 : Row [] w10 w2.heap.size 3 ov out := (hrow9.anyX').up hT10
          refine WL_eff (OE_append (X := []) (base := w2.heap.size) rfl (by decide) rfl rfl hrow10 hbn (by simp only [List.length_cons, List.length_nil]; omega) (by simp only [List.length_cons, List.length_nil, maxLen]; omega) (by omega)) rfl ?_
          rintro ov' w11 ⟨hrow11, hT11, hob⟩
          have hb1o : b1 ∉ ob ov := fun h => by have := hlo _ h; omega
          have hb2o : b2 ∉ ob ov := fun h => by have := hlo _ h; omega
          have hz11 := hT11.size
          refine W ?_
          refine WL_pure (PR_addK (r := ((j + 1 : Nat) : Int)) rfl rfl (by rw [wrap_u64_of (by omega) (by omega)]; omega)) rfl ?_
          refine W ?_
          exact WQ_loop (j + 1, s3, out ++ [z], ov', bv3) ⟨rfl, rfl, rfl, rfl, rfl, trivial⟩ ⟨by dsimp only; omega, by simp only [List.length_append, List.length_cons, List.length_nil]; omega, hrow11, (e1'.up hT10).ext hT11 hb1o, ⟨cs2, hcs, (e2'.up hT10).ext hT11 hb2o⟩,
            (hs9.up hT10).ext hT11 (fun d hd => List.mem_append_left _ hd) (fun d hd => by
              rcases List.mem_append.1 hd with h | h
              · exact (hob d h).imp (fun h => List.mem_append_left _ h) id
              · exact .inl (List.mem_append_right _ h)),
            (hS9.trans hT10).own hT11 (fun d hd => .inr (by have := (hlo d hd).1; omega)), by omega, heq⟩ (by dsimp only; omega)
      · rw [fin (.inr he2)]
        dsimp only
        rw [if_neg he2]
        repeat' (first | refine W1 ?_ | (exfalso; omega) | refine WL_split rfl rfl (fun hg => ?_) (fun hg => ?_) | refine WL_splitB rfl rfl (fun hg => ?_) (fun hg => ?_) | refine WC_cond rfl (fun hc => ?_) (fun hc => ?_) | refine WC_condB rfl (fun hc => ?_) (fun hc => ?_))
        all_goals
          refine WL_eff0 (OE_storeA (us := rfC bv2 s2.e) rfl rfl rfl rfl (rfC_one hs5) e2 hcs.symm) ?_
          rintro _ w6 ⟨hT, e4'⟩
          refine W ?_
          refine WQ_retct rfl rfl rfl e4' rfl rfl ?_
          exact done s2 bv2 _ _ hS hT (hs5.wk (fun d hd => List.mem_append_right _ hd))
  · rw [if_neg he]
    repeat' (first | refine W1 ?_ | (exfalso; omega) | refine WL_split rfl rfl (fun hg => ?_) (fun hg => ?_) | refine WL_splitB rfl rfl (fun hg => ?_) (fun hg => ?_) | refine WC_cond rfl (fun hc => ?_) (fun hc => ?_) | refine WC_condB rfl (fun hc => ?_) (fun hc => ?_))
    refine WL_eff0 (OE_storeA (us := rfC (.slice q1 s1.bs.length c1) s1.e) rfl rfl rfl rfl (rfC_one hs4) e2 rfl) ?_
    rintro _ w5 ⟨hT, e4'⟩
    refine W ?_
    refine WQ_retct rfl rfl rfl e4' rfl rfl ?_
    exact done s1 _ _ _ hS hT hs4
end Go.Proofs.YtgpibcgebpgmiaaDoor


namespace Go.Proofs.YtgpibcgebpgmiaaDoor
open Go Go.Eng Go.RowKit
set_option linter.unusedVariables false
theorem pairF_at {l : List Int} {i : Nat} (h : i + 1 < l.length) : pairF (l.drop i) = ⟨l[i], l[i + 1]⟩ :: pairF (l.drop (i + 2)) := by
  rw [List.drop_eq_getElem_cons (by omega), List.drop_eq_getElem_cons h, pairF]
theorem pairF_end {l : List Int} {i : Nat} (h : ¬ i + 1 < l.length) : pairF (l.drop i) = [] := by
  have hl : (l.drop i).length ≤ 1 := by rw [List.length_drop]; omega
  match hd : l.drop i, hl with
  | [], _ => rfl
  | [_], _ => rfl
  | _ :: _ :: _, hl => simp at hl
theorem pairedR_any (v : Value) (l : List Int) (w : World) (hl : l.length ≤ 1000000) (hs : SlV [] w v l) :
    Calls Tryd.prog 52 #[v] w (Ret fun r w' => Row [] w' w.heap.size 59 r (pairF l) ∧ Stp [] w w') := by
  refine calls_of_WC1 (n := 26) Tryd.func52 rfl rfl rfl ?_
  refine W ?_
  refine WC_loop (σ := Nat × List Ins × Value) (fun q => [(0, v), (3, q.2.2), (4, .int .i64 ((2 * q.1 : Nat) : Int))]) (fun q w' => 2 * q.1 ≤ l.length ∧ q.2.1.length = q.1 ∧ pairF l = q.2.1 ++ pairF (l.drop (2 * q.1)) ∧ Row [] w' w.heap.size 59 q.2.2 q.2.1 ∧ SlV (ob q.2.2) w' v l ∧ Stp [] w w') (fun q => l.length - 2 * q.1) (0, [], .slice none 0 0) ⟨rfl, rfl, rfl, trivial⟩
    ⟨by simp, rfl, by simp, Row.nil, hs.wk (by simp [ob]), Stp.refl _ _⟩ ?_
  rintro ⟨k, out, ov⟩ w1 ⟨hk, hol, heq, hrow, hsl, hS⟩
  dsimp only at hk hol heq hrow hsl ⊢
  have hmax := hsl.max
  by_cases hlt : 2 * k + 1 < l.length
  · rw [pairF_at hlt] at heq
    repeat' (first | refine W1 ?_ | (exfalso; omega) | refine WL_split rfl rfl (fun hg => ?_) (fun hg => ?_) | refine WL_splitB rfl rfl (fun hg => ?_) (fun hg => ?_) | refine WC_cond rfl (fun hc => ?_) (fun hc => ?_) | refine WC_condB rfl (fun hc => ?_) (fun hc => ?_))
    refine WC_drawn 14 (ob ov) [] [(0, 0), (1, 0), (2, 0), (3, 0), (4, 1), (5, 0), (6, 0), (7, 0), (8, 0), (9, 1), (10, 0), (11, 2), (12, 2), (13, 0)] rfl mixed (by kernel_rfl) (by kernel_rfl) (by kernel_rfl) (fun w1 hS1 => ?_)
    replace hrow := hrow.up hS1
    replace hsl := hsl.up hS1
    replace hS := hS.trans hS1
    clear hS1
    refine D ?_
    refine WF_build rfl trivial (vs := [(0, .int .i64 l[2 * k]), (1, .int .i64 l[2 * k + 1])]) rfl (buildI _ _) rfl ?_
    refine WD_eff rfl trivial (OE_buildSlice (vs := [(0, agg (Ins.mk l[2 * k] l[2 * k + 1]))]) rfl (buildSI _)) (fun _ _ h => (NewSl.stp h).mono (by simp)) rfl ?_
    rintro bn w2 hN
    have hbn : SlV (ob ov ++ []) w2 bn [Ins.mk l[2 * k] l[2 * k + 1]] := hN.slv (fun d hd => (hrow.ob_le d (by simpa using hd)).2) rfl rfl (by simp [maxLen])
    have hT := NewSl.stp hN
    have hz := hS.size
    have hz1 := hT.size
    have hrow2 := hrow.up hT
    refine WD_eff rfl trivial (OE_append (X := []) (base := w.heap.size) rfl (by decide) rfl rfl hrow2 hbn (by simp only [List.length_cons, List.length_nil]; omega) (by simp only [List.length_cons, List.length_nil, maxLen]; omega) (by omega)) (fun _ _ h => h.2.1) rfl ?_
    rintro ov' w3 ⟨hrow3, hT3, hob⟩
    refine D ?_
    refine W ?_
    exact WQ_loop (k + 1, out ++ [Ins.mk l[2 * k] l[2 * k + 1]], ov') ⟨rfl, rfl, by show some _ = some _; congr 2, trivial⟩ ⟨by dsimp only; omega, by simp only [List.length_append, List.length_cons, List.length_nil]; omega, by rw [heq, List.append_assoc]; rfl, hrow3, (hsl.up hT).ext hT3 (fun d hd => hd) (fun d hd => hob d hd), (hS.trans hT).own hT3 (fun d hd => .inr (hrow2.ob_le d hd).1)⟩ (by dsimp only; omega)
  · rw [pairF_end hlt, List.append_nil] at heq
    repeat' (first | refine W1 ?_ | (exfalso; omega) | refine WL_split rfl rfl (fun hg => ?_) (fun hg => ?_) | refine WL_splitB rfl rfl (fun hg => ?_) (fun hg => ?_) | refine WC_cond rfl (fun hc => ?_) (fun hc => ?_) | refine WC_condB rfl (fun hc => ?_) (fun hc => ?_))
    first | refine WQ_ret1 rfl rfl ?_ | refine WQ_ret2 rfl rfl rfl ?_ | refine WQ_ret3 rfl rfl rfl rfl ?_ | refine WQ_ret0 rfl ?_ | refine WQ_end0 rfl ?_
    rw [heq]
    exact .mk ⟨hrow, hS⟩
end Go.Proofs.YtgpibcgebpgmiaaDoor


namespace Go.Proofs.YtgpibcgebpgmiaaDoor
open Go Go.Eng Go.RowKit
set_option linter.unusedVariables false
/-- what both 'Decode' give -/
def DecR (w : World) (bs : Bs) (v : Value) (w' : World) : Prop := ∃ cv, v = .tuple #[cv, .int .i64 (decE bs)] ∧ (∀ X : List Nat, (∀ b ∈ X, b < w.heap.size) → CrV X w' cv (decF bs)) ∧ Stp [] w w'
theorem intsS_len (most : Nat) (s : Rs) : (intsS most s).2.length ≤ most := by
  by_cases h : (intsS most s).1.e = 0
  · exact (intsS_dec h).2.2.1
  · unfold intsS at h ⊢
    split
    · rename_i h1
      rw [if_pos h1] at h
      exact absurd h1 h
    · simp
theorem DecodeR_any (v : Value) (bs : Bs) (w : World) (hs0 : SlV [] w v bs) :
    Calls Tryd.prog 17 #[v] w (Ret (DecR w bs)) := by
  obtain ⟨p, c, rfl, -⟩ := id hs0
  refine calls_of_WC1 (n := 83) Tryd.func17 rfl rfl rfl ?_
  refine W ?_
  refine WL_eff OE_alloc rfl ?_
  rintro _ w1 ⟨b2, rfl, hb2, e2, hS⟩
  refine W ?_
  refine WL_build (vs := [(0, .slice p bs.length c)]) rfl (buildRf _ _ _) rfl ?_
  refine W ?_
  refine WL_eff OE_alloc rfl ?_
  rintro _ w2 ⟨b4, rfl, hb4, e4, hT⟩
  have n24 : b2 ≠ b4 := by have := e2.lt; omega
  have hsz := hS.size
  replace e2 := e2.up hT
  replace hS := hS.trans hT
  have hs : SlV [b4] w2 (.slice p bs.length c) bs := hs0.ext hS (by simp) (fun d hd => by simp at hd; subst hd; exact .inr (by omega))
  refine WL_eff0 (OE_storeA (us := rfC (.slice p bs.length c) 0) rfl rfl rfl rfl (rfC_one hs) e4 rfl) ?_
  rintro _ w3 ⟨hT2, e4'⟩
  replace hs := hs.ext (X' := [b4]) hT2 (fun d hd => hd) (fun d hd => .inl hd)
  replace e2 := e2.ext hT2 (by simp; exact n24)
  replace hS := hS.own hT2 (fun d hd => by simp at hd; subst hd; exact .inr (by omega))
  have hbe : bs = (⟨bs, 0⟩ : Rs).bs := rfl
  have hee : (0 : Int) = (⟨bs, 0⟩ : Rs).e := rfl
  rw [hee] at e4'
  replace hs : SlV [b4] w3 (.slice p bs.length c) (⟨bs, 0⟩ : Rs).bs := hs
  have hd0 : (⟨bs, 0⟩ : Rs) = ⟨bs, 0⟩ := rfl
  obtain ⟨s0, hr0⟩ : ∃ s : Rs, s = ⟨bs, 0⟩ := ⟨_, rfl⟩
  rw [← hr0] at e4' hs
  clear hT hT2 e4 hbe hee hd0
  have hbv : w.heap.size ≤ b4 := by omega
  have hbv2 : w.heap.size ≤ b2 := by omega
  refine W ?_
  refine WL_eff (OE_call rfl (evs2 rfl rfl) (ReadText_any [b4] _ s0 12 _ (by decide) ⟨_, rfl, hs⟩ (by simp; exact e4'.lt))) rfl ?_
  rintro _ w4 ⟨rv, rfl, ⟨bv1, rfl, hs⟩, hT⟩
  generalize h1 : textS 12 s0 = p1 at *
  refine W ?_
  refine WL_eff0 (OE_storeA (us := rfC bv1 p1.1.e) rfl rfl rfl rfl (rfC_one hs) (e4'.up hT) rfl) ?_
  rintro _ w5 ⟨hT2, e4q⟩
  replace hs := hs.ext (X' := [b4]) hT2 (fun d hd => hd) (fun d hd => .inl hd)
  replace e2 := (e2.up hT).ext hT2 (by simp; exact n24)
  replace hS := (hS.trans hT).own hT2 (fun d hd => by simp at hd; subst hd; exact .inr hbv)
  clear hT hT2 e4'
  have e4' := e4q
  clear e4q
  refine W ?_
  refine WL_eff (OE_call rfl (evs1 rfl) (ReadInt_any [b4] _ p1.1 _ ⟨_, rfl, hs⟩ (by simp; exact e4'.lt))) rfl ?_
  rintro _ w4 ⟨rv, rfl, ⟨bv2, rfl, hs⟩, hT⟩
  generalize h2 : intS p1.1 = p2 at *
  refine W ?_
  refine WL_eff0 (OE_storeA (us := rfC bv2 p2.1.e) rfl rfl rfl rfl (rfC_one hs) (e4'.up hT) rfl) ?_
  rintro _ w5 ⟨hT2, e4q⟩
  replace hs := hs.ext (X' := [b4]) hT2 (fun d hd => hd) (fun d hd => .inl hd)
  replace e2 := (e2.up hT).ext hT2 (by simp; exact n24)
  replace hS := (hS.trans hT).own hT2 (fun d hd => by simp at hd; subst hd; exact .inr hbv)
  clear hT hT2 e4'
  have e4' := e4q
  clear e4q
  refine W ?_
  refine WL_eff (OE_call rfl (evs2 rfl rfl) (ReadText_any [b4] _ p2.1 12 _ (by decide) ⟨_, rfl, hs⟩ (by simp; exact e4'.lt))) rfl ?_
  rintro _ w4 ⟨rv, rfl, ⟨bv3, rfl, hs⟩, hT⟩
  generalize h3 : textS 12 p2.1 = p3 at *
  refine W ?_
  refine WL_eff0 (OE_storeA (us := rfC bv3 p3.1.e) rfl rfl rfl rfl (rfC_one hs) (e4'.up hT) rfl) ?_
  rintro _ w5 ⟨hT2, e4q⟩
  replace hs := hs.ext (X' := [b4]) hT2 (fun d hd => hd) (fun d hd => .inl hd)
  replace e2 := (e2.up hT).ext hT2 (by simp; exact n24)
  replace hS := (hS.trans hT).own hT2 (fun d hd => by simp at hd; subst hd; exact .inr hbv)
  clear hT hT2 e4'
  have e4' := e4q
  clear e4q
  refine W ?_
  have hz3 := hS.size
  have h4lt3 := e4'.lt
  refine WL_eff (OE_call rfl (evs2 rfl rfl) (ReadInts_any [b4] _ p3.1 400 _ (by decide) ⟨_, rfl, hs⟩ (by simp; exact e4'.lt))) rfl ?_
  rintro _ w4 ⟨lv4, ⟨rv, rfl, ⟨bv4, rfl, hs⟩, hT⟩, hrow4⟩
  replace hs := hs.wk (X' := [b4]) (fun d hd => by simp at hd; simp [hd])
  have hlen4 := intsS_len 400 p3.1
  have hob4_ : ∀ d ∈ ob lv4, b4 < d := fun d hd => by have := (hrow4.ob_le d hd).1; omega
  generalize h4 : intsS 400 p3.1 = p4 at *
  refine W ?_
  refine WL_eff0 (OE_storeA (us := rfC bv4 p4.1.e) rfl rfl rfl rfl (rfC_one hs) (e4'.up hT) rfl) ?_
  rintro _ w5 ⟨hT2, e4q⟩
  replace hs := hs.ext (X' := [b4]) hT2 (fun d hd => hd) (fun d hd => .inl hd)
  replace e2 := (e2.up hT).ext hT2 (by simp; exact n24)
  replace hrow4 := (Row.anyX' (X' := [b4]) hrow4).ext hT2 (fun d hd => ⟨hd, fun h => by simp at hd; subst hd; have := (hrow4.ob_le _ h).1; omega⟩) (fun d hd => .inl hd)
  replace hrow4 : Row [] w5 w.heap.size 3 lv4 p4.2 := (Row.anyX' hrow4).lower hz3
  have hob4 : b4 ∉ ob lv4 := fun h => by have := hob4_ b4 h; omega
  replace hS := (hS.trans hT).own hT2 (fun d hd => by simp at hd; subst hd; exact .inr hbv)
  clear hT hT2 e4'
  have e4' := e4q
  clear e4q
  refine W ?_
  have hz4 := hS.size
  have h4lt4 := e4'.lt
  refine WL_eff (OE_call rfl (evs2 rfl rfl) (ReadInts_any [b4] _ p4.1 400 _ (by decide) ⟨_, rfl, hs⟩ (by simp; exact e4'.lt))) rfl ?_
  rintro _ w4 ⟨lv5, ⟨rv, rfl, ⟨bv5, rfl, hs⟩, hT⟩, hrow5⟩
  replace hs := hs.wk (X' := [b4]) (fun d hd => by simp at hd; simp [hd])
  have hlen5 := intsS_len 400 p4.1
  have hob5_ : ∀ d ∈ ob lv5, b4 < d := fun d hd => by have := (hrow5.ob_le d hd).1; omega
  generalize h5 : intsS 400 p4.1 = p5 at *
  refine W ?_
  refine WL_eff0 (OE_storeA (us := rfC bv5 p5.1.e) rfl rfl rfl rfl (rfC_one hs) (e4'.up hT) rfl) ?_
  rintro _ w5 ⟨hT2, e4q⟩
  replace hs := hs.ext (X' := [b4]) hT2 (fun d hd => hd) (fun d hd => .inl hd)
  replace e2 := (e2.up hT).ext hT2 (by simp; exact n24)
  replace hrow5 := (Row.anyX' (X' := [b4]) hrow5).ext hT2 (fun d hd => ⟨hd, fun h => by simp at hd; subst hd; have := (hrow5.ob_le _ h).1; omega⟩) (fun d hd => .inl hd)
  replace hrow5 : Row [] w5 w.heap.size 3 lv5 p5.2 := (Row.anyX' hrow5).lower hz4
  have hob5 : b4 ∉ ob lv5 := fun h => by have := hob5_ b4 h; omega
  replace hrow4 : Row [] w5 w.heap.size 3 lv4 p4.2 := Row.anyX' ((Row.anyX' (X' := [b4]) (hrow4.up hT)).ext (X' := [b4]) hT2 (fun d hd => ⟨hd, fun h => by simp at hd; subst hd; exact hob4 h⟩) (fun d hd => .inl hd))
  replace hS := (hS.trans hT).own hT2 (fun d hd => by simp at hd; subst hd; exact .inr hbv)
  clear hT hT2 e4'
  have e4' := e4q
  clear e4q
  refine W ?_
  refine WL_eff (OE_call rfl (evs2 rfl rfl) (ReadText_any [b4] _ p5.1 12 _ (by decide) ⟨_, rfl, hs⟩ (by simp; exact e4'.lt))) rfl ?_
  rintro _ w4 ⟨rv, rfl, ⟨bv6, rfl, hs⟩, hT⟩
  generalize h6 : textS 12 p5.1 = p6 at *
  refine W ?_
  refine WL_eff0 (OE_storeA (us := rfC bv6 p6.1.e) rfl rfl rfl rfl (rfC_one hs) (e4'.up hT) rfl) ?_
  rintro _ w5 ⟨hT2, e4q⟩
  replace hs := hs.ext (X' := [b4]) hT2 (fun d hd => hd) (fun d hd => .inl hd)
  replace e2 := (e2.up hT).ext hT2 (by simp; exact n24)
  replace hrow4 : Row [] w5 w.heap.size 3 lv4 p4.2 := Row.anyX' ((Row.anyX' (X' := [b4]) (hrow4.up hT)).ext (X' := [b4]) hT2 (fun d hd => ⟨hd, fun h => by simp at hd; subst hd; exact hob4 h⟩) (fun d hd => .inl hd))
  replace hrow5 : Row [] w5 w.heap.size 3 lv5 p5.2 := Row.anyX' ((Row.anyX' (X' := [b4]) (hrow5.up hT)).ext (X' := [b4]) hT2 (fun d hd => ⟨hd, fun h => by simp at hd; subst hd; exact hob5 h⟩) (fun d hd => .inl hd))
  replace hS := (hS.trans hT).own hT2 (fun d hd => by simp at hd; subst hd; exact .inr hbv)
  clear hT hT2 e4'
  have e4' := e4q
  clear e4q
  refine W ?_
  refine WL_eff (OE_call rfl (evs2 rfl rfl) (ReadText_any [b4] _ p6.1 12 _ (by decide) ⟨_, rfl, hs⟩ (by simp; exact e4'.lt))) rfl ?_
  rintro _ w4 ⟨rv, rfl, ⟨bv7, rfl, hs⟩, hT⟩
  generalize h7 : textS 12 p6.1 = p7 at *
  refine W ?_
  refine WL_eff0 (OE_storeA (us := rfC bv7 p7.1.e) rfl rfl rfl rfl (rfC_one hs) (e4'.up hT) rfl) ?_
  rintro _ w5 ⟨hT2, e4q⟩
  replace hs := hs.ext (X' := [b4]) hT2 (fun d hd => hd) (fun d hd => .inl hd)
  replace e2 := (e2.up hT).ext hT2 (by simp; exact n24)
  replace hrow4 : Row [] w5 w.heap.size 3 lv4 p4.2 := Row.anyX' ((Row.anyX' (X' := [b4]) (hrow4.up hT)).ext (X' := [b4]) hT2 (fun d hd => ⟨hd, fun h => by simp at hd; subst hd; exact hob4 h⟩) (fun d hd => .inl hd))
  replace hrow5 : Row [] w5 w.heap.size 3 lv5 p5.2 := Row.anyX' ((Row.anyX' (X' := [b4]) (hrow5.up hT)).ext (X' := [b4]) hT2 (fun d hd => ⟨hd, fun h => by simp at hd; subst hd; exact hob5 h⟩) (fun d hd => .inl hd))
  replace hS := (hS.trans hT).own hT2 (fun d hd => by simp at hd; subst hd; exact .inr hbv)
  clear hT hT2 e4'
  have e4' := e4q
  clear e4q
  refine W ?_
  refine WL_eff (OE_call rfl (evs1 rfl) (EndR_any [b4] _ p7.1 _ ⟨_, rfl, hs⟩)) rfl ?_
  rintro _ w6 ⟨rfl, hT⟩
  replace e2 := e2.up hT
  replace hrow4 := hrow4.up hT
  replace hrow5 := hrow5.up hT
  replace hS := hS.trans hT
  clear hT hs e4'
  have d1 : dS1 bs = p1 := by unfold dS1; rw [← hr0]; exact h1
  have d2 : dS2 bs = p2 := by unfold dS2; rw [d1]; exact h2
  have d3 : dS3 bs = p3 := by unfold dS3; rw [d2]; exact h3
  have d4 : dS4 bs = p4 := by unfold dS4; rw [d3]; exact h4
  have d5 : dS5 bs = p5 := by unfold dS5; rw [d4]; exact h5
  have d6 : dS6 bs = p6 := by unfold dS6; rw [d5]; exact h6
  have d7 : dS7 bs = p7 := by unfold dS7; rw [d6]; exact h7
  have hE : decE bs = (if endS p7.1 = 0 then (if p4.2.length % 2 = 1 ∨ p5.2.length % 2 = 1 then 7 else if chkC (decQ bs) = 0 then 0 else 22) else endS p7.1) := by unfold decE; rw [d4, d5, d7]
  have hQ : decQ bs = ⟨p1.2, p2.2, p3.2, pairF p4.2, pairF p5.2, p6.2, p7.2⟩ := by unfold decQ; rw [d1, d2, d3, d4, d5, d6, d7]
  clear d1 d2 d3 d4 d5 d6 d7 h1 h2 h3 h4 h5 h6 h7
  generalize endS p7.1 = e7 at *
  have bad : ∀ (e : Int) (w' w3 : World), e ≠ 0 → decE bs = e → Stp [] w w3 → Stp [b2] w3 w' → (Ret (DecR w bs)) (.returned (.tuple #[.agg (crC crZ nilS nilS).toArray, .int .i64 e])) w' := fun e w' w3 h1 h2 h3 h4 => by
    have hS' := h3.own h4 (fun d hd => by simp at hd; subst hd; exact .inr hbv2)
    have hF : decF bs = crZ := by unfold decF; rw [h2, if_neg h1]
    exact .mk ⟨_, by rw [h2], fun X hX => by rw [hF]; exact ⟨_, _, rfl, nilSlv _ _, nilSlv _ _⟩, hS'⟩
  by_cases he : e7 = 0
  · rw [if_pos he] at hE
    have m4 := hrow4.slv0.max
    have m5 := hrow5.slv0.max
    have s4 := hrow4.slv0
    have s5 := hrow5.slv0
    have t4 : ((p4.2.length : Nat) : Int).tmod 2 = ((p4.2.length % 2 : Nat) : Int) := by rw [Int.tmod_eq_emod_of_nonneg (by omega)]; omega
    have t5 : ((p5.2.length : Nat) : Int).tmod 2 = ((p5.2.length % 2 : Nat) : Int) := by rw [Int.tmod_eq_emod_of_nonneg (by omega)]; omega
    by_cases hodd : p4.2.length % 2 = 1 ∨ p5.2.length % 2 = 1
    · rw [if_pos hodd] at hE
      repeat' (first | refine W1 ?_ | (exfalso; omega) | refine WL_split rfl rfl (fun hg => ?_) (fun hg => ?_) | refine WL_splitB rfl rfl (fun hg => ?_) (fun hg => ?_) | refine WC_cond rfl (fun hc => ?_) (fun hc => ?_) | refine WC_condB rfl (fun hc => ?_) (fun hc => ?_))
      all_goals
        refine WL_build (vs := []) rfl buildCr0 rfl ?_
        refine W ?_
        refine WL_eff0 (OE_storeA (us := crC crZ nilS nilS) rfl rfl rfl rfl (crC_one (q := crZ) (nilSlv [] w) (nilSlv [] w)) e2 rfl) ?_
        rintro _ w9 ⟨hT, e2'⟩
        refine W ?_
        refine WQ_retct rfl rfl rfl e2' rfl rfl ?_
        exact bad 7 _ _ (by decide) hE hS hT
    · rw [if_neg hodd] at hE
      repeat' (first | refine W1 ?_ | (exfalso; omega) | refine WL_split rfl rfl (fun hg => ?_) (fun hg => ?_) | refine WL_splitB rfl rfl (fun hg => ?_) (fun hg => ?_) | refine WC_cond rfl (fun hc => ?_) (fun hc => ?_) | refine WC_condB rfl (fun hc => ?_) (fun hc => ?_))
      refine WL_eff (OE_call rfl (evs1 rfl) (pairedR_any _ p4.2 _ (by omega) s4)) rfl ?_
      rintro kc w7 ⟨hk4, hT⟩
      have hz7 := hS.size
      have o4 : ∀ d ∈ ob kc, b2 < d := fun d hd => by have := (hk4.ob_le d hd).1; have := e2.lt; omega
      replace hk4 := hk4.lower hz7
      replace s5 := s5.up hT
      replace e2 := e2.up hT
      replace hS := hS.trans hT
      clear hT s4 hrow4 hrow5
      refine W ?_
      refine WL_eff (OE_call rfl (evs1 rfl) (pairedR_any _ p5.2 _ (by omega) s5)) rfl ?_
      rintro kd w8 ⟨hk5, hT⟩
      have hz8 := hS.size
      have o5 : ∀ d ∈ ob kd, b2 < d := fun d hd => by have := (hk5.ob_le d hd).1; have := e2.lt; omega
      replace hk5 := hk5.lower hz8
      replace hk4 := hk4.up hT
      replace e2 := e2.up hT
      replace hS := hS.trans hT
      clear hT s5
      have c4 := hk4.slv0
      have c5 := hk5.slv0
      obtain ⟨pc, cc, rfl, -⟩ := id c4
      obtain ⟨pd, cd, rfl, -⟩ := id c5
      refine W ?_
      refine WL_build (vs := [(0, str p1.2), (1, .int .i64 p2.2), (2, str p3.2), (3, .slice pc _ cc), (4, .slice pd _ cd), (5, str p6.2), (6, str p7.2)]) rfl (buildCr ⟨p1.2, p2.2, p3.2, pairF p4.2, pairF p5.2, p6.2, p7.2⟩ _ _ _ _ _ _) rfl ?_
      rw [← hQ]
      refine WL_eff OE_alloc rfl ?_
      rintro _ w9 ⟨b13, rfl, hb13, e13, hT⟩
      have n13 : b2 ≠ b13 := by have := e2.lt; omega
      have q4 : SlV [] w8 (.slice pc (pairF p4.2).length cc) (decQ bs).cnd := by rw [hQ]; exact c4
      have q5 : SlV [] w8 (.slice pd (pairF p5.2).length cd) (decQ bs).due := by rw [hQ]; exact c5
      refine WL_eff0 (OE_storeA (us := crC (decQ bs) (.slice pc (pairF p4.2).length cc) (.slice pd (pairF p5.2).length cd)) rfl rfl rfl rfl (crC_one q4 q5) e13 rfl) ?_
      rintro _ w10 ⟨hT2, e13'⟩
      have hT3 := hT.own hT2 (fun d hd => by simp at hd; subst hd; exact .inr hb13)
      replace e2 := e2.up hT3
      replace hk4 := hk4.up hT3
      replace hk5 := hk5.up hT3
      replace q4 := q4.up hT3
      replace q5 := q5.up hT3
      replace hS := hS.trans hT3
      clear hT hT2 e13 hT3 c4 c5
      refine W ?_
      refine WL_eff (OE_call rfl (evs1 rfl) (CheckCR_any _ (decQ bs) _ ⟨_, _, rfl, q4, q5⟩)) rfl ?_
      rintro _ w11 ⟨rfl, hT⟩
      replace e2 := e2.up hT
      replace e13' := e13'.up hT
      replace hk4 := hk4.up hT
      replace hk5 := hk5.up hT
      replace q4 := q4.up hT
      replace q5 := q5.up hT
      replace hS := hS.trans hT
      clear hT
      by_cases hck : chkC (decQ bs) = 0
      · rw [if_pos hck] at hE
        have hF : decF bs = decQ bs := by unfold decF; rw [if_pos hE]
        repeat' (first | refine W1 ?_ | (exfalso; omega) | refine WL_split rfl rfl (fun hg => ?_) (fun hg => ?_) | refine WL_splitB rfl rfl (fun hg => ?_) (fun hg => ?_) | refine WC_cond rfl (fun hc => ?_) (fun hc => ?_) | refine WC_condB rfl (fun hc => ?_) (fun hc => ?_))
        refine WL_eff0 (OE_storeA (us := crC (decQ bs) (.slice pc (pairF p4.2).length cc) (.slice pd (pairF p5.2).length cd)) rfl rfl rfl rfl (crC_one q4 q5) e2 rfl) ?_
        rintro _ w12 ⟨hT, e2'⟩
        refine W ?_
        refine WQ_retct rfl rfl rfl e2' rfl rfl ?_
        have hS' := hS.own hT (fun d hd => by simp at hd; subst hd; exact .inr hbv2)
        refine .mk ⟨_, by rw [hE], fun X hX => ?_, hS'⟩
        rw [hF]
        have x4 : SlV (b2 :: X) w11 (.slice pc (pairF p4.2).length cc) (decQ bs).cnd := by
          rw [hQ]
          exact (Row.anyX' hk4).slvX (fun d hd hd' => by
            rcases List.mem_cons.1 hd with h | h
            · have := o4 d hd'; omega
            · have := (hk4.ob_le d hd').1; have := hX d h; omega)
        have x5 : SlV (b2 :: X) w11 (.slice pd (pairF p5.2).length cd) (decQ bs).due := by
          rw [hQ]
          exact (Row.anyX' hk5).slvX (fun d hd hd' => by
            rcases List.mem_cons.1 hd with h | h
            · have := o5 d hd'; omega
            · have := (hk5.ob_le d hd').1; have := hX d h; omega)
        exact ⟨_, _, rfl, x4.ext hT (fun d hd => by simp at hd; simp [hd]) (fun d hd => .inl (List.mem_cons_of_mem _ hd)), x5.ext hT (fun d hd => by simp at hd; simp [hd]) (fun d hd => .inl (List.mem_cons_of_mem _ hd))⟩
      · rw [if_neg hck] at hE
        repeat' (first | refine W1 ?_ | (exfalso; omega) | refine WL_split rfl rfl (fun hg => ?_) (fun hg => ?_) | refine WL_splitB rfl rfl (fun hg => ?_) (fun hg => ?_) | refine WC_cond rfl (fun hc => ?_) (fun hc => ?_) | refine WC_condB rfl (fun hc => ?_) (fun hc => ?_))
        refine WL_build (vs := []) rfl buildCr0 rfl ?_
        refine W ?_
        refine WL_eff0 (OE_storeA (us := crC crZ nilS nilS) rfl rfl rfl rfl (crC_one (q := crZ) (nilSlv [] w) (nilSlv [] w)) e2 rfl) ?_
        rintro _ w12 ⟨hT, e2'⟩
        refine W ?_
        refine WQ_retct rfl rfl rfl e2' rfl rfl ?_
        exact bad 22 _ _ (by decide) hE hS hT
  · rw [if_neg he] at hE
    repeat' (first | refine W1 ?_ | (exfalso; omega) | refine WL_split rfl rfl (fun hg => ?_) (fun hg => ?_) | refine WL_splitB rfl rfl (fun hg => ?_) (fun hg => ?_) | refine WC_cond rfl (fun hc => ?_) (fun hc => ?_) | refine WC_condB rfl (fun hc => ?_) (fun hc => ?_))
    refine WL_build (vs := []) rfl buildCr0 rfl ?_
    refine W ?_
    refine WL_eff0 (OE_storeA (us := crC crZ nilS nilS) rfl rfl rfl rfl (crC_one (q := crZ) (nilSlv [] w) (nilSlv [] w)) e2 rfl) ?_
    rintro _ w9 ⟨hT, e2'⟩
    refine W ?_
    refine WQ_retct rfl rfl rfl e2' rfl rfl ?_
    exact bad e7 _ _ he hE hS hT
end Go.Proofs.YtgpibcgebpgmiaaDoor


/-
The walk engine, part 22: a region in a round of a range over a function (the wide fence).
-/
namespace Go.Eng
open Go Go.RowKit Go.Proofs
set_option linter.unusedVariables false
def noDefer (o : Oper) : Bool := match o.op with | .defer _ => false | _ => true
theorem noDefer_ne {o : Oper} (h : noDefer o = true) : ∀ c, o.op ≠ .defer c := by
  intro c hc
  simp [noDefer, hc] at h
section
variable {P : Program} {n m : Nat} {Q : Exit → Act → World → Prop} {ops : Array Oper} {md : Region.Mode} {l : Nat}
theorem wp_inRound {o : Oper} (hd : noDefer o = true) {a : Act} {w : World} {K : Act → World → Prop} (h : o.wp P a w K (fun _ _ _ => False)) : o.wpIn (Fence.wide.inRound l) m P a w K Q := by
  refine ⟨fun f _ => trivial, ?_⟩
  rw [Oper.semAt_eq _ _ _ (noDefer_ne hd)]
  unfold Oper.wp at h
  generalize (execOp a.eval o).run P w = r at h ⊢
  cases r with
  | ok x w' =>
    cases x with
    | enter f args =>
      refine ⟨(fun h => by cases h), CallsIn.inRound l (callsIn_wide.2 (Calls.mono h ?_))⟩
      intro e w2 he
      cases e with
      | returned v => exact he
      | panicked ch => exact he.elim
      | outgrown => obtain ⟨_, _, hx⟩ := he; exact hx.elim
    | row row args => exact ⟨(fun h => by cases h), fun c cs _ => let ⟨v, w2, r, s⟩ := h c cs; ⟨v, w2, r, stepsIn_wide.2 s⟩⟩
    | round l2 f2 tm2 as2 bd2 => exact h.elim
    | _ => exact h
  | halt x w' => cases x <;> exact h.elim
theorem wpOp_inRound (hd : ∀ o ∈ ops, noDefer o = true) {i : Nat} {a : Act} {w : World} {K : Act → World → Prop} (h : wpOp P ops (fun _ _ _ => False) i K a w) : wpOpIn (Fence.wide.inRound l) m P ops Q i K a w := by
  unfold wpOp at h
  unfold wpOpIn
  split
  · rename_i ho
    rw [ho] at h
    exact h
  · rename_i o ho
    rw [ho] at h
    dsimp only at h
    split
    · rename_i hw
      rw [if_pos hw] at h
      rcases h with h | ⟨_, _, _, hx⟩
      · exact wp_inRound (hd o (Array.mem_of_getElem? ho)) h
      · exact hx.elim
    · rename_i hw
      rw [if_neg hw] at h
      exact ⟨fun f _ => trivial, h⟩
theorem wpAny_inRound {S : List Nat} {Lt : Nat → Bool} {Z : Act → World → Prop} (hZ : ∀ a w, Z a w → Q .normal a w) (hd : ∀ o ∈ ops, noDefer o = true) : ∀ (fuel : Nat) (listed : Array Bool) (a : Act) (w : World), wpAnyE P md ops S Lt Z fuel listed a w → wpAnyIn (Fence.wide.inRound l) m P md ops Q fuel listed a w
  | 0, _, _, _, h => ⟨h.1, hZ _ _ h.2⟩
  | fuel + 1, listed, a, w, h => ⟨fun h0 => hZ _ _ (h.1 h0), fun i hi => wpOpIn_mono (fun a w h => wpAny_inRound hZ hd fuel _ a w h.2) (wpOp_inRound hd (h.2 i hi))⟩
/-- a drawn region in a round -/
theorem WC_drawnIn {id : Nat} {ll : List Oper} {e : Env} {w : World} {a : Act} (ha : Has n e a) (k : Nat) (S : List Nat) (Lt : List Nat) (ord : List (Nat × Nat)) (hlm : ll.length = k) (hm : P.follows .mixedOrders = true) (hs : Region.noSelect ll.toArray = true) (hl : Nat.beq (wt ord) ll.length = true)
    (hB : checkD ll.toArray Lt ord (Array.replicate k false) = true) (hd : ll.all noDefer = true)
    (h : ∀ w', Stp [] w w' → WD P n ll.toArray S Lt Q ord e w') : (Code.region id ll.toArray true).wpIn (Fence.wide.inRound l) m P Q a w := by
  subst hlm
  refine wpIn_region_any hm ?_
  have h1 := (h { w with drawn := w.drawn + 1 } (Stp.drew [] w)).h _ hs hB a ha
  have h2 := wpAny_inRound (l := l) (m := m) (Q := Q) (fun a w hz => hz) (fun o ho => List.all_eq_true.1 hd o (by simpa using ho)) _ _ _ _ h1
  rw [Nat.eq_of_beq_eq_true hl] at h2
  simpa using h2
end
end Go.Eng

